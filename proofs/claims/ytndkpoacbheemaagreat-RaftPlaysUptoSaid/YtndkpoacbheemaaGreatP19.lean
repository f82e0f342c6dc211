/- A part of the proof: what the functions of the program answer, as plain lists and numbers. -/
import Derived.Test.YtndkpoacbheemaaGreatP8
namespace Go.Pm
set_option linter.unusedVariables false
open Go.Proofs
variable {r : R3} {n : Nat} {H : List AObj} {E : List Nat}
set_option linter.unusedVariables false
set_option maxRecDepth 100000
theorem ref19_Run_hear_of {x0 x1 : AV} (hh : (fun n => (
 newK x1 H fun a1 H1 E1 =>
 (offA a1 2).bind fun a2 =>
 (loadA false 1 a2 H1).bind fun a3 =>
 (nilA x0).bind fun a4 =>
 (offA a4 0).bind fun a5 =>
 (offA a5 0).bind fun a6 =>
 (loadA false 1 a6 H1).bind fun a7 =>
 (binA .neq tI cT false a3 a7).bind fun a8 =>
 splitK a8
 (endB false false n (.tup []) H1 (E1 ++ []))
 ((offA a1 1).bind fun a9 =>
 (loadA false 1 a9 H1).bind fun a10 =>
 (nilA x0).bind fun a11 =>
 (offA a11 0).bind fun a12 =>
 (offA a12 0).bind fun a13 =>
 (loadA false 1 a13 H1).bind fun a14 =>
 (binA .eql tI cT false a10 a14).bind fun a15 =>
 splitK a15
 (endB false false n (.tup []) H1 (E1 ++ []))
 ((offA a1 1).bind fun a16 =>
 (loadA false 1 a16 H1).bind fun a17 =>
 (binA .lss tI cT true a17 (.int .i64 1)).bind fun a18 =>
 splitK a18
 (endB false false n (.tup []) H1 (E1 ++ []))
 ((offA a1 1).bind fun a19 =>
 (loadA false 1 a19 H1).bind fun a20 =>
 (binA .gtr tI cT true a20 (.int .i64 7)).bind fun a21 =>
 splitK a21
 (endB false false n (.tup []) H1 (E1 ++ []))
 ((offA a1 3).bind fun a22 =>
 (loadA false 1 a22 H1).bind fun a23 =>
 (binA .lss tI cT true a23 (.int .i64 1)).bind fun a24 =>
 splitK a24
 (endB false false n (.tup []) H1 (E1 ++ []))
 ((offA a1 3).bind fun a25 =>
 (loadA false 1 a25 H1).bind fun a26 =>
 (binA .gtr tI cT true a26 (.int .i64 1152921504606846976)).bind fun a27 =>
 splitK a27
 (endB false false n (.tup []) H1 (E1 ++ []))
 ((offA a1 4).bind fun a28 =>
 (loadA false 1 a28 H1).bind fun a29 =>
 (callD (EV C) n_ref19_count [a29] H1).bind fun a30 =>
 (unA .not a30).bind fun a31 =>
 splitK a31
 (endB false false n (.tup []) H1 (E1 ++ []))
 ((offA a1 5).bind fun a32 =>
 (loadA false 1 a32 H1).bind fun a33 =>
 (callD (EV C) n_ref19_count [a33] H1).bind fun a34 =>
 (unA .not a34).bind fun a35 =>
 splitK a35
 (endB false false n (.tup []) H1 (E1 ++ []))
 ((offA a1 6).bind fun a36 =>
 (loadA false 1 a36 H1).bind fun a37 =>
 (callD (EV C) n_ref19_count [a37] H1).bind fun a38 =>
 (unA .not a38).bind fun a39 =>
 condK a39
 (endB false false n (.tup []) H1 (E1 ++ []))
 ((offA a1 3).bind fun a40 =>
 (loadA false 1 a40 H1).bind fun a41 =>
 (nilA x0).bind fun a42 =>
 (offA a42 0).bind fun a43 =>
 (offA a43 1).bind fun a44 =>
 (loadA false 1 a44 H1).bind fun a45 =>
 (binA .gtr tI cT false a41 a45).bind fun a46 =>
 condK a46
 ((offA a1 3).bind fun a47 =>
 (loadA false 1 a47 H1).bind fun a48 =>
 (nilA x0).bind fun a49 =>
 (offA a49 0).bind fun a50 =>
 (offA a50 1).bind fun a51 =>
 stoK 1 a51 a48 H1 fun H52 E52 =>
 (nilA x0).bind fun a53 =>
 (offA a53 0).bind fun a54 =>
 (offA a54 2).bind fun a55 =>
 stoK 1 a55 z0 H52 fun H56 E56 =>
 (nilA x0).bind fun a57 =>
 (offA a57 0).bind fun a58 =>
 (offA a58 4).bind fun a59 =>
 stoK 1 a59 z0 H56 fun H60 E60 =>
 (nilA x0).bind fun a61 =>
 (offA a61 0).bind fun a62 =>
 (offA a62 3).bind fun a63 =>
 stoK 1 a63 z0 H60 fun H64 E64 =>
 (nilA x0).bind fun a65 =>
 (offA a65 0).bind fun a66 =>
 (offA a66 10).bind fun a67 =>
 stoK 1 a67 .nils H64 fun H68 E68 =>
 (offA a1 3).bind fun a69 =>
 (loadA false 1 a69 H68).bind fun a70 =>
 (nilA x0).bind fun a71 =>
 (offA a71 0).bind fun a72 =>
 (offA a72 1).bind fun a73 =>
 (loadA false 1 a73 H68).bind fun a74 =>
 (binA .lss tI cT false a70 a74).bind fun a75 =>
 (offA a1 0).bind fun a76 =>
 (loadA false 1 a76 H68).bind fun a77 =>
 (binA .eql tI cT true a77 (.int .i64 1)).bind fun a78 =>
 condK a78
 ((unA .not a75).bind fun a79 =>
 splitK a79
 ((nilA x0).bind fun a80 =>
 (offA a80 0).bind fun a81 =>
 (offA a81 3).bind fun a82 =>
 (loadA false 1 a82 H68).bind fun a83 =>
 (binA .eql tI cT true a83 z0).bind fun a84 =>
 splitK a84
 ((nilA x0).bind fun a85 =>
 (offA a85 0).bind fun a86 =>
 (offA a86 2).bind fun a87 =>
 (loadA false 1 a87 H68).bind fun a88 =>
 (binA .eql tI cT true a88 z0).bind fun a89 =>
 splitK a89
 ((offA a1 5).bind fun a90 =>
 (loadA false 1 a90 H68).bind fun a91 =>
 callK (EV C) false n_ref19_Run_top [x0] H68 fun a92 H92 E92 =>
 drawK (((loadA false 1 a90 H92).bind fun a93 =>
 some a93) = some a91)
 ((binA .gtr tI cT false a91 a92).bind fun a94 =>
 splitK a94
 ((offA a1 1).bind fun a95 =>
 (loadA false 1 a95 H92).bind fun a96 =>
 (nilA x0).bind fun a97 =>
 (offA a97 0).bind fun a98 =>
 (offA a98 2).bind fun a99 =>
 stoK 1 a99 a96 H92 fun H100 E100 =>
 (nilA x0).bind fun a101 =>
 (offA a101 0).bind fun a102 =>
 (offA a102 27).bind fun a103 =>
 stoK 1 a103 z0 H100 fun H104 E104 =>
 (offA a1 1).bind fun a105 =>
 (loadA false 1 a105 H104).bind fun a106 =>
 (fillB (AV.cells (.agg [z0, z0, z0, z0, z0, z0, z0, (.bool false), .nils, .nils, z0, .nils, z0, .nils, .nils, .nils, .nils])) [(0, 1, (.int .i64 2)), (7, 1, (.bool true))]).bind fun c107 =>
 callK (EV C) false n_ref19_Run_say [x0, a106, (.agg c107)] H104 fun a108 H108 E108 =>
 endB false false n (.tup []) H108 (E108 ++ (E104 ++ (E100 ++ (E92 ++ (E68 ++ (E64 ++ (E60 ++ (E56 ++ (E52 ++ (E1 ++ [])))))))))))
 ((offA a1 5).bind fun a109 =>
 (loadA false 1 a109 H92).bind fun a110 =>
 callK (EV C) false n_ref19_Run_top [x0] H92 fun a111 H111 E111 =>
 drawK (((loadA false 1 a109 H111).bind fun a112 =>
 some a112) = some a110)
 ((binA .eql tI cT false a110 a111).bind fun a113 =>
 splitK a113
 ((offA a1 4).bind fun a114 =>
 (loadA false 1 a114 H111).bind fun a115 =>
 callK (EV C) false n_ref19_Run_last [x0] H111 fun a116 H116 E116 =>
 drawK (((loadA false 1 a114 H116).bind fun a117 =>
 some a117) = some a115)
 ((binA .geq tI cT false a115 a116).bind fun a118 =>
 condK a118
 ((offA a1 1).bind fun a119 =>
 (loadA false 1 a119 H116).bind fun a120 =>
 (nilA x0).bind fun a121 =>
 (offA a121 0).bind fun a122 =>
 (offA a122 2).bind fun a123 =>
 stoK 1 a123 a120 H116 fun H124 E124 =>
 (nilA x0).bind fun a125 =>
 (offA a125 0).bind fun a126 =>
 (offA a126 27).bind fun a127 =>
 stoK 1 a127 z0 H124 fun H128 E128 =>
 (offA a1 1).bind fun a129 =>
 (loadA false 1 a129 H128).bind fun a130 =>
 (fillB (AV.cells (.agg [z0, z0, z0, z0, z0, z0, z0, (.bool false), .nils, .nils, z0, .nils, z0, .nils, .nils, .nils, .nils])) [(0, 1, (.int .i64 2)), (7, 1, a118)]).bind fun c131 =>
 callK (EV C) false n_ref19_Run_say [x0, a130, (.agg c131)] H128 fun a132 H132 E132 =>
 endB false false n (.tup []) H132 (E132 ++ (E128 ++ (E124 ++ (E116 ++ (E111 ++ (E92 ++ (E68 ++ (E64 ++ (E60 ++ (E56 ++ (E52 ++ (E1 ++ [])))))))))))))
 ((offA a1 1).bind fun a133 =>
 (loadA false 1 a133 H116).bind fun a134 =>
 (fillB (AV.cells (.agg [z0, z0, z0, z0, z0, z0, z0, (.bool false), .nils, .nils, z0, .nils, z0, .nils, .nils, .nils, .nils])) [(0, 1, (.int .i64 2)), (7, 1, a118)]).bind fun c135 =>
 callK (EV C) false n_ref19_Run_say [x0, a134, (.agg c135)] H116 fun a136 H136 E136 =>
 endB false false n (.tup []) H136 (E136 ++ (E116 ++ (E111 ++ (E92 ++ (E68 ++ (E64 ++ (E60 ++ (E56 ++ (E52 ++ (E1 ++ [])))))))))))))
 ((offA a1 1).bind fun a137 =>
 (loadA false 1 a137 H111).bind fun a138 =>
 (fillB (AV.cells (.agg [z0, z0, z0, z0, z0, z0, z0, (.bool false), .nils, .nils, z0, .nils, z0, .nils, .nils, .nils, .nils])) [(0, 1, (.int .i64 2)), (7, 1, (.bool false))]).bind fun c139 =>
 callK (EV C) false n_ref19_Run_say [x0, a138, (.agg c139)] H111 fun a140 H140 E140 =>
 endB false false n (.tup []) H140 (E140 ++ (E111 ++ (E92 ++ (E68 ++ (E64 ++ (E60 ++ (E56 ++ (E52 ++ (E1 ++ []))))))))))))))
 ((nilA x0).bind fun a141 =>
 (offA a141 0).bind fun a142 =>
 (offA a142 2).bind fun a143 =>
 (loadA false 1 a143 H68).bind fun a144 =>
 (offA a1 1).bind fun a145 =>
 (loadA false 1 a145 H68).bind fun a146 =>
 (binA .eql tI cT false a144 a146).bind fun a147 =>
 splitK a147
 ((offA a1 5).bind fun a148 =>
 (loadA false 1 a148 H68).bind fun a149 =>
 callK (EV C) false n_ref19_Run_top [x0] H68 fun a150 H150 E150 =>
 drawK (((loadA false 1 a148 H150).bind fun a151 =>
 some a151) = some a149)
 ((binA .gtr tI cT false a149 a150).bind fun a152 =>
 splitK a152
 ((offA a1 1).bind fun a153 =>
 (loadA false 1 a153 H150).bind fun a154 =>
 (nilA x0).bind fun a155 =>
 (offA a155 0).bind fun a156 =>
 (offA a156 2).bind fun a157 =>
 stoK 1 a157 a154 H150 fun H158 E158 =>
 (nilA x0).bind fun a159 =>
 (offA a159 0).bind fun a160 =>
 (offA a160 27).bind fun a161 =>
 stoK 1 a161 z0 H158 fun H162 E162 =>
 (offA a1 1).bind fun a163 =>
 (loadA false 1 a163 H162).bind fun a164 =>
 (fillB (AV.cells (.agg [z0, z0, z0, z0, z0, z0, z0, (.bool false), .nils, .nils, z0, .nils, z0, .nils, .nils, .nils, .nils])) [(0, 1, (.int .i64 2)), (7, 1, (.bool true))]).bind fun c165 =>
 callK (EV C) false n_ref19_Run_say [x0, a164, (.agg c165)] H162 fun a166 H166 E166 =>
 endB false false n (.tup []) H166 (E166 ++ (E162 ++ (E158 ++ (E150 ++ (E68 ++ (E64 ++ (E60 ++ (E56 ++ (E52 ++ (E1 ++ [])))))))))))
 ((offA a1 5).bind fun a167 =>
 (loadA false 1 a167 H150).bind fun a168 =>
 callK (EV C) false n_ref19_Run_top [x0] H150 fun a169 H169 E169 =>
 drawK (((loadA false 1 a167 H169).bind fun a170 =>
 some a170) = some a168)
 ((binA .eql tI cT false a168 a169).bind fun a171 =>
 splitK a171
 ((offA a1 4).bind fun a172 =>
 (loadA false 1 a172 H169).bind fun a173 =>
 callK (EV C) false n_ref19_Run_last [x0] H169 fun a174 H174 E174 =>
 drawK (((loadA false 1 a172 H174).bind fun a175 =>
 some a175) = some a173)
 ((binA .geq tI cT false a173 a174).bind fun a176 =>
 condK a176
 ((offA a1 1).bind fun a177 =>
 (loadA false 1 a177 H174).bind fun a178 =>
 (nilA x0).bind fun a179 =>
 (offA a179 0).bind fun a180 =>
 (offA a180 2).bind fun a181 =>
 stoK 1 a181 a178 H174 fun H182 E182 =>
 (nilA x0).bind fun a183 =>
 (offA a183 0).bind fun a184 =>
 (offA a184 27).bind fun a185 =>
 stoK 1 a185 z0 H182 fun H186 E186 =>
 (offA a1 1).bind fun a187 =>
 (loadA false 1 a187 H186).bind fun a188 =>
 (fillB (AV.cells (.agg [z0, z0, z0, z0, z0, z0, z0, (.bool false), .nils, .nils, z0, .nils, z0, .nils, .nils, .nils, .nils])) [(0, 1, (.int .i64 2)), (7, 1, a176)]).bind fun c189 =>
 callK (EV C) false n_ref19_Run_say [x0, a188, (.agg c189)] H186 fun a190 H190 E190 =>
 endB false false n (.tup []) H190 (E190 ++ (E186 ++ (E182 ++ (E174 ++ (E169 ++ (E150 ++ (E68 ++ (E64 ++ (E60 ++ (E56 ++ (E52 ++ (E1 ++ [])))))))))))))
 ((offA a1 1).bind fun a191 =>
 (loadA false 1 a191 H174).bind fun a192 =>
 (fillB (AV.cells (.agg [z0, z0, z0, z0, z0, z0, z0, (.bool false), .nils, .nils, z0, .nils, z0, .nils, .nils, .nils, .nils])) [(0, 1, (.int .i64 2)), (7, 1, a176)]).bind fun c193 =>
 callK (EV C) false n_ref19_Run_say [x0, a192, (.agg c193)] H174 fun a194 H194 E194 =>
 endB false false n (.tup []) H194 (E194 ++ (E174 ++ (E169 ++ (E150 ++ (E68 ++ (E64 ++ (E60 ++ (E56 ++ (E52 ++ (E1 ++ [])))))))))))))
 ((offA a1 1).bind fun a195 =>
 (loadA false 1 a195 H169).bind fun a196 =>
 (fillB (AV.cells (.agg [z0, z0, z0, z0, z0, z0, z0, (.bool false), .nils, .nils, z0, .nils, z0, .nils, .nils, .nils, .nils])) [(0, 1, (.int .i64 2)), (7, 1, (.bool false))]).bind fun c197 =>
 callK (EV C) false n_ref19_Run_say [x0, a196, (.agg c197)] H169 fun a198 H198 E198 =>
 endB false false n (.tup []) H198 (E198 ++ (E169 ++ (E150 ++ (E68 ++ (E64 ++ (E60 ++ (E56 ++ (E52 ++ (E1 ++ []))))))))))))))
 ((offA a1 1).bind fun a199 =>
 (loadA false 1 a199 H68).bind fun a200 =>
 (fillB (AV.cells (.agg [z0, z0, z0, z0, z0, z0, z0, (.bool false), .nils, .nils, z0, .nils, z0, .nils, .nils, .nils, .nils])) [(0, 1, (.int .i64 2)), (7, 1, (.bool false))]).bind fun c201 =>
 callK (EV C) false n_ref19_Run_say [x0, a200, (.agg c201)] H68 fun a202 H202 E202 =>
 endB false false n (.tup []) H202 (E202 ++ (E68 ++ (E64 ++ (E60 ++ (E56 ++ (E52 ++ (E1 ++ []))))))))))
 ((offA a1 1).bind fun a203 =>
 (loadA false 1 a203 H68).bind fun a204 =>
 (fillB (AV.cells (.agg [z0, z0, z0, z0, z0, z0, z0, (.bool false), .nils, .nils, z0, .nils, z0, .nils, .nils, .nils, .nils])) [(0, 1, (.int .i64 2)), (7, 1, (.bool false))]).bind fun c205 =>
 callK (EV C) false n_ref19_Run_say [x0, a204, (.agg c205)] H68 fun a206 H206 E206 =>
 endB false false n (.tup []) H206 (E206 ++ (E68 ++ (E64 ++ (E60 ++ (E56 ++ (E52 ++ (E1 ++ [])))))))))
 ((offA a1 1).bind fun a207 =>
 (loadA false 1 a207 H68).bind fun a208 =>
 (fillB (AV.cells (.agg [z0, z0, z0, z0, z0, z0, z0, (.bool false), .nils, .nils, z0, .nils, z0, .nils, .nils, .nils, .nils])) [(0, 1, (.int .i64 2)), (7, 1, (.bool false))]).bind fun c209 =>
 callK (EV C) false n_ref19_Run_say [x0, a208, (.agg c209)] H68 fun a210 H210 E210 =>
 endB false false n (.tup []) H210 (E210 ++ (E68 ++ (E64 ++ (E60 ++ (E56 ++ (E52 ++ (E1 ++ [])))))))))
 ((binA .eql tI cT true a77 (.int .i64 2)).bind fun a211 =>
 condK a211
 (splitK a75
 (endB false false n (.tup []) H68 (E68 ++ (E64 ++ (E60 ++ (E56 ++ (E52 ++ (E1 ++ [])))))))
 ((nilA x0).bind fun a212 =>
 (offA a212 0).bind fun a213 =>
 (offA a213 3).bind fun a214 =>
 (loadA false 1 a214 H68).bind fun a215 =>
 (binA .neq tI cT true a215 (.int .i64 1)).bind fun a216 =>
 splitK a216
 (endB false false n (.tup []) H68 (E68 ++ (E64 ++ (E60 ++ (E56 ++ (E52 ++ (E1 ++ [])))))))
 ((offA a1 7).bind fun a217 =>
 (loadA false 1 a217 H68).bind fun a218 =>
 (unA .not a218).bind fun a219 =>
 condK a219
 (endB false false n (.tup []) H68 (E68 ++ (E64 ++ (E60 ++ (E56 ++ (E52 ++ (E1 ++ [])))))))
 ((nilA x0).bind fun a220 =>
 (offA a220 0).bind fun a221 =>
 (offA a221 10).bind fun a222 =>
 (loadA false 1 a222 H68).bind fun a223 =>
 (offA a1 1).bind fun a224 =>
 (loadA false 1 a224 H68).bind fun a225 =>
 (callD (EV C) n_ref17_Has [a223, a225] H68).bind fun a226 =>
 (unA .not a226).bind fun a227 =>
 condK a227
 (rawK 1 0 z0 [] H68 fun a228 H228 E228 =>
 (nilA x0).bind fun a229 =>
 (offA a229 0).bind fun a230 =>
 (offA a230 10).bind fun a231 =>
 (loadA false 1 a231 H228).bind fun a232 =>
 drawK (((loadA false 1 a231 H68).bind fun a233 =>
 some a233) = some a232)
 (appK 1 8 a228 a232 H228 fun a234 H234 E234 =>
 (offA a1 1).bind fun a235 =>
 (loadA false 1 a235 H234).bind fun a236 =>
 drawK (((loadA false 1 a235 H68).bind fun a237 =>
 some a237) = some a236)
 (drawK (((loadA false 1 a235 H228).bind fun a238 =>
 some a238) = some a236)
 ((litD 1 1 z0 [(0, a236)] H234).bind fun a239 =>
 drawK (((litD 1 1 z0 [(0, a236)] H68).bind fun a240 =>
 some a240) = some a239)
 (drawK (((litD 1 1 z0 [(0, a236)] H228).bind fun a241 =>
 some a241) = some a239)
 (appK 1 8 a234 a239 H234 fun a242 H242 E242 =>
 frzK a242 H242 fun a243 H243 =>
 (nilA x0).bind fun a244 =>
 (offA a244 0).bind fun a245 =>
 (offA a245 10).bind fun a246 =>
 stoK 1 a246 a243 H243 fun H247 E247 =>
 (nilA x0).bind fun a248 =>
 (offA a248 0).bind fun a249 =>
 (offA a249 10).bind fun a250 =>
 (loadA false 1 a250 H247).bind fun a251 =>
 callK (EV C) false n_ref19_Run_most [x0, a251] H247 fun a252 H252 E252 =>
 condK a252
 (callK (EV C) false n_ref19_Run_leads [x0] H252 fun a253 H253 E253 =>
 endB false false n (.tup []) H253 (E253 ++ (E252 ++ (E247 ++ (E242 ++ (E234 ++ (E228 ++ (E68 ++ (E64 ++ (E60 ++ (E56 ++ (E52 ++ (E1 ++ [])))))))))))))
 (endB false false n (.tup []) H252 (E252 ++ (E247 ++ (E242 ++ (E234 ++ (E228 ++ (E68 ++ (E64 ++ (E60 ++ (E56 ++ (E52 ++ (E1 ++ []))))))))))))))))))
 ((nilA x0).bind fun a254 =>
 (offA a254 0).bind fun a255 =>
 (offA a255 10).bind fun a256 =>
 (loadA false 1 a256 H68).bind fun a257 =>
 callK (EV C) false n_ref19_Run_most [x0, a257] H68 fun a258 H258 E258 =>
 condK a258
 (callK (EV C) false n_ref19_Run_leads [x0] H258 fun a259 H259 E259 =>
 endB false false n (.tup []) H259 (E259 ++ (E258 ++ (E68 ++ (E64 ++ (E60 ++ (E56 ++ (E52 ++ (E1 ++ [])))))))))
 (endB false false n (.tup []) H258 (E258 ++ (E68 ++ (E64 ++ (E60 ++ (E56 ++ (E52 ++ (E1 ++ [])))))))))))))
 ((binA .eql tI cT true a77 (.int .i64 3)).bind fun a260 =>
 condK a260
 (condK a75
 ((offA a1 1).bind fun a261 =>
 (loadA false 1 a261 H68).bind fun a262 =>
 callK (EV C) false n_ref19_Run_last [x0] H68 fun a263 H263 E263 =>
 drawK (((loadA false 1 a261 H263).bind fun a264 =>
 some a264) = some a262)
 ((fillB (AV.cells (.agg [z0, z0, z0, z0, z0, z0, z0, (.bool false), .nils, .nils, z0, .nils, z0, .nils, .nils, .nils, .nils])) [(0, 1, (.int .i64 4)), (4, 1, a263)]).bind fun c265 =>
 callK (EV C) false n_ref19_Run_say [x0, a262, (.agg c265)] H263 fun a266 H266 E266 =>
 endB false false n (.tup []) H266 (E266 ++ (E263 ++ (E68 ++ (E64 ++ (E60 ++ (E56 ++ (E52 ++ (E1 ++ []))))))))))
 ((nilA x0).bind fun a267 =>
 (offA a267 0).bind fun a268 =>
 (offA a268 3).bind fun a269 =>
 (loadA false 1 a269 H68).bind fun a270 =>
 (binA .neq tI cT true a270 (.int .i64 2)).bind fun a271 =>
 condK a271
 ((loadA true 17 a1 H68).bind fun a272 =>
 callK (EV C) false n_ref19_Run_take [x0, a272] H68 fun a273 H273 E273 =>
 endB false false n (.tup []) H273 (E273 ++ (E68 ++ (E64 ++ (E60 ++ (E56 ++ (E52 ++ (E1 ++ []))))))))
 (endB false false n (.tup []) H68 (E68 ++ (E64 ++ (E60 ++ (E56 ++ (E52 ++ (E1 ++ [])))))))))
 ((binA .eql tI cT true a77 (.int .i64 5)).bind fun a274 =>
 condK a274
 (condK a75
 ((offA a1 1).bind fun a275 =>
 (loadA false 1 a275 H68).bind fun a276 =>
 callK (EV C) false n_ref19_Run_last [x0] H68 fun a277 H277 E277 =>
 drawK (((loadA false 1 a275 H277).bind fun a278 =>
 some a278) = some a276)
 ((fillB (AV.cells (.agg [z0, z0, z0, z0, z0, z0, z0, (.bool false), .nils, .nils, z0, .nils, z0, .nils, .nils, .nils, .nils])) [(0, 1, (.int .i64 4)), (4, 1, a277)]).bind fun c279 =>
 callK (EV C) false n_ref19_Run_say [x0, a276, (.agg c279)] H277 fun a280 H280 E280 =>
 endB false false n (.tup []) H280 (E280 ++ (E277 ++ (E68 ++ (E64 ++ (E60 ++ (E56 ++ (E52 ++ (E1 ++ []))))))))))
 ((loadA true 17 a1 H68).bind fun a281 =>
 callK (EV C) false n_ref19_Run_install [x0, a281] H68 fun a282 H282 E282 =>
 endB false false n (.tup []) H282 (E282 ++ (E68 ++ (E64 ++ (E60 ++ (E56 ++ (E52 ++ (E1 ++ [])))))))))
 ((binA .eql tI cT true a77 (.int .i64 4)).bind fun a283 =>
 condK a283
 (callK (EV C) false n_ref19_Run_members [x0] H68 fun a284 H284 E284 =>
 (offA a1 1).bind fun a285 =>
 (loadA false 1 a285 H284).bind fun a286 =>
 drawK (((loadA false 1 a285 H68).bind fun a287 =>
 some a287) = some a286)
 ((callD (EV C) n_ref17_Has [a284, a286] H284).bind fun a288 =>
 (unA .not a75).bind fun a289 =>
 splitK a289
 ((nilA x0).bind fun a290 =>
 (offA a290 0).bind fun a291 =>
 (offA a291 3).bind fun a292 =>
 (loadA false 1 a292 H284).bind fun a293 =>
 (binA .eql tI cT true a293 (.int .i64 2)).bind fun a294 =>
 splitK a294
 (condK a288
 ((loadA true 17 a1 H284).bind fun a295 =>
 callK (EV C) false n_ref19_Run_acked [x0, a295] H284 fun a296 H296 E296 =>
 endB false false n (.tup []) H296 (E296 ++ (E284 ++ (E68 ++ (E64 ++ (E60 ++ (E56 ++ (E52 ++ (E1 ++ [])))))))))
 (endB false false n (.tup []) H284 (E284 ++ (E68 ++ (E64 ++ (E60 ++ (E56 ++ (E52 ++ (E1 ++ [])))))))))
 (endB false false n (.tup []) H284 (E284 ++ (E68 ++ (E64 ++ (E60 ++ (E56 ++ (E52 ++ (E1 ++ [])))))))))
 (endB false false n (.tup []) H284 (E284 ++ (E68 ++ (E64 ++ (E60 ++ (E56 ++ (E52 ++ (E1 ++ []))))))))))
 (endB false false n (.tup []) H68 (E68 ++ (E64 ++ (E60 ++ (E56 ++ (E52 ++ (E1 ++ []))))))))))))
 ((offA a1 3).bind fun a297 =>
 (loadA false 1 a297 H1).bind fun a298 =>
 (nilA x0).bind fun a299 =>
 (offA a299 0).bind fun a300 =>
 (offA a300 1).bind fun a301 =>
 (loadA false 1 a301 H1).bind fun a302 =>
 (binA .lss tI cT false a298 a302).bind fun a303 =>
 (offA a1 0).bind fun a304 =>
 (loadA false 1 a304 H1).bind fun a305 =>
 (binA .eql tI cT true a305 (.int .i64 1)).bind fun a306 =>
 condK a306
 ((unA .not a303).bind fun a307 =>
 splitK a307
 ((nilA x0).bind fun a308 =>
 (offA a308 0).bind fun a309 =>
 (offA a309 3).bind fun a310 =>
 (loadA false 1 a310 H1).bind fun a311 =>
 (binA .eql tI cT true a311 z0).bind fun a312 =>
 splitK a312
 ((nilA x0).bind fun a313 =>
 (offA a313 0).bind fun a314 =>
 (offA a314 2).bind fun a315 =>
 (loadA false 1 a315 H1).bind fun a316 =>
 (binA .eql tI cT true a316 z0).bind fun a317 =>
 splitK a317
 ((offA a1 5).bind fun a318 =>
 (loadA false 1 a318 H1).bind fun a319 =>
 callK (EV C) false n_ref19_Run_top [x0] H1 fun a320 H320 E320 =>
 drawK (((loadA false 1 a318 H320).bind fun a321 =>
 some a321) = some a319)
 ((binA .gtr tI cT false a319 a320).bind fun a322 =>
 splitK a322
 ((offA a1 1).bind fun a323 =>
 (loadA false 1 a323 H320).bind fun a324 =>
 (nilA x0).bind fun a325 =>
 (offA a325 0).bind fun a326 =>
 (offA a326 2).bind fun a327 =>
 stoK 1 a327 a324 H320 fun H328 E328 =>
 (nilA x0).bind fun a329 =>
 (offA a329 0).bind fun a330 =>
 (offA a330 27).bind fun a331 =>
 stoK 1 a331 z0 H328 fun H332 E332 =>
 (offA a1 1).bind fun a333 =>
 (loadA false 1 a333 H332).bind fun a334 =>
 (fillB (AV.cells (.agg [z0, z0, z0, z0, z0, z0, z0, (.bool false), .nils, .nils, z0, .nils, z0, .nils, .nils, .nils, .nils])) [(0, 1, (.int .i64 2)), (7, 1, (.bool true))]).bind fun c335 =>
 callK (EV C) false n_ref19_Run_say [x0, a334, (.agg c335)] H332 fun a336 H336 E336 =>
 endB false false n (.tup []) H336 (E336 ++ (E332 ++ (E328 ++ (E320 ++ (E1 ++ []))))))
 ((offA a1 5).bind fun a337 =>
 (loadA false 1 a337 H320).bind fun a338 =>
 callK (EV C) false n_ref19_Run_top [x0] H320 fun a339 H339 E339 =>
 drawK (((loadA false 1 a337 H339).bind fun a340 =>
 some a340) = some a338)
 ((binA .eql tI cT false a338 a339).bind fun a341 =>
 splitK a341
 ((offA a1 4).bind fun a342 =>
 (loadA false 1 a342 H339).bind fun a343 =>
 callK (EV C) false n_ref19_Run_last [x0] H339 fun a344 H344 E344 =>
 drawK (((loadA false 1 a342 H344).bind fun a345 =>
 some a345) = some a343)
 ((binA .geq tI cT false a343 a344).bind fun a346 =>
 condK a346
 ((offA a1 1).bind fun a347 =>
 (loadA false 1 a347 H344).bind fun a348 =>
 (nilA x0).bind fun a349 =>
 (offA a349 0).bind fun a350 =>
 (offA a350 2).bind fun a351 =>
 stoK 1 a351 a348 H344 fun H352 E352 =>
 (nilA x0).bind fun a353 =>
 (offA a353 0).bind fun a354 =>
 (offA a354 27).bind fun a355 =>
 stoK 1 a355 z0 H352 fun H356 E356 =>
 (offA a1 1).bind fun a357 =>
 (loadA false 1 a357 H356).bind fun a358 =>
 (fillB (AV.cells (.agg [z0, z0, z0, z0, z0, z0, z0, (.bool false), .nils, .nils, z0, .nils, z0, .nils, .nils, .nils, .nils])) [(0, 1, (.int .i64 2)), (7, 1, a346)]).bind fun c359 =>
 callK (EV C) false n_ref19_Run_say [x0, a358, (.agg c359)] H356 fun a360 H360 E360 =>
 endB false false n (.tup []) H360 (E360 ++ (E356 ++ (E352 ++ (E344 ++ (E339 ++ (E320 ++ (E1 ++ []))))))))
 ((offA a1 1).bind fun a361 =>
 (loadA false 1 a361 H344).bind fun a362 =>
 (fillB (AV.cells (.agg [z0, z0, z0, z0, z0, z0, z0, (.bool false), .nils, .nils, z0, .nils, z0, .nils, .nils, .nils, .nils])) [(0, 1, (.int .i64 2)), (7, 1, a346)]).bind fun c363 =>
 callK (EV C) false n_ref19_Run_say [x0, a362, (.agg c363)] H344 fun a364 H364 E364 =>
 endB false false n (.tup []) H364 (E364 ++ (E344 ++ (E339 ++ (E320 ++ (E1 ++ []))))))))
 ((offA a1 1).bind fun a365 =>
 (loadA false 1 a365 H339).bind fun a366 =>
 (fillB (AV.cells (.agg [z0, z0, z0, z0, z0, z0, z0, (.bool false), .nils, .nils, z0, .nils, z0, .nils, .nils, .nils, .nils])) [(0, 1, (.int .i64 2)), (7, 1, (.bool false))]).bind fun c367 =>
 callK (EV C) false n_ref19_Run_say [x0, a366, (.agg c367)] H339 fun a368 H368 E368 =>
 endB false false n (.tup []) H368 (E368 ++ (E339 ++ (E320 ++ (E1 ++ [])))))))))
 ((nilA x0).bind fun a369 =>
 (offA a369 0).bind fun a370 =>
 (offA a370 2).bind fun a371 =>
 (loadA false 1 a371 H1).bind fun a372 =>
 (offA a1 1).bind fun a373 =>
 (loadA false 1 a373 H1).bind fun a374 =>
 (binA .eql tI cT false a372 a374).bind fun a375 =>
 splitK a375
 ((offA a1 5).bind fun a376 =>
 (loadA false 1 a376 H1).bind fun a377 =>
 callK (EV C) false n_ref19_Run_top [x0] H1 fun a378 H378 E378 =>
 drawK (((loadA false 1 a376 H378).bind fun a379 =>
 some a379) = some a377)
 ((binA .gtr tI cT false a377 a378).bind fun a380 =>
 splitK a380
 ((offA a1 1).bind fun a381 =>
 (loadA false 1 a381 H378).bind fun a382 =>
 (nilA x0).bind fun a383 =>
 (offA a383 0).bind fun a384 =>
 (offA a384 2).bind fun a385 =>
 stoK 1 a385 a382 H378 fun H386 E386 =>
 (nilA x0).bind fun a387 =>
 (offA a387 0).bind fun a388 =>
 (offA a388 27).bind fun a389 =>
 stoK 1 a389 z0 H386 fun H390 E390 =>
 (offA a1 1).bind fun a391 =>
 (loadA false 1 a391 H390).bind fun a392 =>
 (fillB (AV.cells (.agg [z0, z0, z0, z0, z0, z0, z0, (.bool false), .nils, .nils, z0, .nils, z0, .nils, .nils, .nils, .nils])) [(0, 1, (.int .i64 2)), (7, 1, (.bool true))]).bind fun c393 =>
 callK (EV C) false n_ref19_Run_say [x0, a392, (.agg c393)] H390 fun a394 H394 E394 =>
 endB false false n (.tup []) H394 (E394 ++ (E390 ++ (E386 ++ (E378 ++ (E1 ++ []))))))
 ((offA a1 5).bind fun a395 =>
 (loadA false 1 a395 H378).bind fun a396 =>
 callK (EV C) false n_ref19_Run_top [x0] H378 fun a397 H397 E397 =>
 drawK (((loadA false 1 a395 H397).bind fun a398 =>
 some a398) = some a396)
 ((binA .eql tI cT false a396 a397).bind fun a399 =>
 splitK a399
 ((offA a1 4).bind fun a400 =>
 (loadA false 1 a400 H397).bind fun a401 =>
 callK (EV C) false n_ref19_Run_last [x0] H397 fun a402 H402 E402 =>
 drawK (((loadA false 1 a400 H402).bind fun a403 =>
 some a403) = some a401)
 ((binA .geq tI cT false a401 a402).bind fun a404 =>
 condK a404
 ((offA a1 1).bind fun a405 =>
 (loadA false 1 a405 H402).bind fun a406 =>
 (nilA x0).bind fun a407 =>
 (offA a407 0).bind fun a408 =>
 (offA a408 2).bind fun a409 =>
 stoK 1 a409 a406 H402 fun H410 E410 =>
 (nilA x0).bind fun a411 =>
 (offA a411 0).bind fun a412 =>
 (offA a412 27).bind fun a413 =>
 stoK 1 a413 z0 H410 fun H414 E414 =>
 (offA a1 1).bind fun a415 =>
 (loadA false 1 a415 H414).bind fun a416 =>
 (fillB (AV.cells (.agg [z0, z0, z0, z0, z0, z0, z0, (.bool false), .nils, .nils, z0, .nils, z0, .nils, .nils, .nils, .nils])) [(0, 1, (.int .i64 2)), (7, 1, a404)]).bind fun c417 =>
 callK (EV C) false n_ref19_Run_say [x0, a416, (.agg c417)] H414 fun a418 H418 E418 =>
 endB false false n (.tup []) H418 (E418 ++ (E414 ++ (E410 ++ (E402 ++ (E397 ++ (E378 ++ (E1 ++ []))))))))
 ((offA a1 1).bind fun a419 =>
 (loadA false 1 a419 H402).bind fun a420 =>
 (fillB (AV.cells (.agg [z0, z0, z0, z0, z0, z0, z0, (.bool false), .nils, .nils, z0, .nils, z0, .nils, .nils, .nils, .nils])) [(0, 1, (.int .i64 2)), (7, 1, a404)]).bind fun c421 =>
 callK (EV C) false n_ref19_Run_say [x0, a420, (.agg c421)] H402 fun a422 H422 E422 =>
 endB false false n (.tup []) H422 (E422 ++ (E402 ++ (E397 ++ (E378 ++ (E1 ++ []))))))))
 ((offA a1 1).bind fun a423 =>
 (loadA false 1 a423 H397).bind fun a424 =>
 (fillB (AV.cells (.agg [z0, z0, z0, z0, z0, z0, z0, (.bool false), .nils, .nils, z0, .nils, z0, .nils, .nils, .nils, .nils])) [(0, 1, (.int .i64 2)), (7, 1, (.bool false))]).bind fun c425 =>
 callK (EV C) false n_ref19_Run_say [x0, a424, (.agg c425)] H397 fun a426 H426 E426 =>
 endB false false n (.tup []) H426 (E426 ++ (E397 ++ (E378 ++ (E1 ++ [])))))))))
 ((offA a1 1).bind fun a427 =>
 (loadA false 1 a427 H1).bind fun a428 =>
 (fillB (AV.cells (.agg [z0, z0, z0, z0, z0, z0, z0, (.bool false), .nils, .nils, z0, .nils, z0, .nils, .nils, .nils, .nils])) [(0, 1, (.int .i64 2)), (7, 1, (.bool false))]).bind fun c429 =>
 callK (EV C) false n_ref19_Run_say [x0, a428, (.agg c429)] H1 fun a430 H430 E430 =>
 endB false false n (.tup []) H430 (E430 ++ (E1 ++ [])))))
 ((offA a1 1).bind fun a431 =>
 (loadA false 1 a431 H1).bind fun a432 =>
 (fillB (AV.cells (.agg [z0, z0, z0, z0, z0, z0, z0, (.bool false), .nils, .nils, z0, .nils, z0, .nils, .nils, .nils, .nils])) [(0, 1, (.int .i64 2)), (7, 1, (.bool false))]).bind fun c433 =>
 callK (EV C) false n_ref19_Run_say [x0, a432, (.agg c433)] H1 fun a434 H434 E434 =>
 endB false false n (.tup []) H434 (E434 ++ (E1 ++ []))))
 ((offA a1 1).bind fun a435 =>
 (loadA false 1 a435 H1).bind fun a436 =>
 (fillB (AV.cells (.agg [z0, z0, z0, z0, z0, z0, z0, (.bool false), .nils, .nils, z0, .nils, z0, .nils, .nils, .nils, .nils])) [(0, 1, (.int .i64 2)), (7, 1, (.bool false))]).bind fun c437 =>
 callK (EV C) false n_ref19_Run_say [x0, a436, (.agg c437)] H1 fun a438 H438 E438 =>
 endB false false n (.tup []) H438 (E438 ++ (E1 ++ []))))
 ((binA .eql tI cT true a305 (.int .i64 2)).bind fun a439 =>
 condK a439
 (splitK a303
 (endB false false n (.tup []) H1 (E1 ++ []))
 ((nilA x0).bind fun a440 =>
 (offA a440 0).bind fun a441 =>
 (offA a441 3).bind fun a442 =>
 (loadA false 1 a442 H1).bind fun a443 =>
 (binA .neq tI cT true a443 (.int .i64 1)).bind fun a444 =>
 splitK a444
 (endB false false n (.tup []) H1 (E1 ++ []))
 ((offA a1 7).bind fun a445 =>
 (loadA false 1 a445 H1).bind fun a446 =>
 (unA .not a446).bind fun a447 =>
 condK a447
 (endB false false n (.tup []) H1 (E1 ++ []))
 ((nilA x0).bind fun a448 =>
 (offA a448 0).bind fun a449 =>
 (offA a449 10).bind fun a450 =>
 (loadA false 1 a450 H1).bind fun a451 =>
 (offA a1 1).bind fun a452 =>
 (loadA false 1 a452 H1).bind fun a453 =>
 (callD (EV C) n_ref17_Has [a451, a453] H1).bind fun a454 =>
 (unA .not a454).bind fun a455 =>
 condK a455
 (rawK 1 0 z0 [] H1 fun a456 H456 E456 =>
 (nilA x0).bind fun a457 =>
 (offA a457 0).bind fun a458 =>
 (offA a458 10).bind fun a459 =>
 (loadA false 1 a459 H456).bind fun a460 =>
 drawK (((loadA false 1 a459 H1).bind fun a461 =>
 some a461) = some a460)
 (appK 1 8 a456 a460 H456 fun a462 H462 E462 =>
 (offA a1 1).bind fun a463 =>
 (loadA false 1 a463 H462).bind fun a464 =>
 drawK (((loadA false 1 a463 H1).bind fun a465 =>
 some a465) = some a464)
 (drawK (((loadA false 1 a463 H456).bind fun a466 =>
 some a466) = some a464)
 ((litD 1 1 z0 [(0, a464)] H462).bind fun a467 =>
 drawK (((litD 1 1 z0 [(0, a464)] H1).bind fun a468 =>
 some a468) = some a467)
 (drawK (((litD 1 1 z0 [(0, a464)] H456).bind fun a469 =>
 some a469) = some a467)
 (appK 1 8 a462 a467 H462 fun a470 H470 E470 =>
 frzK a470 H470 fun a471 H471 =>
 (nilA x0).bind fun a472 =>
 (offA a472 0).bind fun a473 =>
 (offA a473 10).bind fun a474 =>
 stoK 1 a474 a471 H471 fun H475 E475 =>
 (nilA x0).bind fun a476 =>
 (offA a476 0).bind fun a477 =>
 (offA a477 10).bind fun a478 =>
 (loadA false 1 a478 H475).bind fun a479 =>
 callK (EV C) false n_ref19_Run_most [x0, a479] H475 fun a480 H480 E480 =>
 condK a480
 (callK (EV C) false n_ref19_Run_leads [x0] H480 fun a481 H481 E481 =>
 endB false false n (.tup []) H481 (E481 ++ (E480 ++ (E475 ++ (E470 ++ (E462 ++ (E456 ++ (E1 ++ []))))))))
 (endB false false n (.tup []) H480 (E480 ++ (E475 ++ (E470 ++ (E462 ++ (E456 ++ (E1 ++ [])))))))))))))
 ((nilA x0).bind fun a482 =>
 (offA a482 0).bind fun a483 =>
 (offA a483 10).bind fun a484 =>
 (loadA false 1 a484 H1).bind fun a485 =>
 callK (EV C) false n_ref19_Run_most [x0, a485] H1 fun a486 H486 E486 =>
 condK a486
 (callK (EV C) false n_ref19_Run_leads [x0] H486 fun a487 H487 E487 =>
 endB false false n (.tup []) H487 (E487 ++ (E486 ++ (E1 ++ []))))
 (endB false false n (.tup []) H486 (E486 ++ (E1 ++ []))))))))
 ((binA .eql tI cT true a305 (.int .i64 3)).bind fun a488 =>
 condK a488
 (condK a303
 ((offA a1 1).bind fun a489 =>
 (loadA false 1 a489 H1).bind fun a490 =>
 callK (EV C) false n_ref19_Run_last [x0] H1 fun a491 H491 E491 =>
 drawK (((loadA false 1 a489 H491).bind fun a492 =>
 some a492) = some a490)
 ((fillB (AV.cells (.agg [z0, z0, z0, z0, z0, z0, z0, (.bool false), .nils, .nils, z0, .nils, z0, .nils, .nils, .nils, .nils])) [(0, 1, (.int .i64 4)), (4, 1, a491)]).bind fun c493 =>
 callK (EV C) false n_ref19_Run_say [x0, a490, (.agg c493)] H491 fun a494 H494 E494 =>
 endB false false n (.tup []) H494 (E494 ++ (E491 ++ (E1 ++ [])))))
 ((nilA x0).bind fun a495 =>
 (offA a495 0).bind fun a496 =>
 (offA a496 3).bind fun a497 =>
 (loadA false 1 a497 H1).bind fun a498 =>
 (binA .neq tI cT true a498 (.int .i64 2)).bind fun a499 =>
 condK a499
 ((loadA true 17 a1 H1).bind fun a500 =>
 callK (EV C) false n_ref19_Run_take [x0, a500] H1 fun a501 H501 E501 =>
 endB false false n (.tup []) H501 (E501 ++ (E1 ++ [])))
 (endB false false n (.tup []) H1 (E1 ++ []))))
 ((binA .eql tI cT true a305 (.int .i64 5)).bind fun a502 =>
 condK a502
 (condK a303
 ((offA a1 1).bind fun a503 =>
 (loadA false 1 a503 H1).bind fun a504 =>
 callK (EV C) false n_ref19_Run_last [x0] H1 fun a505 H505 E505 =>
 drawK (((loadA false 1 a503 H505).bind fun a506 =>
 some a506) = some a504)
 ((fillB (AV.cells (.agg [z0, z0, z0, z0, z0, z0, z0, (.bool false), .nils, .nils, z0, .nils, z0, .nils, .nils, .nils, .nils])) [(0, 1, (.int .i64 4)), (4, 1, a505)]).bind fun c507 =>
 callK (EV C) false n_ref19_Run_say [x0, a504, (.agg c507)] H505 fun a508 H508 E508 =>
 endB false false n (.tup []) H508 (E508 ++ (E505 ++ (E1 ++ [])))))
 ((loadA true 17 a1 H1).bind fun a509 =>
 callK (EV C) false n_ref19_Run_install [x0, a509] H1 fun a510 H510 E510 =>
 endB false false n (.tup []) H510 (E510 ++ (E1 ++ []))))
 ((binA .eql tI cT true a305 (.int .i64 4)).bind fun a511 =>
 condK a511
 (callK (EV C) false n_ref19_Run_members [x0] H1 fun a512 H512 E512 =>
 (offA a1 1).bind fun a513 =>
 (loadA false 1 a513 H512).bind fun a514 =>
 drawK (((loadA false 1 a513 H1).bind fun a515 =>
 some a515) = some a514)
 ((callD (EV C) n_ref17_Has [a512, a514] H512).bind fun a516 =>
 (unA .not a303).bind fun a517 =>
 splitK a517
 ((nilA x0).bind fun a518 =>
 (offA a518 0).bind fun a519 =>
 (offA a519 3).bind fun a520 =>
 (loadA false 1 a520 H512).bind fun a521 =>
 (binA .eql tI cT true a521 (.int .i64 2)).bind fun a522 =>
 splitK a522
 (condK a516
 ((loadA true 17 a1 H512).bind fun a523 =>
 callK (EV C) false n_ref19_Run_acked [x0, a523] H512 fun a524 H524 E524 =>
 endB false false n (.tup []) H524 (E524 ++ (E512 ++ (E1 ++ []))))
 (endB false false n (.tup []) H512 (E512 ++ (E1 ++ []))))
 (endB false false n (.tup []) H512 (E512 ++ (E1 ++ []))))
 (endB false false n (.tup []) H512 (E512 ++ (E1 ++ [])))))
 (endB false false n (.tup []) H1 (E1 ++ [])))))))))))))))))) (List.length H) = some r) : EV C n_ref19_Run_hear [x0, x1] H = some r :=
 EV_of_fnK' (fn := Tryz.f34) (by kernel_rfl) (by kernel_rfl) (by kernel_rfl) hh
end Go.Pm
