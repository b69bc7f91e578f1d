/- Lemmas. -/
import Derived.Test.YtmhjnndhphidfaaGreatPH
import Derived.Test.YtmhjnndhphidfaaGreatPC5
import Derived.Test.YtmhjnndhphidfaaGreatPV3
namespace Go.Ab
set_option maxRecDepth 30000
set_option linter.unusedSimpArgs false
set_option linter.unusedVariables false
open Go.Proofs
noncomputable def q21O188 : Ob := .pr [[wI 0, .str []]]
noncomputable def q21E252 : NBO := (254, false, q21O188)
noncomputable def q21O189 : Ob := .cells [[.map 252, .p (wU 0)]]
noncomputable def q21E253 : NBO := (253, false, q21O189)
noncomputable def q21E254 : NBO := (252, false, qO182)
noncomputable def q21O190 : Ob := mch 2 1 (wH 0) 300 (.nils) 0
noncomputable def q21E255 : NBO := (5, true, q21O190)
noncomputable def q21O191 : Ob := .pr [[.fz [[wU 2], [wU 1], [wH 1]], .fz []]]
noncomputable def q21E256 : NBO := (1, true, q21O191)
noncomputable def q21L0 : HObjs := (setN q21E256 (setN q21E255 (app [q21E252, q21E253, q21E254] qL) 247) 253)
noncomputable def q210 : EntH := ⟨107, 255, q21L0, [.ptr 5 0 0, .ptr 253 0 0, .ptr 18 0 0], fun g => sg0, 255, fun g => (setN (5, mch 2 1 (wU (g 0)) 298 (.nils) 1) (setN (252, .pmap [(.str [105], wU 2)]) (mp g q21L0) 2) 247)⟩
noncomputable def q21E257 : NBO := (255, false, q21O188)
noncomputable def q21O192 : Ob := .pmap [(.str [105], wU 2)]
noncomputable def q21E258 : NBO := (252, false, q21O192)
noncomputable def q21O193 : Ob := mch 2 1 (wH 0) 298 (.nils) 1
noncomputable def q21E259 : NBO := (5, true, q21O193)
noncomputable def q21L1 : HObjs := (setN q21E259 (setN q21E258 (app [q21E257] q21L0) 3) 248)
noncomputable def q211 : EntH := ⟨107, 256, q21L1, [.ptr 5 0 0, .ptr 253 0 0, .ptr 19 0 0], fun g => sg0, 256, fun g => (setN (5, mch 2 1 (wU (g 0)) 296 (.nils) 2) (setN (252, .pmap [(.str [105], wU 2), (.str [106], wU 1)]) (mp g q21L1) 3) 248)⟩
noncomputable def q21E260 : NBO := (256, false, q21O188)
noncomputable def q21O194 : Ob := .pmap [(.str [105], wU 2), (.str [106], wU 1)]
noncomputable def q21E261 : NBO := (252, false, q21O194)
noncomputable def q21O195 : Ob := mch 2 1 (wH 0) 296 (.nils) 2
noncomputable def q21E262 : NBO := (5, true, q21O195)
noncomputable def q21L2 : HObjs := (setN q21E262 (setN q21E261 (app [q21E260] q21L1) 4) 249)
noncomputable def q212 : EntH := ⟨107, 257, q21L2, [.ptr 5 0 0, .ptr 253 0 0, .ptr 20 0 0], fun g => sg0, 257, fun g => (setN (5, mch 2 1 (wU (g 0)) 294 (.nils) 3) (setN (252, .pmap [(.str [105], wU 2), (.str [106], wU 1), (.str [118], wU (g 0))]) (mp g q21L2) 4) 249)⟩
noncomputable def q21E263 : NBO := (257, false, q21O188)
noncomputable def q21O196 : Ob := .pmap [(.str [105], wU 2), (.str [106], wU 1), (.str [118], wH 0)]
noncomputable def q21E264 : NBO := (252, true, q21O196)
noncomputable def q21O197 : Ob := mch 2 1 (wH 1) 294 (.nils) 3
noncomputable def q21E265 : NBO := (5, true, q21O197)
noncomputable def q21O198 : Ob := .pr [[.fz [[wU 2], [wU 1], [wH 2]], .fz []]]
noncomputable def q21E266 : NBO := (1, true, q21O198)
noncomputable def q21L3 : HObjs := (setN q21E266 (setN q21E265 (setN q21E264 (app [q21E263] q21L2) 5) 250) 256)
noncomputable def q213 : EntH := ⟨107, 258, q21L3, [.ptr 5 0 0, .ptr 253 0 0, .ptr 21 0 0], fun g => sg0, 258, fun g => (setN (7, .pr (setN [wB 18] (setN [wB 66] (ramW []) 1) 0)) (setN (5, mch 2 1 (wU (g 1)) 288 (.nils) 3) (mp g q21L3) 250) 254)⟩
noncomputable def q21E267 : NBO := (258, false, q21O188)
noncomputable def q21O199 : Ob := mch 2 1 (wH 1) 288 (.nils) 3
noncomputable def q21E268 : NBO := (5, true, q21O199)
noncomputable def q21O200 : Ob := .pr (ramW [(0, (.ofNat 18)), (1, (.ofNat 66))])
noncomputable def q21E269 : NBO := (7, false, q21O200)
noncomputable def q21L4 : HObjs := (setN q21E269 (setN q21E268 (app [q21E267] q21L3) 251) 255)
noncomputable def q214 : EntH := ⟨107, 259, q21L4, [.ptr 5 0 0, .ptr 253 0 0, .ptr 22 0 0], fun g => sg0, 259, fun g => (setN (7, .pr (setN [wB (e8 (g 0))] (setN [wB (e8 (eShr (g 0) 8))] (ramW [(0, (.ofNat 18)), (1, (.ofNat 66))]) 536) 535)) (setN (5, mch 2 1 (wU (g 1)) 281 (.nils) 3) (mp g q21L4) 251) 255)⟩
noncomputable def q21E270 : NBO := (259, false, q21O188)
noncomputable def q21O201 : Ob := mch 2 1 (wH 1) 281 (.nils) 3
noncomputable def q21E271 : NBO := (5, true, q21O201)
noncomputable def q21O202 : Ob := .pr (ramW [(0, (.ofNat 18)), (1, (.ofNat 66)), (535, (.negSucc 2)), (536, (.negSucc 3))])
noncomputable def q21E272 : NBO := (7, true, q21O202)
noncomputable def q21O203 : Ob := .pr [[.fz [[wU 2], [wU 1], [wH 4]], .fz []]]
noncomputable def q21E273 : NBO := (1, true, q21O203)
noncomputable def q21L5 : HObjs := (setN q21E273 (setN q21E272 (setN q21E271 (app [q21E270] q21L4) 252) 256) 258)
noncomputable def q215 : EntH := ⟨107, 260, q21L5, [.ptr 5 0 0, .ptr 253 0 0, .ptr 23 0 0], fun g => sg0, 260, fun g => (setN (7, .pr (setN [wB 18] (setN [wB 66] (mapL (mapL (inPV g 60)) (ramW [(0, (.ofNat 18)), (1, (.ofNat 66)), (535, (.negSucc 2)), (536, (.negSucc 3))])) 531) 530)) (setN (5, mch 2 1 (wU (g 1)) 276 (.nils) 3) (mp g q21L5) 252) 256)⟩
noncomputable def q21E274 : NBO := (260, false, q21O188)
noncomputable def q21O204 : Ob := mch 2 1 (wH 1) 276 (.nils) 3
noncomputable def q21E275 : NBO := (5, true, q21O204)
noncomputable def q21O205 : Ob := .pr (ramW [(0, (.ofNat 18)), (1, (.ofNat 66)), (530, (.ofNat 18)), (531, (.ofNat 66)), (535, (.negSucc 2)), (536, (.negSucc 3))])
noncomputable def q21E276 : NBO := (7, true, q21O205)
noncomputable def q21L6 : HObjs := (setN q21E276 (setN q21E275 (app [q21E274] q21L5) 253) 257)
noncomputable def q216 : EntH := ⟨107, 261, q21L6, [.ptr 5 0 0, .ptr 253 0 0, .ptr 24 0 0], fun g => sg0, 261, fun g => (setN (7, .pr (setN [wB (e8 (g 0))] (mapL (mapL (inPV g 60)) (ramW [(0, (.ofNat 18)), (1, (.ofNat 66)), (530, (.ofNat 18)), (531, (.ofNat 66)), (535, (.negSucc 2)), (536, (.negSucc 3))])) 532)) (setN (5, mch 2 1 (wU (g 1)) 271 (.nils) 3) (mp g q21L6) 253) 257)⟩
noncomputable def q21E277 : NBO := (261, false, q21O188)
noncomputable def q21O206 : Ob := mch 2 1 (wH 1) 271 (.nils) 3
noncomputable def q21E278 : NBO := (5, true, q21O206)
noncomputable def q21O207 : Ob := .pr (ramW [(0, (.ofNat 18)), (1, (.ofNat 66)), (530, (.ofNat 18)), (531, (.ofNat 66)), (532, (.negSucc 2)), (535, (.negSucc 3)), (536, (.negSucc 4))])
noncomputable def q21E279 : NBO := (7, true, q21O207)
noncomputable def q21O208 : Ob := .pr [[.fz [[wU 2], [wU 1], [wH 5]], .fz []]]
noncomputable def q21E280 : NBO := (1, true, q21O208)
noncomputable def q21L7 : HObjs := (setN q21E280 (setN q21E279 (setN q21E278 (app [q21E277] q21L6) 254) 258) 260)
noncomputable def q217 : EntH := ⟨107, 262, q21L7, [.ptr 5 0 0, .ptr 253 0 0, .ptr 25 0 0], fun g => sg0, 263, fun g => (setN (5, mch 2 1 (wU (g 1)) 264 (.row 262 2 0 1) 3) (app (sls [(261,1), (260,1), (259,1), (257,1), (256,1), (254,2), (258,1), (253,1), (252,1), (251,1), (250,1), (12,1), (11,1), (249,1), (248,1), (13,235), (10,1), (9,1), (8,1), (7,1), (6,1), (5,1), (4,1), (3,1), (2,1), (1,1), (0,1)] (mp g q21L7)) [(262, .pr [[wU 1, wU (eOr (e16 (g 3)) (eShl (e16 (g 4)) 8))]])]) 5)⟩
noncomputable def q21E281 : NBO := (263, false, q21O188)
noncomputable def q21O209 : Ob := .pr [[.fz [[wU 2], [wU 1], [wH 0]], .fz []]]
noncomputable def q21E282 : NBO := (1, true, q21O209)
noncomputable def q21O210 : Ob := mch 2 1 (wH 1) 264 (.row 262 2 0 1) 3
noncomputable def q21E283 : NBO := (5, true, q21O210)
noncomputable def q21O211 : Ob := .pmap [(.str [105], wU 2), (.str [106], wU 1), (.str [118], wH 5)]
noncomputable def q21E284 : NBO := (252, true, q21O211)
noncomputable def q21O212 : Ob := .pr [[wU 1, wH 6]]
noncomputable def q21E285 : NBO := (262, true, q21O212)
noncomputable def q21L8 : HObjs := (setN q21E284 (setN q21E283 (setN q21E282 (app [q21E281] (app (sls [(261,1), (260,1), (259,1), (257,1), (256,1), (254,2), (258,1), (253,1), (252,1), (251,1), (250,1), (12,1), (11,1), (249,1), (248,1), (13,235), (10,1), (9,1), (8,1), (7,1), (6,1), (5,1), (4,1), (3,1), (2,1), (1,1), (0,1)] q21L7) [q21E285])) 2) 6) 253)
noncomputable def q218 : EntH := ⟨107, 264, q21L8, [.ptr 5 0 0, .ptr 253 0 0, .ptr 26 0 0], fun g => sg0, 265, fun g => (setN (262, .dead) (setN (5, mch 2 1 (wU (g 1)) 256 (.row 264 2 0 2) 3) (app (sls [(1,263), (0,1)] (mp g q21L8)) [(264, .pr [[wU 1, wU (g 6)], [wU 1, wU (eOr (e16 (g 3)) (eShl (e16 (g 4)) 8))]])]) 5) 262)⟩
noncomputable def q21E286 : NBO := (265, false, q21O188)
noncomputable def q21O213 : Ob := mch 2 1 (wH 1) 256 (.row 264 2 0 2) 3
noncomputable def q21E287 : NBO := (5, true, q21O213)
noncomputable def q21O214 : Ob := .dead
noncomputable def q21E288 : NBO := (262, false, q21O214)
noncomputable def q21O215 : Ob := .pr [[wU 1, wH 6], [wU 1, wH 7]]
noncomputable def q21E289 : NBO := (264, true, q21O215)
noncomputable def q21L9 : HObjs := (setN q21E288 (setN q21E287 (app [q21E286] (app (sls [(1,263), (0,1)] q21L8) [q21E289])) 6) 263)
noncomputable def q219 : EntH := ⟨107, 266, q21L9, [.ptr 5 0 0, .ptr 253 0 0, .ptr 27 0 0], fun g => sg0, 267, fun g => (setN (264, .dead) (setN (5, mch 2 1 (wU (g 1)) 248 (.row 266 2 0 3) 3) (app (sls [(1,265), (0,1)] (mp g q21L9)) [(266, .pr [[wU 1, wU (g 6)], [wU 1, wU (g 7)], [wU 1, wU 16919]])]) 5) 264)⟩
noncomputable def q21E290 : NBO := (267, false, q21O188)
noncomputable def q21O216 : Ob := mch 2 1 (wH 1) 248 (.row 266 2 0 3) 3
noncomputable def q21E291 : NBO := (5, true, q21O216)
noncomputable def q21E292 : NBO := (264, false, q21O214)
noncomputable def q21O217 : Ob := .pr [[wU 1, wH 6], [wU 1, wH 7], [wU 1, wU 16919]]
noncomputable def q21E293 : NBO := (266, true, q21O217)
noncomputable def q21L10 : HObjs := (setN q21E292 (setN q21E291 (app [q21E290] (app (sls [(1,265), (0,1)] q21L9) [q21E293])) 6) 265)
noncomputable def q2110 : EntH := ⟨107, 268, q21L10, [.ptr 5 0 0, .ptr 253 0 0, .ptr 28 0 0], fun g => sg0, 269, fun g => (setN (266, .dead) (setN (5, mch 2 1 (wU (g 1)) 239 (.row 268 2 0 4) 3) (app (sls [(1,267), (0,1)] (mp g q21L10)) [(268, .pr [[wU 1, wU (g 6)], [wU 1, wU (g 7)], [wU 1, wU 16919], [wU 1, wU 1]])]) 5) 266)⟩
noncomputable def q21E294 : NBO := (269, false, q21O188)
noncomputable def q21O218 : Ob := mch 2 1 (wH 1) 239 (.row 268 2 0 4) 3
noncomputable def q21E295 : NBO := (5, true, q21O218)
noncomputable def q21E296 : NBO := (266, false, q21O214)
noncomputable def q21O219 : Ob := .pr [[wU 1, wH 6], [wU 1, wH 7], [wU 1, wU 16919], [wU 1, wU 1]]
noncomputable def q21E297 : NBO := (268, true, q21O219)
noncomputable def q21L11 : HObjs := (setN q21E296 (setN q21E295 (app [q21E294] (app (sls [(1,267), (0,1)] q21L10) [q21E297])) 6) 267)
noncomputable def q2111 : EntH := ⟨107, 270, q21L11, [.ptr 5 0 0, .ptr 253 0 0, .ptr 29 0 0], fun g => sg0, 271, fun g => (setN (268, .dead) (setN (5, mch 2 1 (wU (g 1)) 233 (.row 270 2 0 5) 3) (app (sls [(1,269), (0,1)] (mp g q21L11)) [(270, .pr [[wU 1, wU (g 6)], [wU 1, wU (g 7)], [wU 1, wU 16919], [wU 1, wU 1], [wU 1, wU 0]])]) 5) 268)⟩
noncomputable def q21E298 : NBO := (271, false, q21O188)
noncomputable def q21O220 : Ob := mch 2 1 (wH 1) 233 (.row 270 2 0 5) 3
noncomputable def q21E299 : NBO := (5, true, q21O220)
noncomputable def q21E300 : NBO := (268, false, q21O214)
noncomputable def q21O221 : Ob := .pr [[wU 1, wH 6], [wU 1, wH 7], [wU 1, wU 16919], [wU 1, wU 1], [wU 1, wU 0]]
noncomputable def q21E301 : NBO := (270, true, q21O221)
noncomputable def q21L12 : HObjs := (setN q21E300 (setN q21E299 (app [q21E298] (app (sls [(1,269), (0,1)] q21L11) [q21E301])) 6) 269)
noncomputable def q2112 : EntH := ⟨107, 272, q21L12, [.ptr 5 0 0, .ptr 253 0 0, .ptr 30 0 0], fun g => sg0, 273, fun g => (setN (270, .dead) (setN (5, mch 2 1 (wU (g 1)) 228 (.row 272 2 0 6) 3) (app (sls [(1,271), (0,1)] (mp g q21L12)) [(272, .pr [[wU 1, wU (g 6)], [wU 1, wU (g 7)], [wU 1, wU 16919], [wU 1, wU 1], [wU 1, wU 0], [wU 1, wU (e16 (g 2))]])]) 5) 270)⟩
noncomputable def q21L13 : HObjs := (setN q21E256 (setN qE248 (setN q21E255 (setN q21E254 (sls [(254,1), (253,1), (252,1), (14,1), (13,1), (17,235), (16,1), (15,1), (12,1), (11,1), (10,1), (9,1), (6,2), (5,1), (4,1), (8,1), (3,1), (2,1), (1,1)] q21L12) 1) 246) 250) 252)
noncomputable def q2113 : EntH := ⟨109, 254, q21L13, [.ptr 5 0 0, .ptr 253 0 0, .ptr 16 0 0], fun g => sg0, 255, fun g => (setN (252, .pmap [(.str [105], wU 2), (.str [106], wU 1), (.str [118], wU (g 0))]) (setN (7, .pr (setN [wB 18] (setN [wB 66] (setN [wB 18] (setN [wB 66] (setN [wB (e8 (g 0))] (setN [wB (e8 (g 0))] (setN [wB (e8 (eShr (g 0) 8))] (ramW []) 536) 535) 532) 531) 530) 1) 0)) (setN (5, mch 2 1 (wU (g 0)) 228 (.row 254 2 0 6) 3) (app (sls [(253,1), (252,1), (251,1), (249,1), (248,1), (246,2), (250,1), (245,1), (244,1), (243,1), (242,1), (4,1), (3,1), (241,1), (240,1), (5,235), (2,1), (1,1), (0,1)] (mp g q21L13)) [(254, .pr [[wU 1, wU (eOr (e16 (e8 (g 0))) (eShl (e16 (e8 (eShr (g 0) 8))) 8))], [wU 1, wU (eOr (e16 (e8 (g 0))) (eShl (e16 (e8 (eShr (g 0) 8))) 8))], [wU 1, wU 16919], [wU 1, wU 1], [wU 1, wU 0], [wU 1, wU (e16 (e8 (g 0)))]])]) 5) 7) 252)⟩
noncomputable def q21L14 : HObjs := (sls [(2,252)] q21L13)
noncomputable def q2114 : EntH := ⟨47, 252, q21L14, [.ptr 5 0 0, .ptr 11 0 0, .p (.fz [])], fun g => .p (wU 0), 253, fun g => (setN (7, .pr (setN [wB 18] (setN [wB 66] (setN [wB 18] (setN [wB 66] (setN [wB (e8 (g 0))] (setN [wB (e8 (g 0))] (setN [wB (e8 (eShr (g 0) 8))] (ramW []) 536) 535) 532) 531) 530) 1) 0)) (setN (5, mch 2 1 (wU (g 0)) 228 (.row 252 2 0 6) 3) (app (sls [(251,1), (250,1), (249,1), (247,1), (246,1), (244,2), (248,1), (243,1), (242,1), (241,1), (240,1), (2,1), (1,1), (239,1), (238,1), (3,235), (0,1)] (mp g q21L14)) [(252, .pr [[wU 1, wU (eOr (e16 (e8 (g 0))) (eShl (e16 (e8 (eShr (g 0) 8))) 8))], [wU 1, wU (eOr (e16 (e8 (g 0))) (eShl (e16 (e8 (eShr (g 0) 8))) 8))], [wU 1, wU 16919], [wU 1, wU 1], [wU 1, wU 0], [wU 1, wU (e16 (e8 (g 0)))]])]) 5) 7)⟩
noncomputable def q2115 : EntH := ⟨17, 0, [], [.p (.agg [qV0, qV1, qV11]), .p (.str [109,97,105,110]), .p (.fz []), .p (.str []), .p (.agg [.fz [[wU 2], [wU 1], [wH 0]], .fz []]), .p (wI 300)], fun g => .p (.agg [wU 0, .fz [[wU 1, wU (eOr (e16 (e8 (g 0))) (eShl (e16 (e8 (eShr (g 0) 8))) 8))], [wU 1, wU (eOr (e16 (e8 (g 0))) (eShl (e16 (e8 (eShr (g 0) 8))) 8))], [wU 1, wU 16919], [wU 1, wU 1], [wU 1, wU 0], [wU 1, wU (e16 (e8 (g 0)))]], wI 6, wU 0, .str (strW [(0,18), (1,66), (530,18), (531,66), (532, e8 (e8 (g 0))), (535, e8 (e8 (g 0))), (536, e8 (e8 (eShr (g 0) 8)))]), wI 3, wI 0]), 0, fun g => []⟩
noncomputable def q2116 : EntH := ⟨12, 0, [], [.p (.agg [qV0, qV1, qV11]), .p (.str [109,97,105,110]), .p (.fz []), .p (.str []), .p (.agg [.fz [[wU 2], [wU 1], [wH 0]], .fz []]), .p (wI 300)], fun g => .p (.agg [wU 0, .fz [[wU 1, wU (eOr (e16 (e8 (g 0))) (eShl (e16 (e8 (eShr (g 0) 8))) 8))], [wU 1, wU (eOr (e16 (e8 (g 0))) (eShl (e16 (e8 (eShr (g 0) 8))) 8))], [wU 1, wU 16919], [wU 1, wU 1], [wU 1, wU 0], [wU 1, wU (e16 (e8 (g 0)))]], wI 6, wU 0, .str (strW [(0,18), (1,66), (530,18), (531,66), (532, e8 (e8 (g 0))), (535, e8 (e8 (g 0))), (536, e8 (e8 (eShr (g 0) 8)))]), wI 3, wI 0]), 0, fun g => []⟩
noncomputable def q2117 : EntH := ⟨8, 0, [], [.p (.agg [qV0, qV1, qV11]), .p (.agg [.fz [[wU 2], [wU 1], [wH 0]], .fz []]), .p (wI 300)], fun g => .p (.agg [wU 0, .fz [[wU 1, wU (eOr (e16 (e8 (g 0))) (eShl (e16 (e8 (eShr (g 0) 8))) 8))], [wU 1, wU (eOr (e16 (e8 (g 0))) (eShl (e16 (e8 (eShr (g 0) 8))) 8))], [wU 1, wU 16919], [wU 1, wU 1], [wU 1, wU 0], [wU 1, wU (e16 (e8 (g 0)))]], wI 6, wU 0, .str (strW [(0,18), (1,66), (530,18), (531,66), (532, e8 (e8 (g 0))), (535, e8 (e8 (g 0))), (536, e8 (e8 (eShr (g 0) 8)))]), wI 3, wI 0]), 0, fun g => []⟩
theorem q210_ok : HOk q210 := h1_ok (fun g => by kernel_rfl)
theorem q211_ok : HOk q211 := h1_ok (fun g => by kernel_rfl)
theorem q212_ok : HOk q212 := h1_ok (fun g => by kernel_rfl)
theorem q213_ok : HOk q213 := h1_ok (fun g => by kernel_rfl)
theorem q214_ok : HOk q214 := h1_ok (fun g => by kernel_rfl)
theorem q215_ok : HOk q215 := h1_ok (fun g => by kernel_rfl)
theorem q216_ok : HOk q216 := h1_ok (fun g => by kernel_rfl)
theorem q217_ok : HOk q217 := h1_ok (fun g => by kernel_rfl)
theorem q218_ok : HOk q218 := h1_ok (fun g => by kernel_rfl)
theorem q219_ok : HOk q219 := h1_ok (fun g => by kernel_rfl)
theorem q2110_ok : HOk q2110 := h1_ok (fun g => by kernel_rfl)
theorem q2111_ok : HOk q2111 := h1_ok (fun g => by kernel_rfl)
theorem q2112_ok : HOk q2112 := h1_ok (fun g => by kernel_rfl)
theorem q2113_ok : HOk q2113 := h_ok (fs := []) (tab := []) (hs := [107]) (tah := [q210, q211, q212, q213, q214, q215, q216, q217, q218, q219, q2110, q2111, q2112]) (by simp) (by
    intro e he
    simp only [List.mem_cons, List.not_mem_nil, or_false] at he
    rcases he with rfl | rfl | rfl | rfl | rfl | rfl | rfl | rfl | rfl | rfl | rfl | rfl | rfl
    · exact q210_ok
    · exact q211_ok
    · exact q212_ok
    · exact q213_ok
    · exact q214_ok
    · exact q215_ok
    · exact q216_ok
    · exact q217_ok
    · exact q218_ok
    · exact q219_ok
    · exact q2110_ok
    · exact q2111_ok
    · exact q2112_ok
    ) (fuel := 100000) (n := 300) (me := 47) (fun g => by kernel_rfl)
theorem q2114_ok : HOk q2114 := h_ok (fs := []) (tab := []) (hs := [109]) (tah := [q2113]) (by simp) (by
    intro e he
    simp only [List.mem_cons, List.not_mem_nil, or_false] at he
    rcases he with rfl
    · exact q2113_ok
    ) (fuel := 100000) (n := 300) (me := 17) (fun g => by kernel_rfl)
theorem q2115_ok : HOk q2115 := h_ok (fs := [44]) (tab := [pC13]) (hs := [47]) (tah := [q2114]) (by
    intro e he
    simp only [List.mem_cons, List.not_mem_nil, or_false] at he
    rcases he with rfl
    · exact pC13_ok
    ) (by
    intro e he
    simp only [List.mem_cons, List.not_mem_nil, or_false] at he
    rcases he with rfl
    · exact q2114_ok
    ) (fuel := 100000) (n := 300) (me := 12) (fun g => by kernel_rfl)
theorem q2116_ok : HOk q2116 := h_ok (fs := [16]) (tab := [pV3]) (hs := [17]) (tah := [q2115]) (by
    intro e he
    simp only [List.mem_cons, List.not_mem_nil, or_false] at he
    rcases he with rfl
    · exact pV3_ok
    ) (by
    intro e he
    simp only [List.mem_cons, List.not_mem_nil, or_false] at he
    rcases he with rfl
    · exact q2115_ok
    ) (fuel := 100000) (n := 300) (me := 8) (fun g => by kernel_rfl)
theorem q2117_ok : HOk q2117 := h_ok (fs := []) (tab := []) (hs := [12]) (tah := [q2116]) (by simp) (by
    intro e he
    simp only [List.mem_cons, List.not_mem_nil, or_false] at he
    rcases he with rfl
    · exact q2116_ok
    ) (fuel := 100000) (n := 300) (me := 5) (fun g => by kernel_rfl)
end Go.Ab
