/- Lemmas. -/
import Derived.Test.YtmhjnndhphidfaaGreatPH
import Derived.Test.YtmhjnndhphidfaaGreatPC5
import Derived.Test.YtmhjnndhphidfaaGreatPV3
namespace Go.Ab
set_option maxRecDepth 30000
set_option linter.unusedSimpArgs false
set_option linter.unusedVariables false
open Go.Proofs
noncomputable def q11O188 : Ob := .pr [[wI 0, .str []]]
noncomputable def q11E252 : NBO := (254, false, q11O188)
noncomputable def q11O189 : Ob := .cells [[.map 252, .p (wU 0)]]
noncomputable def q11E253 : NBO := (253, false, q11O189)
noncomputable def q11E254 : NBO := (252, false, qO182)
noncomputable def q11O190 : Ob := mch 1 1 (wH 0) 300 (.nils) 0
noncomputable def q11E255 : NBO := (5, true, q11O190)
noncomputable def q11O191 : Ob := .pr [[.fz [[wU 1], [wU 1], [wH 1]], .fz []]]
noncomputable def q11E256 : NBO := (1, true, q11O191)
noncomputable def q11L0 : HObjs := (setN q11E256 (setN q11E255 (app [q11E252, q11E253, q11E254] qL) 247) 253)
noncomputable def q110 : EntH := ⟨107, 255, q11L0, [.ptr 5 0 0, .ptr 253 0 0, .ptr 18 0 0], fun g => sg0, 255, fun g => (setN (5, mch 1 1 (wU (g 0)) 298 (.nils) 1) (setN (252, .pmap [(.str [105], wU 1)]) (mp g q11L0) 2) 247)⟩
noncomputable def q11E257 : NBO := (255, false, q11O188)
noncomputable def q11O192 : Ob := .pmap [(.str [105], wU 1)]
noncomputable def q11E258 : NBO := (252, false, q11O192)
noncomputable def q11O193 : Ob := mch 1 1 (wH 0) 298 (.nils) 1
noncomputable def q11E259 : NBO := (5, true, q11O193)
noncomputable def q11L1 : HObjs := (setN q11E259 (setN q11E258 (app [q11E257] q11L0) 3) 248)
noncomputable def q111 : EntH := ⟨107, 256, q11L1, [.ptr 5 0 0, .ptr 253 0 0, .ptr 19 0 0], fun g => sg0, 256, fun g => (setN (5, mch 1 1 (wU (g 0)) 296 (.nils) 2) (setN (252, .pmap [(.str [105], wU 1), (.str [106], wU 1)]) (mp g q11L1) 3) 248)⟩
noncomputable def q11E260 : NBO := (256, false, q11O188)
noncomputable def q11O194 : Ob := .pmap [(.str [105], wU 1), (.str [106], wU 1)]
noncomputable def q11E261 : NBO := (252, false, q11O194)
noncomputable def q11O195 : Ob := mch 1 1 (wH 0) 296 (.nils) 2
noncomputable def q11E262 : NBO := (5, true, q11O195)
noncomputable def q11L2 : HObjs := (setN q11E262 (setN q11E261 (app [q11E260] q11L1) 4) 249)
noncomputable def q112 : EntH := ⟨107, 257, q11L2, [.ptr 5 0 0, .ptr 253 0 0, .ptr 20 0 0], fun g => sg0, 257, fun g => (setN (5, mch 1 1 (wU (g 0)) 294 (.nils) 3) (setN (252, .pmap [(.str [105], wU 1), (.str [106], wU 1), (.str [118], wU (g 0))]) (mp g q11L2) 4) 249)⟩
noncomputable def q11E263 : NBO := (257, false, q11O188)
noncomputable def q11O196 : Ob := .pmap [(.str [105], wU 1), (.str [106], wU 1), (.str [118], wH 0)]
noncomputable def q11E264 : NBO := (252, true, q11O196)
noncomputable def q11O197 : Ob := mch 1 1 (wH 1) 294 (.nils) 3
noncomputable def q11E265 : NBO := (5, true, q11O197)
noncomputable def q11O198 : Ob := .pr [[.fz [[wU 1], [wU 1], [wH 2]], .fz []]]
noncomputable def q11E266 : NBO := (1, true, q11O198)
noncomputable def q11L3 : HObjs := (setN q11E266 (setN q11E265 (setN q11E264 (app [q11E263] q11L2) 5) 250) 256)
noncomputable def q113 : EntH := ⟨107, 258, q11L3, [.ptr 5 0 0, .ptr 253 0 0, .ptr 21 0 0], fun g => sg0, 258, fun g => (setN (7, .pr (setN [wB 9] (setN [wB 66] (ramW []) 1) 0)) (setN (5, mch 1 1 (wU (g 1)) 288 (.nils) 3) (mp g q11L3) 250) 254)⟩
noncomputable def q11E267 : NBO := (258, false, q11O188)
noncomputable def q11O199 : Ob := mch 1 1 (wH 1) 288 (.nils) 3
noncomputable def q11E268 : NBO := (5, true, q11O199)
noncomputable def q11O200 : Ob := .pr (ramW [(0, (.ofNat 9)), (1, (.ofNat 66))])
noncomputable def q11E269 : NBO := (7, false, q11O200)
noncomputable def q11L4 : HObjs := (setN q11E269 (setN q11E268 (app [q11E267] q11L3) 251) 255)
noncomputable def q114 : EntH := ⟨107, 259, q11L4, [.ptr 5 0 0, .ptr 253 0 0, .ptr 22 0 0], fun g => sg0, 259, fun g => (setN (7, .pr (setN [wB (e8 (g 0))] (setN [wB (e8 (eShr (g 0) 8))] (ramW [(0, (.ofNat 9)), (1, (.ofNat 66))]) 527) 526)) (setN (5, mch 1 1 (wU (g 1)) 281 (.nils) 3) (mp g q11L4) 251) 255)⟩
noncomputable def q11E270 : NBO := (259, false, q11O188)
noncomputable def q11O201 : Ob := mch 1 1 (wH 1) 281 (.nils) 3
noncomputable def q11E271 : NBO := (5, true, q11O201)
noncomputable def q11O202 : Ob := .pr (ramW [(0, (.ofNat 9)), (1, (.ofNat 66)), (526, (.negSucc 2)), (527, (.negSucc 3))])
noncomputable def q11E272 : NBO := (7, true, q11O202)
noncomputable def q11O203 : Ob := .pr [[.fz [[wU 1], [wU 1], [wH 4]], .fz []]]
noncomputable def q11E273 : NBO := (1, true, q11O203)
noncomputable def q11L5 : HObjs := (setN q11E273 (setN q11E272 (setN q11E271 (app [q11E270] q11L4) 252) 256) 258)
noncomputable def q115 : EntH := ⟨107, 260, q11L5, [.ptr 5 0 0, .ptr 253 0 0, .ptr 23 0 0], fun g => sg0, 260, fun g => (setN (7, .pr (setN [wB 9] (setN [wB 66] (mapL (mapL (inPV g 60)) (ramW [(0, (.ofNat 9)), (1, (.ofNat 66)), (526, (.negSucc 2)), (527, (.negSucc 3))])) 522) 521)) (setN (5, mch 1 1 (wU (g 1)) 276 (.nils) 3) (mp g q11L5) 252) 256)⟩
noncomputable def q11E274 : NBO := (260, false, q11O188)
noncomputable def q11O204 : Ob := mch 1 1 (wH 1) 276 (.nils) 3
noncomputable def q11E275 : NBO := (5, true, q11O204)
noncomputable def q11O205 : Ob := .pr (ramW [(0, (.ofNat 9)), (1, (.ofNat 66)), (521, (.ofNat 9)), (522, (.ofNat 66)), (526, (.negSucc 2)), (527, (.negSucc 3))])
noncomputable def q11E276 : NBO := (7, true, q11O205)
noncomputable def q11L6 : HObjs := (setN q11E276 (setN q11E275 (app [q11E274] q11L5) 253) 257)
noncomputable def q116 : EntH := ⟨107, 261, q11L6, [.ptr 5 0 0, .ptr 253 0 0, .ptr 24 0 0], fun g => sg0, 261, fun g => (setN (7, .pr (setN [wB (e8 (g 0))] (mapL (mapL (inPV g 60)) (ramW [(0, (.ofNat 9)), (1, (.ofNat 66)), (521, (.ofNat 9)), (522, (.ofNat 66)), (526, (.negSucc 2)), (527, (.negSucc 3))])) 523)) (setN (5, mch 1 1 (wU (g 1)) 271 (.nils) 3) (mp g q11L6) 253) 257)⟩
noncomputable def q11E277 : NBO := (261, false, q11O188)
noncomputable def q11O206 : Ob := mch 1 1 (wH 1) 271 (.nils) 3
noncomputable def q11E278 : NBO := (5, true, q11O206)
noncomputable def q11O207 : Ob := .pr (ramW [(0, (.ofNat 9)), (1, (.ofNat 66)), (521, (.ofNat 9)), (522, (.ofNat 66)), (523, (.negSucc 2)), (526, (.negSucc 3)), (527, (.negSucc 4))])
noncomputable def q11E279 : NBO := (7, true, q11O207)
noncomputable def q11O208 : Ob := .pr [[.fz [[wU 1], [wU 1], [wH 5]], .fz []]]
noncomputable def q11E280 : NBO := (1, true, q11O208)
noncomputable def q11L7 : HObjs := (setN q11E280 (setN q11E279 (setN q11E278 (app [q11E277] q11L6) 254) 258) 260)
noncomputable def q117 : EntH := ⟨107, 262, q11L7, [.ptr 5 0 0, .ptr 253 0 0, .ptr 25 0 0], fun g => sg0, 263, fun g => (setN (5, mch 1 1 (wU (g 1)) 264 (.row 262 2 0 1) 3) (app (sls [(261,1), (260,1), (259,1), (257,1), (256,1), (254,2), (258,1), (253,1), (252,1), (251,1), (250,1), (12,1), (11,1), (249,1), (248,1), (13,235), (10,1), (9,1), (8,1), (7,1), (6,1), (5,1), (4,1), (3,1), (2,1), (1,1), (0,1)] (mp g q11L7)) [(262, .pr [[wU 1, wU (eOr (e16 (g 3)) (eShl (e16 (g 4)) 8))]])]) 5)⟩
noncomputable def q11E281 : NBO := (263, false, q11O188)
noncomputable def q11O209 : Ob := .pr [[.fz [[wU 1], [wU 1], [wH 0]], .fz []]]
noncomputable def q11E282 : NBO := (1, true, q11O209)
noncomputable def q11O210 : Ob := mch 1 1 (wH 1) 264 (.row 262 2 0 1) 3
noncomputable def q11E283 : NBO := (5, true, q11O210)
noncomputable def q11O211 : Ob := .pmap [(.str [105], wU 1), (.str [106], wU 1), (.str [118], wH 5)]
noncomputable def q11E284 : NBO := (252, true, q11O211)
noncomputable def q11O212 : Ob := .pr [[wU 1, wH 6]]
noncomputable def q11E285 : NBO := (262, true, q11O212)
noncomputable def q11L8 : HObjs := (setN q11E284 (setN q11E283 (setN q11E282 (app [q11E281] (app (sls [(261,1), (260,1), (259,1), (257,1), (256,1), (254,2), (258,1), (253,1), (252,1), (251,1), (250,1), (12,1), (11,1), (249,1), (248,1), (13,235), (10,1), (9,1), (8,1), (7,1), (6,1), (5,1), (4,1), (3,1), (2,1), (1,1), (0,1)] q11L7) [q11E285])) 2) 6) 253)
noncomputable def q118 : EntH := ⟨107, 264, q11L8, [.ptr 5 0 0, .ptr 253 0 0, .ptr 26 0 0], fun g => sg0, 265, fun g => (setN (262, .dead) (setN (5, mch 1 1 (wU (g 1)) 256 (.row 264 2 0 2) 3) (app (sls [(1,263), (0,1)] (mp g q11L8)) [(264, .pr [[wU 1, wU (g 6)], [wU 1, wU (eOr (e16 (g 3)) (eShl (e16 (g 4)) 8))]])]) 5) 262)⟩
noncomputable def q11E286 : NBO := (265, false, q11O188)
noncomputable def q11O213 : Ob := mch 1 1 (wH 1) 256 (.row 264 2 0 2) 3
noncomputable def q11E287 : NBO := (5, true, q11O213)
noncomputable def q11O214 : Ob := .dead
noncomputable def q11E288 : NBO := (262, false, q11O214)
noncomputable def q11O215 : Ob := .pr [[wU 1, wH 6], [wU 1, wH 7]]
noncomputable def q11E289 : NBO := (264, true, q11O215)
noncomputable def q11L9 : HObjs := (setN q11E288 (setN q11E287 (app [q11E286] (app (sls [(1,263), (0,1)] q11L8) [q11E289])) 6) 263)
noncomputable def q119 : EntH := ⟨107, 266, q11L9, [.ptr 5 0 0, .ptr 253 0 0, .ptr 27 0 0], fun g => sg0, 267, fun g => (setN (264, .dead) (setN (5, mch 1 1 (wU (g 1)) 248 (.row 266 2 0 3) 3) (app (sls [(1,265), (0,1)] (mp g q11L9)) [(266, .pr [[wU 1, wU (g 6)], [wU 1, wU (g 7)], [wU 1, wU 16910]])]) 5) 264)⟩
noncomputable def q11E290 : NBO := (267, false, q11O188)
noncomputable def q11O216 : Ob := mch 1 1 (wH 1) 248 (.row 266 2 0 3) 3
noncomputable def q11E291 : NBO := (5, true, q11O216)
noncomputable def q11E292 : NBO := (264, false, q11O214)
noncomputable def q11O217 : Ob := .pr [[wU 1, wH 6], [wU 1, wH 7], [wU 1, wU 16910]]
noncomputable def q11E293 : NBO := (266, true, q11O217)
noncomputable def q11L10 : HObjs := (setN q11E292 (setN q11E291 (app [q11E290] (app (sls [(1,265), (0,1)] q11L9) [q11E293])) 6) 265)
noncomputable def q1110 : EntH := ⟨107, 268, q11L10, [.ptr 5 0 0, .ptr 253 0 0, .ptr 28 0 0], fun g => sg0, 269, fun g => (setN (266, .dead) (setN (5, mch 1 1 (wU (g 1)) 239 (.row 268 2 0 4) 3) (app (sls [(1,267), (0,1)] (mp g q11L10)) [(268, .pr [[wU 1, wU (g 6)], [wU 1, wU (g 7)], [wU 1, wU 16910], [wU 1, wU 1]])]) 5) 266)⟩
noncomputable def q11E294 : NBO := (269, false, q11O188)
noncomputable def q11O218 : Ob := mch 1 1 (wH 1) 239 (.row 268 2 0 4) 3
noncomputable def q11E295 : NBO := (5, true, q11O218)
noncomputable def q11E296 : NBO := (266, false, q11O214)
noncomputable def q11O219 : Ob := .pr [[wU 1, wH 6], [wU 1, wH 7], [wU 1, wU 16910], [wU 1, wU 1]]
noncomputable def q11E297 : NBO := (268, true, q11O219)
noncomputable def q11L11 : HObjs := (setN q11E296 (setN q11E295 (app [q11E294] (app (sls [(1,267), (0,1)] q11L10) [q11E297])) 6) 267)
noncomputable def q1111 : EntH := ⟨107, 270, q11L11, [.ptr 5 0 0, .ptr 253 0 0, .ptr 29 0 0], fun g => sg0, 271, fun g => (setN (268, .dead) (setN (5, mch 1 1 (wU (g 1)) 233 (.row 270 2 0 5) 3) (app (sls [(1,269), (0,1)] (mp g q11L11)) [(270, .pr [[wU 1, wU (g 6)], [wU 1, wU (g 7)], [wU 1, wU 16910], [wU 1, wU 1], [wU 1, wU 0]])]) 5) 268)⟩
noncomputable def q11E298 : NBO := (271, false, q11O188)
noncomputable def q11O220 : Ob := mch 1 1 (wH 1) 233 (.row 270 2 0 5) 3
noncomputable def q11E299 : NBO := (5, true, q11O220)
noncomputable def q11E300 : NBO := (268, false, q11O214)
noncomputable def q11O221 : Ob := .pr [[wU 1, wH 6], [wU 1, wH 7], [wU 1, wU 16910], [wU 1, wU 1], [wU 1, wU 0]]
noncomputable def q11E301 : NBO := (270, true, q11O221)
noncomputable def q11L12 : HObjs := (setN q11E300 (setN q11E299 (app [q11E298] (app (sls [(1,269), (0,1)] q11L11) [q11E301])) 6) 269)
noncomputable def q1112 : EntH := ⟨107, 272, q11L12, [.ptr 5 0 0, .ptr 253 0 0, .ptr 30 0 0], fun g => sg0, 273, fun g => (setN (270, .dead) (setN (5, mch 1 1 (wU (g 1)) 228 (.row 272 2 0 6) 3) (app (sls [(1,271), (0,1)] (mp g q11L12)) [(272, .pr [[wU 1, wU (g 6)], [wU 1, wU (g 7)], [wU 1, wU 16910], [wU 1, wU 1], [wU 1, wU 0], [wU 1, wU (e16 (g 2))]])]) 5) 270)⟩
noncomputable def q11L13 : HObjs := (setN q11E256 (setN qE248 (setN q11E255 (setN q11E254 (sls [(254,1), (253,1), (252,1), (14,1), (13,1), (17,235), (16,1), (15,1), (12,1), (11,1), (10,1), (9,1), (6,2), (5,1), (4,1), (8,1), (3,1), (2,1), (1,1)] q11L12) 1) 246) 250) 252)
noncomputable def q1113 : EntH := ⟨109, 254, q11L13, [.ptr 5 0 0, .ptr 253 0 0, .ptr 16 0 0], fun g => sg0, 255, fun g => (setN (252, .pmap [(.str [105], wU 1), (.str [106], wU 1), (.str [118], wU (g 0))]) (setN (7, .pr (setN [wB 9] (setN [wB 66] (setN [wB 9] (setN [wB 66] (setN [wB (e8 (g 0))] (setN [wB (e8 (g 0))] (setN [wB (e8 (eShr (g 0) 8))] (ramW []) 527) 526) 523) 522) 521) 1) 0)) (setN (5, mch 1 1 (wU (g 0)) 228 (.row 254 2 0 6) 3) (app (sls [(253,1), (252,1), (251,1), (249,1), (248,1), (246,2), (250,1), (245,1), (244,1), (243,1), (242,1), (4,1), (3,1), (241,1), (240,1), (5,235), (2,1), (1,1), (0,1)] (mp g q11L13)) [(254, .pr [[wU 1, wU (eOr (e16 (e8 (g 0))) (eShl (e16 (e8 (eShr (g 0) 8))) 8))], [wU 1, wU (eOr (e16 (e8 (g 0))) (eShl (e16 (e8 (eShr (g 0) 8))) 8))], [wU 1, wU 16910], [wU 1, wU 1], [wU 1, wU 0], [wU 1, wU (e16 (e8 (g 0)))]])]) 5) 7) 252)⟩
noncomputable def q11L14 : HObjs := (sls [(2,252)] q11L13)
noncomputable def q1114 : EntH := ⟨47, 252, q11L14, [.ptr 5 0 0, .ptr 11 0 0, .p (.fz [])], fun g => .p (wU 0), 253, fun g => (setN (7, .pr (setN [wB 9] (setN [wB 66] (setN [wB 9] (setN [wB 66] (setN [wB (e8 (g 0))] (setN [wB (e8 (g 0))] (setN [wB (e8 (eShr (g 0) 8))] (ramW []) 527) 526) 523) 522) 521) 1) 0)) (setN (5, mch 1 1 (wU (g 0)) 228 (.row 252 2 0 6) 3) (app (sls [(251,1), (250,1), (249,1), (247,1), (246,1), (244,2), (248,1), (243,1), (242,1), (241,1), (240,1), (2,1), (1,1), (239,1), (238,1), (3,235), (0,1)] (mp g q11L14)) [(252, .pr [[wU 1, wU (eOr (e16 (e8 (g 0))) (eShl (e16 (e8 (eShr (g 0) 8))) 8))], [wU 1, wU (eOr (e16 (e8 (g 0))) (eShl (e16 (e8 (eShr (g 0) 8))) 8))], [wU 1, wU 16910], [wU 1, wU 1], [wU 1, wU 0], [wU 1, wU (e16 (e8 (g 0)))]])]) 5) 7)⟩
noncomputable def q1115 : EntH := ⟨17, 0, [], [.p (.agg [qV0, qV1, qV11]), .p (.str [109,97,105,110]), .p (.fz []), .p (.str []), .p (.agg [.fz [[wU 1], [wU 1], [wH 0]], .fz []]), .p (wI 300)], fun g => .p (.agg [wU 0, .fz [[wU 1, wU (eOr (e16 (e8 (g 0))) (eShl (e16 (e8 (eShr (g 0) 8))) 8))], [wU 1, wU (eOr (e16 (e8 (g 0))) (eShl (e16 (e8 (eShr (g 0) 8))) 8))], [wU 1, wU 16910], [wU 1, wU 1], [wU 1, wU 0], [wU 1, wU (e16 (e8 (g 0)))]], wI 6, wU 0, .str (strW [(0,9), (1,66), (521,9), (522,66), (523, e8 (e8 (g 0))), (526, e8 (e8 (g 0))), (527, e8 (e8 (eShr (g 0) 8)))]), wI 3, wI 0]), 0, fun g => []⟩
noncomputable def q1116 : EntH := ⟨12, 0, [], [.p (.agg [qV0, qV1, qV11]), .p (.str [109,97,105,110]), .p (.fz []), .p (.str []), .p (.agg [.fz [[wU 1], [wU 1], [wH 0]], .fz []]), .p (wI 300)], fun g => .p (.agg [wU 0, .fz [[wU 1, wU (eOr (e16 (e8 (g 0))) (eShl (e16 (e8 (eShr (g 0) 8))) 8))], [wU 1, wU (eOr (e16 (e8 (g 0))) (eShl (e16 (e8 (eShr (g 0) 8))) 8))], [wU 1, wU 16910], [wU 1, wU 1], [wU 1, wU 0], [wU 1, wU (e16 (e8 (g 0)))]], wI 6, wU 0, .str (strW [(0,9), (1,66), (521,9), (522,66), (523, e8 (e8 (g 0))), (526, e8 (e8 (g 0))), (527, e8 (e8 (eShr (g 0) 8)))]), wI 3, wI 0]), 0, fun g => []⟩
noncomputable def q1117 : EntH := ⟨8, 0, [], [.p (.agg [qV0, qV1, qV11]), .p (.agg [.fz [[wU 1], [wU 1], [wH 0]], .fz []]), .p (wI 300)], fun g => .p (.agg [wU 0, .fz [[wU 1, wU (eOr (e16 (e8 (g 0))) (eShl (e16 (e8 (eShr (g 0) 8))) 8))], [wU 1, wU (eOr (e16 (e8 (g 0))) (eShl (e16 (e8 (eShr (g 0) 8))) 8))], [wU 1, wU 16910], [wU 1, wU 1], [wU 1, wU 0], [wU 1, wU (e16 (e8 (g 0)))]], wI 6, wU 0, .str (strW [(0,9), (1,66), (521,9), (522,66), (523, e8 (e8 (g 0))), (526, e8 (e8 (g 0))), (527, e8 (e8 (eShr (g 0) 8)))]), wI 3, wI 0]), 0, fun g => []⟩
theorem q110_ok : HOk q110 := h1_ok (fun g => by kernel_rfl)
theorem q111_ok : HOk q111 := h1_ok (fun g => by kernel_rfl)
theorem q112_ok : HOk q112 := h1_ok (fun g => by kernel_rfl)
theorem q113_ok : HOk q113 := h1_ok (fun g => by kernel_rfl)
theorem q114_ok : HOk q114 := h1_ok (fun g => by kernel_rfl)
theorem q115_ok : HOk q115 := h1_ok (fun g => by kernel_rfl)
theorem q116_ok : HOk q116 := h1_ok (fun g => by kernel_rfl)
theorem q117_ok : HOk q117 := h1_ok (fun g => by kernel_rfl)
theorem q118_ok : HOk q118 := h1_ok (fun g => by kernel_rfl)
theorem q119_ok : HOk q119 := h1_ok (fun g => by kernel_rfl)
theorem q1110_ok : HOk q1110 := h1_ok (fun g => by kernel_rfl)
theorem q1111_ok : HOk q1111 := h1_ok (fun g => by kernel_rfl)
theorem q1112_ok : HOk q1112 := h1_ok (fun g => by kernel_rfl)
theorem q1113_ok : HOk q1113 := h_ok (fs := []) (tab := []) (hs := [107]) (tah := [q110, q111, q112, q113, q114, q115, q116, q117, q118, q119, q1110, q1111, q1112]) (by simp) (by
    intro e he
    simp only [List.mem_cons, List.not_mem_nil, or_false] at he
    rcases he with rfl | rfl | rfl | rfl | rfl | rfl | rfl | rfl | rfl | rfl | rfl | rfl | rfl
    · exact q110_ok
    · exact q111_ok
    · exact q112_ok
    · exact q113_ok
    · exact q114_ok
    · exact q115_ok
    · exact q116_ok
    · exact q117_ok
    · exact q118_ok
    · exact q119_ok
    · exact q1110_ok
    · exact q1111_ok
    · exact q1112_ok
    ) (fuel := 100000) (n := 300) (me := 47) (fun g => by kernel_rfl)
theorem q1114_ok : HOk q1114 := h_ok (fs := []) (tab := []) (hs := [109]) (tah := [q1113]) (by simp) (by
    intro e he
    simp only [List.mem_cons, List.not_mem_nil, or_false] at he
    rcases he with rfl
    · exact q1113_ok
    ) (fuel := 100000) (n := 300) (me := 17) (fun g => by kernel_rfl)
theorem q1115_ok : HOk q1115 := h_ok (fs := [44]) (tab := [pC13]) (hs := [47]) (tah := [q1114]) (by
    intro e he
    simp only [List.mem_cons, List.not_mem_nil, or_false] at he
    rcases he with rfl
    · exact pC13_ok
    ) (by
    intro e he
    simp only [List.mem_cons, List.not_mem_nil, or_false] at he
    rcases he with rfl
    · exact q1114_ok
    ) (fuel := 100000) (n := 300) (me := 12) (fun g => by kernel_rfl)
theorem q1116_ok : HOk q1116 := h_ok (fs := [16]) (tab := [pV3]) (hs := [17]) (tah := [q1115]) (by
    intro e he
    simp only [List.mem_cons, List.not_mem_nil, or_false] at he
    rcases he with rfl
    · exact pV3_ok
    ) (by
    intro e he
    simp only [List.mem_cons, List.not_mem_nil, or_false] at he
    rcases he with rfl
    · exact q1115_ok
    ) (fuel := 100000) (n := 300) (me := 8) (fun g => by kernel_rfl)
theorem q1117_ok : HOk q1117 := h_ok (fs := []) (tab := []) (hs := [12]) (tah := [q1116]) (by simp) (by
    intro e he
    simp only [List.mem_cons, List.not_mem_nil, or_false] at he
    rcases he with rfl
    · exact q1116_ok
    ) (fuel := 100000) (n := 300) (me := 5) (fun g => by kernel_rfl)
end Go.Ab
