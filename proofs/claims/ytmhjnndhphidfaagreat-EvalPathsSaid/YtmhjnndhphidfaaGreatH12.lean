/- Lemmas. -/
import Derived.Test.YtmhjnndhphidfaaGreatPH
import Derived.Test.YtmhjnndhphidfaaGreatPC5
import Derived.Test.YtmhjnndhphidfaaGreatPV3
namespace Go.Ab
set_option maxRecDepth 30000
set_option linter.unusedSimpArgs false
set_option linter.unusedVariables false
open Go.Proofs
noncomputable def q12O188 : Ob := .pr [[wI 0, .str []]]
noncomputable def q12E252 : NBO := (254, false, q12O188)
noncomputable def q12O189 : Ob := .cells [[.map 252, .p (wU 0)]]
noncomputable def q12E253 : NBO := (253, false, q12O189)
noncomputable def q12E254 : NBO := (252, false, qO182)
noncomputable def q12O190 : Ob := mch 1 2 (wH 0) 300 (.nils) 0
noncomputable def q12E255 : NBO := (5, true, q12O190)
noncomputable def q12O191 : Ob := .pr [[.fz [[wU 1], [wU 2], [wH 1]], .fz []]]
noncomputable def q12E256 : NBO := (1, true, q12O191)
noncomputable def q12L0 : HObjs := (setN q12E256 (setN q12E255 (app [q12E252, q12E253, q12E254] qL) 247) 253)
noncomputable def q120 : EntH := ⟨107, 255, q12L0, [.ptr 5 0 0, .ptr 253 0 0, .ptr 18 0 0], fun g => sg0, 255, fun g => (setN (5, mch 1 2 (wU (g 0)) 298 (.nils) 1) (setN (252, .pmap [(.str [105], wU 1)]) (mp g q12L0) 2) 247)⟩
noncomputable def q12E257 : NBO := (255, false, q12O188)
noncomputable def q12O192 : Ob := .pmap [(.str [105], wU 1)]
noncomputable def q12E258 : NBO := (252, false, q12O192)
noncomputable def q12O193 : Ob := mch 1 2 (wH 0) 298 (.nils) 1
noncomputable def q12E259 : NBO := (5, true, q12O193)
noncomputable def q12L1 : HObjs := (setN q12E259 (setN q12E258 (app [q12E257] q12L0) 3) 248)
noncomputable def q121 : EntH := ⟨107, 256, q12L1, [.ptr 5 0 0, .ptr 253 0 0, .ptr 19 0 0], fun g => sg0, 256, fun g => (setN (5, mch 1 2 (wU (g 0)) 296 (.nils) 2) (setN (252, .pmap [(.str [105], wU 1), (.str [106], wU 2)]) (mp g q12L1) 3) 248)⟩
noncomputable def q12E260 : NBO := (256, false, q12O188)
noncomputable def q12O194 : Ob := .pmap [(.str [105], wU 1), (.str [106], wU 2)]
noncomputable def q12E261 : NBO := (252, false, q12O194)
noncomputable def q12O195 : Ob := mch 1 2 (wH 0) 296 (.nils) 2
noncomputable def q12E262 : NBO := (5, true, q12O195)
noncomputable def q12L2 : HObjs := (setN q12E262 (setN q12E261 (app [q12E260] q12L1) 4) 249)
noncomputable def q122 : EntH := ⟨107, 257, q12L2, [.ptr 5 0 0, .ptr 253 0 0, .ptr 20 0 0], fun g => sg0, 257, fun g => (setN (5, mch 1 2 (wU (g 0)) 294 (.nils) 3) (setN (252, .pmap [(.str [105], wU 1), (.str [106], wU 2), (.str [118], wU (g 0))]) (mp g q12L2) 4) 249)⟩
noncomputable def q12E263 : NBO := (257, false, q12O188)
noncomputable def q12O196 : Ob := .pmap [(.str [105], wU 1), (.str [106], wU 2), (.str [118], wH 0)]
noncomputable def q12E264 : NBO := (252, true, q12O196)
noncomputable def q12O197 : Ob := mch 1 2 (wH 1) 294 (.nils) 3
noncomputable def q12E265 : NBO := (5, true, q12O197)
noncomputable def q12O198 : Ob := .pr [[.fz [[wU 1], [wU 2], [wH 2]], .fz []]]
noncomputable def q12E266 : NBO := (1, true, q12O198)
noncomputable def q12L3 : HObjs := (setN q12E266 (setN q12E265 (setN q12E264 (app [q12E263] q12L2) 5) 250) 256)
noncomputable def q123 : EntH := ⟨107, 258, q12L3, [.ptr 5 0 0, .ptr 253 0 0, .ptr 21 0 0], fun g => sg0, 258, fun g => (setN (7, .pr (setN [wB 9] (setN [wB 66] (ramW []) 1) 0)) (setN (5, mch 1 2 (wU (g 1)) 288 (.nils) 3) (mp g q12L3) 250) 254)⟩
noncomputable def q12E267 : NBO := (258, false, q12O188)
noncomputable def q12O199 : Ob := mch 1 2 (wH 1) 288 (.nils) 3
noncomputable def q12E268 : NBO := (5, true, q12O199)
noncomputable def q12O200 : Ob := .pr (ramW [(0, (.ofNat 9)), (1, (.ofNat 66))])
noncomputable def q12E269 : NBO := (7, false, q12O200)
noncomputable def q12L4 : HObjs := (setN q12E269 (setN q12E268 (app [q12E267] q12L3) 251) 255)
noncomputable def q124 : EntH := ⟨107, 259, q12L4, [.ptr 5 0 0, .ptr 253 0 0, .ptr 22 0 0], fun g => sg0, 259, fun g => (setN (7, .pr (setN [wB (e8 (g 0))] (setN [wB (e8 (eShr (g 0) 8))] (ramW [(0, (.ofNat 9)), (1, (.ofNat 66))]) 529) 528)) (setN (5, mch 1 2 (wU (g 1)) 281 (.nils) 3) (mp g q12L4) 251) 255)⟩
noncomputable def q12E270 : NBO := (259, false, q12O188)
noncomputable def q12O201 : Ob := mch 1 2 (wH 1) 281 (.nils) 3
noncomputable def q12E271 : NBO := (5, true, q12O201)
noncomputable def q12O202 : Ob := .pr (ramW [(0, (.ofNat 9)), (1, (.ofNat 66)), (528, (.negSucc 2)), (529, (.negSucc 3))])
noncomputable def q12E272 : NBO := (7, true, q12O202)
noncomputable def q12O203 : Ob := .pr [[.fz [[wU 1], [wU 2], [wH 4]], .fz []]]
noncomputable def q12E273 : NBO := (1, true, q12O203)
noncomputable def q12L5 : HObjs := (setN q12E273 (setN q12E272 (setN q12E271 (app [q12E270] q12L4) 252) 256) 258)
noncomputable def q125 : EntH := ⟨107, 260, q12L5, [.ptr 5 0 0, .ptr 253 0 0, .ptr 23 0 0], fun g => sg0, 260, fun g => (setN (7, .pr (setN [wB 9] (setN [wB 66] (mapL (mapL (inPV g 60)) (ramW [(0, (.ofNat 9)), (1, (.ofNat 66)), (528, (.negSucc 2)), (529, (.negSucc 3))])) 522) 521)) (setN (5, mch 1 2 (wU (g 1)) 276 (.nils) 3) (mp g q12L5) 252) 256)⟩
noncomputable def q12E274 : NBO := (260, false, q12O188)
noncomputable def q12O204 : Ob := mch 1 2 (wH 1) 276 (.nils) 3
noncomputable def q12E275 : NBO := (5, true, q12O204)
noncomputable def q12O205 : Ob := .pr (ramW [(0, (.ofNat 9)), (1, (.ofNat 66)), (521, (.ofNat 9)), (522, (.ofNat 66)), (528, (.negSucc 2)), (529, (.negSucc 3))])
noncomputable def q12E276 : NBO := (7, true, q12O205)
noncomputable def q12L6 : HObjs := (setN q12E276 (setN q12E275 (app [q12E274] q12L5) 253) 257)
noncomputable def q126 : EntH := ⟨107, 261, q12L6, [.ptr 5 0 0, .ptr 253 0 0, .ptr 24 0 0], fun g => sg0, 261, fun g => (setN (7, .pr (setN [wB (e8 (g 0))] (mapL (mapL (inPV g 60)) (ramW [(0, (.ofNat 9)), (1, (.ofNat 66)), (521, (.ofNat 9)), (522, (.ofNat 66)), (528, (.negSucc 2)), (529, (.negSucc 3))])) 523)) (setN (5, mch 1 2 (wU (g 1)) 271 (.nils) 3) (mp g q12L6) 253) 257)⟩
noncomputable def q12E277 : NBO := (261, false, q12O188)
noncomputable def q12O206 : Ob := mch 1 2 (wH 1) 271 (.nils) 3
noncomputable def q12E278 : NBO := (5, true, q12O206)
noncomputable def q12O207 : Ob := .pr (ramW [(0, (.ofNat 9)), (1, (.ofNat 66)), (521, (.ofNat 9)), (522, (.ofNat 66)), (523, (.negSucc 2)), (528, (.negSucc 3)), (529, (.negSucc 4))])
noncomputable def q12E279 : NBO := (7, true, q12O207)
noncomputable def q12O208 : Ob := .pr [[.fz [[wU 1], [wU 2], [wH 5]], .fz []]]
noncomputable def q12E280 : NBO := (1, true, q12O208)
noncomputable def q12L7 : HObjs := (setN q12E280 (setN q12E279 (setN q12E278 (app [q12E277] q12L6) 254) 258) 260)
noncomputable def q127 : EntH := ⟨107, 262, q12L7, [.ptr 5 0 0, .ptr 253 0 0, .ptr 25 0 0], fun g => sg0, 263, fun g => (setN (5, mch 1 2 (wU (g 1)) 264 (.row 262 2 0 1) 3) (app (sls [(261,1), (260,1), (259,1), (257,1), (256,1), (254,2), (258,1), (253,1), (252,1), (251,1), (250,1), (12,1), (11,1), (249,1), (248,1), (13,235), (10,1), (9,1), (8,1), (7,1), (6,1), (5,1), (4,1), (3,1), (2,1), (1,1), (0,1)] (mp g q12L7)) [(262, .pr [[wU 1, wU (eOr (e16 (g 3)) (eShl (e16 (g 4)) 8))]])]) 5)⟩
noncomputable def q12E281 : NBO := (263, false, q12O188)
noncomputable def q12O209 : Ob := .pr [[.fz [[wU 1], [wU 2], [wH 0]], .fz []]]
noncomputable def q12E282 : NBO := (1, true, q12O209)
noncomputable def q12O210 : Ob := mch 1 2 (wH 1) 264 (.row 262 2 0 1) 3
noncomputable def q12E283 : NBO := (5, true, q12O210)
noncomputable def q12O211 : Ob := .pmap [(.str [105], wU 1), (.str [106], wU 2), (.str [118], wH 5)]
noncomputable def q12E284 : NBO := (252, true, q12O211)
noncomputable def q12O212 : Ob := .pr [[wU 1, wH 6]]
noncomputable def q12E285 : NBO := (262, true, q12O212)
noncomputable def q12L8 : HObjs := (setN q12E284 (setN q12E283 (setN q12E282 (app [q12E281] (app (sls [(261,1), (260,1), (259,1), (257,1), (256,1), (254,2), (258,1), (253,1), (252,1), (251,1), (250,1), (12,1), (11,1), (249,1), (248,1), (13,235), (10,1), (9,1), (8,1), (7,1), (6,1), (5,1), (4,1), (3,1), (2,1), (1,1), (0,1)] q12L7) [q12E285])) 2) 6) 253)
noncomputable def q128 : EntH := ⟨107, 264, q12L8, [.ptr 5 0 0, .ptr 253 0 0, .ptr 26 0 0], fun g => sg0, 265, fun g => (setN (262, .dead) (setN (5, mch 1 2 (wU (g 1)) 256 (.row 264 2 0 2) 3) (app (sls [(1,263), (0,1)] (mp g q12L8)) [(264, .pr [[wU 1, wU (g 6)], [wU 1, wU (eOr (e16 (g 3)) (eShl (e16 (g 4)) 8))]])]) 5) 262)⟩
noncomputable def q12E286 : NBO := (265, false, q12O188)
noncomputable def q12O213 : Ob := mch 1 2 (wH 1) 256 (.row 264 2 0 2) 3
noncomputable def q12E287 : NBO := (5, true, q12O213)
noncomputable def q12O214 : Ob := .dead
noncomputable def q12E288 : NBO := (262, false, q12O214)
noncomputable def q12O215 : Ob := .pr [[wU 1, wH 6], [wU 1, wH 7]]
noncomputable def q12E289 : NBO := (264, true, q12O215)
noncomputable def q12L9 : HObjs := (setN q12E288 (setN q12E287 (app [q12E286] (app (sls [(1,263), (0,1)] q12L8) [q12E289])) 6) 263)
noncomputable def q129 : EntH := ⟨107, 266, q12L9, [.ptr 5 0 0, .ptr 253 0 0, .ptr 27 0 0], fun g => sg0, 267, fun g => (setN (264, .dead) (setN (5, mch 1 2 (wU (g 1)) 248 (.row 266 2 0 3) 3) (app (sls [(1,265), (0,1)] (mp g q12L9)) [(266, .pr [[wU 1, wU (g 6)], [wU 1, wU (g 7)], [wU 1, wU 16912]])]) 5) 264)⟩
noncomputable def q12E290 : NBO := (267, false, q12O188)
noncomputable def q12O216 : Ob := mch 1 2 (wH 1) 248 (.row 266 2 0 3) 3
noncomputable def q12E291 : NBO := (5, true, q12O216)
noncomputable def q12E292 : NBO := (264, false, q12O214)
noncomputable def q12O217 : Ob := .pr [[wU 1, wH 6], [wU 1, wH 7], [wU 1, wU 16912]]
noncomputable def q12E293 : NBO := (266, true, q12O217)
noncomputable def q12L10 : HObjs := (setN q12E292 (setN q12E291 (app [q12E290] (app (sls [(1,265), (0,1)] q12L9) [q12E293])) 6) 265)
noncomputable def q1210 : EntH := ⟨107, 268, q12L10, [.ptr 5 0 0, .ptr 253 0 0, .ptr 28 0 0], fun g => sg0, 269, fun g => (setN (266, .dead) (setN (5, mch 1 2 (wU (g 1)) 239 (.row 268 2 0 4) 3) (app (sls [(1,267), (0,1)] (mp g q12L10)) [(268, .pr [[wU 1, wU (g 6)], [wU 1, wU (g 7)], [wU 1, wU 16912], [wU 1, wU 1]])]) 5) 266)⟩
noncomputable def q12E294 : NBO := (269, false, q12O188)
noncomputable def q12O218 : Ob := mch 1 2 (wH 1) 239 (.row 268 2 0 4) 3
noncomputable def q12E295 : NBO := (5, true, q12O218)
noncomputable def q12E296 : NBO := (266, false, q12O214)
noncomputable def q12O219 : Ob := .pr [[wU 1, wH 6], [wU 1, wH 7], [wU 1, wU 16912], [wU 1, wU 1]]
noncomputable def q12E297 : NBO := (268, true, q12O219)
noncomputable def q12L11 : HObjs := (setN q12E296 (setN q12E295 (app [q12E294] (app (sls [(1,267), (0,1)] q12L10) [q12E297])) 6) 267)
noncomputable def q1211 : EntH := ⟨107, 270, q12L11, [.ptr 5 0 0, .ptr 253 0 0, .ptr 29 0 0], fun g => sg0, 271, fun g => (setN (268, .dead) (setN (5, mch 1 2 (wU (g 1)) 233 (.row 270 2 0 5) 3) (app (sls [(1,269), (0,1)] (mp g q12L11)) [(270, .pr [[wU 1, wU (g 6)], [wU 1, wU (g 7)], [wU 1, wU 16912], [wU 1, wU 1], [wU 1, wU 0]])]) 5) 268)⟩
noncomputable def q12E298 : NBO := (271, false, q12O188)
noncomputable def q12O220 : Ob := mch 1 2 (wH 1) 233 (.row 270 2 0 5) 3
noncomputable def q12E299 : NBO := (5, true, q12O220)
noncomputable def q12E300 : NBO := (268, false, q12O214)
noncomputable def q12O221 : Ob := .pr [[wU 1, wH 6], [wU 1, wH 7], [wU 1, wU 16912], [wU 1, wU 1], [wU 1, wU 0]]
noncomputable def q12E301 : NBO := (270, true, q12O221)
noncomputable def q12L12 : HObjs := (setN q12E300 (setN q12E299 (app [q12E298] (app (sls [(1,269), (0,1)] q12L11) [q12E301])) 6) 269)
noncomputable def q1212 : EntH := ⟨107, 272, q12L12, [.ptr 5 0 0, .ptr 253 0 0, .ptr 30 0 0], fun g => sg0, 273, fun g => (setN (270, .dead) (setN (5, mch 1 2 (wU (g 1)) 228 (.row 272 2 0 6) 3) (app (sls [(1,271), (0,1)] (mp g q12L12)) [(272, .pr [[wU 1, wU (g 6)], [wU 1, wU (g 7)], [wU 1, wU 16912], [wU 1, wU 1], [wU 1, wU 0], [wU 1, wU (e16 (g 2))]])]) 5) 270)⟩
noncomputable def q12L13 : HObjs := (setN q12E256 (setN qE248 (setN q12E255 (setN q12E254 (sls [(254,1), (253,1), (252,1), (14,1), (13,1), (17,235), (16,1), (15,1), (12,1), (11,1), (10,1), (9,1), (6,2), (5,1), (4,1), (8,1), (3,1), (2,1), (1,1)] q12L12) 1) 246) 250) 252)
noncomputable def q1213 : EntH := ⟨109, 254, q12L13, [.ptr 5 0 0, .ptr 253 0 0, .ptr 16 0 0], fun g => sg0, 255, fun g => (setN (252, .pmap [(.str [105], wU 1), (.str [106], wU 2), (.str [118], wU (g 0))]) (setN (7, .pr (setN [wB 9] (setN [wB 66] (setN [wB 9] (setN [wB 66] (setN [wB (e8 (g 0))] (setN [wB (e8 (g 0))] (setN [wB (e8 (eShr (g 0) 8))] (ramW []) 529) 528) 523) 522) 521) 1) 0)) (setN (5, mch 1 2 (wU (g 0)) 228 (.row 254 2 0 6) 3) (app (sls [(253,1), (252,1), (251,1), (249,1), (248,1), (246,2), (250,1), (245,1), (244,1), (243,1), (242,1), (4,1), (3,1), (241,1), (240,1), (5,235), (2,1), (1,1), (0,1)] (mp g q12L13)) [(254, .pr [[wU 1, wU (eOr (e16 (e8 (g 0))) (eShl (e16 (e8 (eShr (g 0) 8))) 8))], [wU 1, wU (eOr (e16 (e8 (g 0))) (eShl (e16 (e8 (eShr (g 0) 8))) 8))], [wU 1, wU 16912], [wU 1, wU 1], [wU 1, wU 0], [wU 1, wU (e16 (e8 (g 0)))]])]) 5) 7) 252)⟩
noncomputable def q12L14 : HObjs := (sls [(2,252)] q12L13)
noncomputable def q1214 : EntH := ⟨47, 252, q12L14, [.ptr 5 0 0, .ptr 11 0 0, .p (.fz [])], fun g => .p (wU 0), 253, fun g => (setN (7, .pr (setN [wB 9] (setN [wB 66] (setN [wB 9] (setN [wB 66] (setN [wB (e8 (g 0))] (setN [wB (e8 (g 0))] (setN [wB (e8 (eShr (g 0) 8))] (ramW []) 529) 528) 523) 522) 521) 1) 0)) (setN (5, mch 1 2 (wU (g 0)) 228 (.row 252 2 0 6) 3) (app (sls [(251,1), (250,1), (249,1), (247,1), (246,1), (244,2), (248,1), (243,1), (242,1), (241,1), (240,1), (2,1), (1,1), (239,1), (238,1), (3,235), (0,1)] (mp g q12L14)) [(252, .pr [[wU 1, wU (eOr (e16 (e8 (g 0))) (eShl (e16 (e8 (eShr (g 0) 8))) 8))], [wU 1, wU (eOr (e16 (e8 (g 0))) (eShl (e16 (e8 (eShr (g 0) 8))) 8))], [wU 1, wU 16912], [wU 1, wU 1], [wU 1, wU 0], [wU 1, wU (e16 (e8 (g 0)))]])]) 5) 7)⟩
noncomputable def q1215 : EntH := ⟨17, 0, [], [.p (.agg [qV0, qV1, qV11]), .p (.str [109,97,105,110]), .p (.fz []), .p (.str []), .p (.agg [.fz [[wU 1], [wU 2], [wH 0]], .fz []]), .p (wI 300)], fun g => .p (.agg [wU 0, .fz [[wU 1, wU (eOr (e16 (e8 (g 0))) (eShl (e16 (e8 (eShr (g 0) 8))) 8))], [wU 1, wU (eOr (e16 (e8 (g 0))) (eShl (e16 (e8 (eShr (g 0) 8))) 8))], [wU 1, wU 16912], [wU 1, wU 1], [wU 1, wU 0], [wU 1, wU (e16 (e8 (g 0)))]], wI 6, wU 0, .str (strW [(0,9), (1,66), (521,9), (522,66), (523, e8 (e8 (g 0))), (528, e8 (e8 (g 0))), (529, e8 (e8 (eShr (g 0) 8)))]), wI 3, wI 0]), 0, fun g => []⟩
noncomputable def q1216 : EntH := ⟨12, 0, [], [.p (.agg [qV0, qV1, qV11]), .p (.str [109,97,105,110]), .p (.fz []), .p (.str []), .p (.agg [.fz [[wU 1], [wU 2], [wH 0]], .fz []]), .p (wI 300)], fun g => .p (.agg [wU 0, .fz [[wU 1, wU (eOr (e16 (e8 (g 0))) (eShl (e16 (e8 (eShr (g 0) 8))) 8))], [wU 1, wU (eOr (e16 (e8 (g 0))) (eShl (e16 (e8 (eShr (g 0) 8))) 8))], [wU 1, wU 16912], [wU 1, wU 1], [wU 1, wU 0], [wU 1, wU (e16 (e8 (g 0)))]], wI 6, wU 0, .str (strW [(0,9), (1,66), (521,9), (522,66), (523, e8 (e8 (g 0))), (528, e8 (e8 (g 0))), (529, e8 (e8 (eShr (g 0) 8)))]), wI 3, wI 0]), 0, fun g => []⟩
noncomputable def q1217 : EntH := ⟨8, 0, [], [.p (.agg [qV0, qV1, qV11]), .p (.agg [.fz [[wU 1], [wU 2], [wH 0]], .fz []]), .p (wI 300)], fun g => .p (.agg [wU 0, .fz [[wU 1, wU (eOr (e16 (e8 (g 0))) (eShl (e16 (e8 (eShr (g 0) 8))) 8))], [wU 1, wU (eOr (e16 (e8 (g 0))) (eShl (e16 (e8 (eShr (g 0) 8))) 8))], [wU 1, wU 16912], [wU 1, wU 1], [wU 1, wU 0], [wU 1, wU (e16 (e8 (g 0)))]], wI 6, wU 0, .str (strW [(0,9), (1,66), (521,9), (522,66), (523, e8 (e8 (g 0))), (528, e8 (e8 (g 0))), (529, e8 (e8 (eShr (g 0) 8)))]), wI 3, wI 0]), 0, fun g => []⟩
theorem q120_ok : HOk q120 := h1_ok (fun g => by kernel_rfl)
theorem q121_ok : HOk q121 := h1_ok (fun g => by kernel_rfl)
theorem q122_ok : HOk q122 := h1_ok (fun g => by kernel_rfl)
theorem q123_ok : HOk q123 := h1_ok (fun g => by kernel_rfl)
theorem q124_ok : HOk q124 := h1_ok (fun g => by kernel_rfl)
theorem q125_ok : HOk q125 := h1_ok (fun g => by kernel_rfl)
theorem q126_ok : HOk q126 := h1_ok (fun g => by kernel_rfl)
theorem q127_ok : HOk q127 := h1_ok (fun g => by kernel_rfl)
theorem q128_ok : HOk q128 := h1_ok (fun g => by kernel_rfl)
theorem q129_ok : HOk q129 := h1_ok (fun g => by kernel_rfl)
theorem q1210_ok : HOk q1210 := h1_ok (fun g => by kernel_rfl)
theorem q1211_ok : HOk q1211 := h1_ok (fun g => by kernel_rfl)
theorem q1212_ok : HOk q1212 := h1_ok (fun g => by kernel_rfl)
theorem q1213_ok : HOk q1213 := h_ok (fs := []) (tab := []) (hs := [107]) (tah := [q120, q121, q122, q123, q124, q125, q126, q127, q128, q129, q1210, q1211, q1212]) (by simp) (by
    intro e he
    simp only [List.mem_cons, List.not_mem_nil, or_false] at he
    rcases he with rfl | rfl | rfl | rfl | rfl | rfl | rfl | rfl | rfl | rfl | rfl | rfl | rfl
    · exact q120_ok
    · exact q121_ok
    · exact q122_ok
    · exact q123_ok
    · exact q124_ok
    · exact q125_ok
    · exact q126_ok
    · exact q127_ok
    · exact q128_ok
    · exact q129_ok
    · exact q1210_ok
    · exact q1211_ok
    · exact q1212_ok
    ) (fuel := 100000) (n := 300) (me := 47) (fun g => by kernel_rfl)
theorem q1214_ok : HOk q1214 := h_ok (fs := []) (tab := []) (hs := [109]) (tah := [q1213]) (by simp) (by
    intro e he
    simp only [List.mem_cons, List.not_mem_nil, or_false] at he
    rcases he with rfl
    · exact q1213_ok
    ) (fuel := 100000) (n := 300) (me := 17) (fun g => by kernel_rfl)
theorem q1215_ok : HOk q1215 := h_ok (fs := [44]) (tab := [pC13]) (hs := [47]) (tah := [q1214]) (by
    intro e he
    simp only [List.mem_cons, List.not_mem_nil, or_false] at he
    rcases he with rfl
    · exact pC13_ok
    ) (by
    intro e he
    simp only [List.mem_cons, List.not_mem_nil, or_false] at he
    rcases he with rfl
    · exact q1214_ok
    ) (fuel := 100000) (n := 300) (me := 12) (fun g => by kernel_rfl)
theorem q1216_ok : HOk q1216 := h_ok (fs := [16]) (tab := [pV3]) (hs := [17]) (tah := [q1215]) (by
    intro e he
    simp only [List.mem_cons, List.not_mem_nil, or_false] at he
    rcases he with rfl
    · exact pV3_ok
    ) (by
    intro e he
    simp only [List.mem_cons, List.not_mem_nil, or_false] at he
    rcases he with rfl
    · exact q1215_ok
    ) (fuel := 100000) (n := 300) (me := 8) (fun g => by kernel_rfl)
theorem q1217_ok : HOk q1217 := h_ok (fs := []) (tab := []) (hs := [12]) (tah := [q1216]) (by simp) (by
    intro e he
    simp only [List.mem_cons, List.not_mem_nil, or_false] at he
    rcases he with rfl
    · exact q1216_ok
    ) (fuel := 100000) (n := 300) (me := 5) (fun g => by kernel_rfl)
end Go.Ab
