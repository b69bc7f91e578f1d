/- Lemmas. -/
import Derived.Test.YtmhjnndhphidfaaGreatPH
import Derived.Test.YtmhjnndhphidfaaGreatPC5
import Derived.Test.YtmhjnndhphidfaaGreatPV3
namespace Go.Ab
set_option maxRecDepth 30000
set_option linter.unusedSimpArgs false
set_option linter.unusedVariables false
open Go.Proofs
noncomputable def q10O188 : Ob := .pr [[wI 0, .str []]]
noncomputable def q10E252 : NBO := (254, false, q10O188)
noncomputable def q10O189 : Ob := .cells [[.map 252, .p (wU 0)]]
noncomputable def q10E253 : NBO := (253, false, q10O189)
noncomputable def q10E254 : NBO := (252, false, qO182)
noncomputable def q10O190 : Ob := mch 1 0 (wH 0) 300 (.nils) 0
noncomputable def q10E255 : NBO := (5, true, q10O190)
noncomputable def q10O191 : Ob := .pr [[.fz [[wU 1], [wU 0], [wH 1]], .fz []]]
noncomputable def q10E256 : NBO := (1, true, q10O191)
noncomputable def q10L0 : HObjs := (setN q10E256 (setN q10E255 (app [q10E252, q10E253, q10E254] qL) 247) 253)
noncomputable def q100 : EntH := ⟨107, 255, q10L0, [.ptr 5 0 0, .ptr 253 0 0, .ptr 18 0 0], fun g => sg0, 255, fun g => (setN (5, mch 1 0 (wU (g 0)) 298 (.nils) 1) (setN (252, .pmap [(.str [105], wU 1)]) (mp g q10L0) 2) 247)⟩
noncomputable def q10E257 : NBO := (255, false, q10O188)
noncomputable def q10O192 : Ob := .pmap [(.str [105], wU 1)]
noncomputable def q10E258 : NBO := (252, false, q10O192)
noncomputable def q10O193 : Ob := mch 1 0 (wH 0) 298 (.nils) 1
noncomputable def q10E259 : NBO := (5, true, q10O193)
noncomputable def q10L1 : HObjs := (setN q10E259 (setN q10E258 (app [q10E257] q10L0) 3) 248)
noncomputable def q101 : EntH := ⟨107, 256, q10L1, [.ptr 5 0 0, .ptr 253 0 0, .ptr 19 0 0], fun g => sg0, 256, fun g => (setN (5, mch 1 0 (wU (g 0)) 296 (.nils) 2) (setN (252, .pmap [(.str [105], wU 1), (.str [106], wU 0)]) (mp g q10L1) 3) 248)⟩
noncomputable def q10E260 : NBO := (256, false, q10O188)
noncomputable def q10O194 : Ob := .pmap [(.str [105], wU 1), (.str [106], wU 0)]
noncomputable def q10E261 : NBO := (252, false, q10O194)
noncomputable def q10O195 : Ob := mch 1 0 (wH 0) 296 (.nils) 2
noncomputable def q10E262 : NBO := (5, true, q10O195)
noncomputable def q10L2 : HObjs := (setN q10E262 (setN q10E261 (app [q10E260] q10L1) 4) 249)
noncomputable def q102 : EntH := ⟨107, 257, q10L2, [.ptr 5 0 0, .ptr 253 0 0, .ptr 20 0 0], fun g => sg0, 257, fun g => (setN (5, mch 1 0 (wU (g 0)) 294 (.nils) 3) (setN (252, .pmap [(.str [105], wU 1), (.str [106], wU 0), (.str [118], wU (g 0))]) (mp g q10L2) 4) 249)⟩
noncomputable def q10E263 : NBO := (257, false, q10O188)
noncomputable def q10O196 : Ob := .pmap [(.str [105], wU 1), (.str [106], wU 0), (.str [118], wH 0)]
noncomputable def q10E264 : NBO := (252, true, q10O196)
noncomputable def q10O197 : Ob := mch 1 0 (wH 1) 294 (.nils) 3
noncomputable def q10E265 : NBO := (5, true, q10O197)
noncomputable def q10O198 : Ob := .pr [[.fz [[wU 1], [wU 0], [wH 2]], .fz []]]
noncomputable def q10E266 : NBO := (1, true, q10O198)
noncomputable def q10L3 : HObjs := (setN q10E266 (setN q10E265 (setN q10E264 (app [q10E263] q10L2) 5) 250) 256)
noncomputable def q103 : EntH := ⟨107, 258, q10L3, [.ptr 5 0 0, .ptr 253 0 0, .ptr 21 0 0], fun g => sg0, 258, fun g => (setN (7, .pr (setN [wB 9] (setN [wB 66] (ramW []) 1) 0)) (setN (5, mch 1 0 (wU (g 1)) 288 (.nils) 3) (mp g q10L3) 250) 254)⟩
noncomputable def q10E267 : NBO := (258, false, q10O188)
noncomputable def q10O199 : Ob := mch 1 0 (wH 1) 288 (.nils) 3
noncomputable def q10E268 : NBO := (5, true, q10O199)
noncomputable def q10O200 : Ob := .pr (ramW [(0, (.ofNat 9)), (1, (.ofNat 66))])
noncomputable def q10E269 : NBO := (7, false, q10O200)
noncomputable def q10L4 : HObjs := (setN q10E269 (setN q10E268 (app [q10E267] q10L3) 251) 255)
noncomputable def q104 : EntH := ⟨107, 259, q10L4, [.ptr 5 0 0, .ptr 253 0 0, .ptr 22 0 0], fun g => sg0, 259, fun g => (setN (7, .pr (setN [wB (e8 (g 0))] (setN [wB (e8 (eShr (g 0) 8))] (ramW [(0, (.ofNat 9)), (1, (.ofNat 66))]) 525) 524)) (setN (5, mch 1 0 (wU (g 1)) 281 (.nils) 3) (mp g q10L4) 251) 255)⟩
noncomputable def q10E270 : NBO := (259, false, q10O188)
noncomputable def q10O201 : Ob := mch 1 0 (wH 1) 281 (.nils) 3
noncomputable def q10E271 : NBO := (5, true, q10O201)
noncomputable def q10O202 : Ob := .pr (ramW [(0, (.ofNat 9)), (1, (.ofNat 66)), (524, (.negSucc 2)), (525, (.negSucc 3))])
noncomputable def q10E272 : NBO := (7, true, q10O202)
noncomputable def q10O203 : Ob := .pr [[.fz [[wU 1], [wU 0], [wH 4]], .fz []]]
noncomputable def q10E273 : NBO := (1, true, q10O203)
noncomputable def q10L5 : HObjs := (setN q10E273 (setN q10E272 (setN q10E271 (app [q10E270] q10L4) 252) 256) 258)
noncomputable def q105 : EntH := ⟨107, 260, q10L5, [.ptr 5 0 0, .ptr 253 0 0, .ptr 23 0 0], fun g => sg0, 260, fun g => (setN (7, .pr (setN [wB 9] (setN [wB 66] (mapL (mapL (inPV g 60)) (ramW [(0, (.ofNat 9)), (1, (.ofNat 66)), (524, (.negSucc 2)), (525, (.negSucc 3))])) 522) 521)) (setN (5, mch 1 0 (wU (g 1)) 276 (.nils) 3) (mp g q10L5) 252) 256)⟩
noncomputable def q10E274 : NBO := (260, false, q10O188)
noncomputable def q10O204 : Ob := mch 1 0 (wH 1) 276 (.nils) 3
noncomputable def q10E275 : NBO := (5, true, q10O204)
noncomputable def q10O205 : Ob := .pr (ramW [(0, (.ofNat 9)), (1, (.ofNat 66)), (521, (.ofNat 9)), (522, (.ofNat 66)), (524, (.negSucc 2)), (525, (.negSucc 3))])
noncomputable def q10E276 : NBO := (7, true, q10O205)
noncomputable def q10L6 : HObjs := (setN q10E276 (setN q10E275 (app [q10E274] q10L5) 253) 257)
noncomputable def q106 : EntH := ⟨107, 261, q10L6, [.ptr 5 0 0, .ptr 253 0 0, .ptr 24 0 0], fun g => sg0, 261, fun g => (setN (7, .pr (setN [wB (e8 (g 0))] (mapL (mapL (inPV g 60)) (ramW [(0, (.ofNat 9)), (1, (.ofNat 66)), (521, (.ofNat 9)), (522, (.ofNat 66)), (524, (.negSucc 2)), (525, (.negSucc 3))])) 523)) (setN (5, mch 1 0 (wU (g 1)) 271 (.nils) 3) (mp g q10L6) 253) 257)⟩
noncomputable def q10E277 : NBO := (261, false, q10O188)
noncomputable def q10O206 : Ob := mch 1 0 (wH 1) 271 (.nils) 3
noncomputable def q10E278 : NBO := (5, true, q10O206)
noncomputable def q10O207 : Ob := .pr (ramW [(0, (.ofNat 9)), (1, (.ofNat 66)), (521, (.ofNat 9)), (522, (.ofNat 66)), (523, (.negSucc 2)), (524, (.negSucc 3)), (525, (.negSucc 4))])
noncomputable def q10E279 : NBO := (7, true, q10O207)
noncomputable def q10O208 : Ob := .pr [[.fz [[wU 1], [wU 0], [wH 5]], .fz []]]
noncomputable def q10E280 : NBO := (1, true, q10O208)
noncomputable def q10L7 : HObjs := (setN q10E280 (setN q10E279 (setN q10E278 (app [q10E277] q10L6) 254) 258) 260)
noncomputable def q107 : EntH := ⟨107, 262, q10L7, [.ptr 5 0 0, .ptr 253 0 0, .ptr 25 0 0], fun g => sg0, 263, fun g => (setN (5, mch 1 0 (wU (g 1)) 264 (.row 262 2 0 1) 3) (app (sls [(261,1), (260,1), (259,1), (257,1), (256,1), (254,2), (258,1), (253,1), (252,1), (251,1), (250,1), (12,1), (11,1), (249,1), (248,1), (13,235), (10,1), (9,1), (8,1), (7,1), (6,1), (5,1), (4,1), (3,1), (2,1), (1,1), (0,1)] (mp g q10L7)) [(262, .pr [[wU 1, wU (eOr (e16 (g 3)) (eShl (e16 (g 4)) 8))]])]) 5)⟩
noncomputable def q10E281 : NBO := (263, false, q10O188)
noncomputable def q10O209 : Ob := .pr [[.fz [[wU 1], [wU 0], [wH 0]], .fz []]]
noncomputable def q10E282 : NBO := (1, true, q10O209)
noncomputable def q10O210 : Ob := mch 1 0 (wH 1) 264 (.row 262 2 0 1) 3
noncomputable def q10E283 : NBO := (5, true, q10O210)
noncomputable def q10O211 : Ob := .pmap [(.str [105], wU 1), (.str [106], wU 0), (.str [118], wH 5)]
noncomputable def q10E284 : NBO := (252, true, q10O211)
noncomputable def q10O212 : Ob := .pr [[wU 1, wH 6]]
noncomputable def q10E285 : NBO := (262, true, q10O212)
noncomputable def q10L8 : HObjs := (setN q10E284 (setN q10E283 (setN q10E282 (app [q10E281] (app (sls [(261,1), (260,1), (259,1), (257,1), (256,1), (254,2), (258,1), (253,1), (252,1), (251,1), (250,1), (12,1), (11,1), (249,1), (248,1), (13,235), (10,1), (9,1), (8,1), (7,1), (6,1), (5,1), (4,1), (3,1), (2,1), (1,1), (0,1)] q10L7) [q10E285])) 2) 6) 253)
noncomputable def q108 : EntH := ⟨107, 264, q10L8, [.ptr 5 0 0, .ptr 253 0 0, .ptr 26 0 0], fun g => sg0, 265, fun g => (setN (262, .dead) (setN (5, mch 1 0 (wU (g 1)) 256 (.row 264 2 0 2) 3) (app (sls [(1,263), (0,1)] (mp g q10L8)) [(264, .pr [[wU 1, wU (g 6)], [wU 1, wU (eOr (e16 (g 3)) (eShl (e16 (g 4)) 8))]])]) 5) 262)⟩
noncomputable def q10E286 : NBO := (265, false, q10O188)
noncomputable def q10O213 : Ob := mch 1 0 (wH 1) 256 (.row 264 2 0 2) 3
noncomputable def q10E287 : NBO := (5, true, q10O213)
noncomputable def q10O214 : Ob := .dead
noncomputable def q10E288 : NBO := (262, false, q10O214)
noncomputable def q10O215 : Ob := .pr [[wU 1, wH 6], [wU 1, wH 7]]
noncomputable def q10E289 : NBO := (264, true, q10O215)
noncomputable def q10L9 : HObjs := (setN q10E288 (setN q10E287 (app [q10E286] (app (sls [(1,263), (0,1)] q10L8) [q10E289])) 6) 263)
noncomputable def q109 : EntH := ⟨107, 266, q10L9, [.ptr 5 0 0, .ptr 253 0 0, .ptr 27 0 0], fun g => sg0, 267, fun g => (setN (264, .dead) (setN (5, mch 1 0 (wU (g 1)) 248 (.row 266 2 0 3) 3) (app (sls [(1,265), (0,1)] (mp g q10L9)) [(266, .pr [[wU 1, wU (g 6)], [wU 1, wU (g 7)], [wU 1, wU 16908]])]) 5) 264)⟩
noncomputable def q10E290 : NBO := (267, false, q10O188)
noncomputable def q10O216 : Ob := mch 1 0 (wH 1) 248 (.row 266 2 0 3) 3
noncomputable def q10E291 : NBO := (5, true, q10O216)
noncomputable def q10E292 : NBO := (264, false, q10O214)
noncomputable def q10O217 : Ob := .pr [[wU 1, wH 6], [wU 1, wH 7], [wU 1, wU 16908]]
noncomputable def q10E293 : NBO := (266, true, q10O217)
noncomputable def q10L10 : HObjs := (setN q10E292 (setN q10E291 (app [q10E290] (app (sls [(1,265), (0,1)] q10L9) [q10E293])) 6) 265)
noncomputable def q1010 : EntH := ⟨107, 268, q10L10, [.ptr 5 0 0, .ptr 253 0 0, .ptr 28 0 0], fun g => sg0, 269, fun g => (setN (266, .dead) (setN (5, mch 1 0 (wU (g 1)) 239 (.row 268 2 0 4) 3) (app (sls [(1,267), (0,1)] (mp g q10L10)) [(268, .pr [[wU 1, wU (g 6)], [wU 1, wU (g 7)], [wU 1, wU 16908], [wU 1, wU 1]])]) 5) 266)⟩
noncomputable def q10E294 : NBO := (269, false, q10O188)
noncomputable def q10O218 : Ob := mch 1 0 (wH 1) 239 (.row 268 2 0 4) 3
noncomputable def q10E295 : NBO := (5, true, q10O218)
noncomputable def q10E296 : NBO := (266, false, q10O214)
noncomputable def q10O219 : Ob := .pr [[wU 1, wH 6], [wU 1, wH 7], [wU 1, wU 16908], [wU 1, wU 1]]
noncomputable def q10E297 : NBO := (268, true, q10O219)
noncomputable def q10L11 : HObjs := (setN q10E296 (setN q10E295 (app [q10E294] (app (sls [(1,267), (0,1)] q10L10) [q10E297])) 6) 267)
noncomputable def q1011 : EntH := ⟨107, 270, q10L11, [.ptr 5 0 0, .ptr 253 0 0, .ptr 29 0 0], fun g => sg0, 271, fun g => (setN (268, .dead) (setN (5, mch 1 0 (wU (g 1)) 233 (.row 270 2 0 5) 3) (app (sls [(1,269), (0,1)] (mp g q10L11)) [(270, .pr [[wU 1, wU (g 6)], [wU 1, wU (g 7)], [wU 1, wU 16908], [wU 1, wU 1], [wU 1, wU 0]])]) 5) 268)⟩
noncomputable def q10E298 : NBO := (271, false, q10O188)
noncomputable def q10O220 : Ob := mch 1 0 (wH 1) 233 (.row 270 2 0 5) 3
noncomputable def q10E299 : NBO := (5, true, q10O220)
noncomputable def q10E300 : NBO := (268, false, q10O214)
noncomputable def q10O221 : Ob := .pr [[wU 1, wH 6], [wU 1, wH 7], [wU 1, wU 16908], [wU 1, wU 1], [wU 1, wU 0]]
noncomputable def q10E301 : NBO := (270, true, q10O221)
noncomputable def q10L12 : HObjs := (setN q10E300 (setN q10E299 (app [q10E298] (app (sls [(1,269), (0,1)] q10L11) [q10E301])) 6) 269)
noncomputable def q1012 : EntH := ⟨107, 272, q10L12, [.ptr 5 0 0, .ptr 253 0 0, .ptr 30 0 0], fun g => sg0, 273, fun g => (setN (270, .dead) (setN (5, mch 1 0 (wU (g 1)) 228 (.row 272 2 0 6) 3) (app (sls [(1,271), (0,1)] (mp g q10L12)) [(272, .pr [[wU 1, wU (g 6)], [wU 1, wU (g 7)], [wU 1, wU 16908], [wU 1, wU 1], [wU 1, wU 0], [wU 1, wU (e16 (g 2))]])]) 5) 270)⟩
noncomputable def q10L13 : HObjs := (setN q10E256 (setN qE248 (setN q10E255 (setN q10E254 (sls [(254,1), (253,1), (252,1), (14,1), (13,1), (17,235), (16,1), (15,1), (12,1), (11,1), (10,1), (9,1), (6,2), (5,1), (4,1), (8,1), (3,1), (2,1), (1,1)] q10L12) 1) 246) 250) 252)
noncomputable def q1013 : EntH := ⟨109, 254, q10L13, [.ptr 5 0 0, .ptr 253 0 0, .ptr 16 0 0], fun g => sg0, 255, fun g => (setN (252, .pmap [(.str [105], wU 1), (.str [106], wU 0), (.str [118], wU (g 0))]) (setN (7, .pr (setN [wB 9] (setN [wB 66] (setN [wB 9] (setN [wB 66] (setN [wB (e8 (g 0))] (setN [wB (e8 (g 0))] (setN [wB (e8 (eShr (g 0) 8))] (ramW []) 525) 524) 523) 522) 521) 1) 0)) (setN (5, mch 1 0 (wU (g 0)) 228 (.row 254 2 0 6) 3) (app (sls [(253,1), (252,1), (251,1), (249,1), (248,1), (246,2), (250,1), (245,1), (244,1), (243,1), (242,1), (4,1), (3,1), (241,1), (240,1), (5,235), (2,1), (1,1), (0,1)] (mp g q10L13)) [(254, .pr [[wU 1, wU (eOr (e16 (e8 (g 0))) (eShl (e16 (e8 (eShr (g 0) 8))) 8))], [wU 1, wU (eOr (e16 (e8 (g 0))) (eShl (e16 (e8 (eShr (g 0) 8))) 8))], [wU 1, wU 16908], [wU 1, wU 1], [wU 1, wU 0], [wU 1, wU (e16 (e8 (g 0)))]])]) 5) 7) 252)⟩
noncomputable def q10L14 : HObjs := (sls [(2,252)] q10L13)
noncomputable def q1014 : EntH := ⟨47, 252, q10L14, [.ptr 5 0 0, .ptr 11 0 0, .p (.fz [])], fun g => .p (wU 0), 253, fun g => (setN (7, .pr (setN [wB 9] (setN [wB 66] (setN [wB 9] (setN [wB 66] (setN [wB (e8 (g 0))] (setN [wB (e8 (g 0))] (setN [wB (e8 (eShr (g 0) 8))] (ramW []) 525) 524) 523) 522) 521) 1) 0)) (setN (5, mch 1 0 (wU (g 0)) 228 (.row 252 2 0 6) 3) (app (sls [(251,1), (250,1), (249,1), (247,1), (246,1), (244,2), (248,1), (243,1), (242,1), (241,1), (240,1), (2,1), (1,1), (239,1), (238,1), (3,235), (0,1)] (mp g q10L14)) [(252, .pr [[wU 1, wU (eOr (e16 (e8 (g 0))) (eShl (e16 (e8 (eShr (g 0) 8))) 8))], [wU 1, wU (eOr (e16 (e8 (g 0))) (eShl (e16 (e8 (eShr (g 0) 8))) 8))], [wU 1, wU 16908], [wU 1, wU 1], [wU 1, wU 0], [wU 1, wU (e16 (e8 (g 0)))]])]) 5) 7)⟩
noncomputable def q1015 : EntH := ⟨17, 0, [], [.p (.agg [qV0, qV1, qV11]), .p (.str [109,97,105,110]), .p (.fz []), .p (.str []), .p (.agg [.fz [[wU 1], [wU 0], [wH 0]], .fz []]), .p (wI 300)], fun g => .p (.agg [wU 0, .fz [[wU 1, wU (eOr (e16 (e8 (g 0))) (eShl (e16 (e8 (eShr (g 0) 8))) 8))], [wU 1, wU (eOr (e16 (e8 (g 0))) (eShl (e16 (e8 (eShr (g 0) 8))) 8))], [wU 1, wU 16908], [wU 1, wU 1], [wU 1, wU 0], [wU 1, wU (e16 (e8 (g 0)))]], wI 6, wU 0, .str (strW [(0,9), (1,66), (521,9), (522,66), (523, e8 (e8 (g 0))), (524, e8 (e8 (g 0))), (525, e8 (e8 (eShr (g 0) 8)))]), wI 3, wI 0]), 0, fun g => []⟩
noncomputable def q1016 : EntH := ⟨12, 0, [], [.p (.agg [qV0, qV1, qV11]), .p (.str [109,97,105,110]), .p (.fz []), .p (.str []), .p (.agg [.fz [[wU 1], [wU 0], [wH 0]], .fz []]), .p (wI 300)], fun g => .p (.agg [wU 0, .fz [[wU 1, wU (eOr (e16 (e8 (g 0))) (eShl (e16 (e8 (eShr (g 0) 8))) 8))], [wU 1, wU (eOr (e16 (e8 (g 0))) (eShl (e16 (e8 (eShr (g 0) 8))) 8))], [wU 1, wU 16908], [wU 1, wU 1], [wU 1, wU 0], [wU 1, wU (e16 (e8 (g 0)))]], wI 6, wU 0, .str (strW [(0,9), (1,66), (521,9), (522,66), (523, e8 (e8 (g 0))), (524, e8 (e8 (g 0))), (525, e8 (e8 (eShr (g 0) 8)))]), wI 3, wI 0]), 0, fun g => []⟩
noncomputable def q1017 : EntH := ⟨8, 0, [], [.p (.agg [qV0, qV1, qV11]), .p (.agg [.fz [[wU 1], [wU 0], [wH 0]], .fz []]), .p (wI 300)], fun g => .p (.agg [wU 0, .fz [[wU 1, wU (eOr (e16 (e8 (g 0))) (eShl (e16 (e8 (eShr (g 0) 8))) 8))], [wU 1, wU (eOr (e16 (e8 (g 0))) (eShl (e16 (e8 (eShr (g 0) 8))) 8))], [wU 1, wU 16908], [wU 1, wU 1], [wU 1, wU 0], [wU 1, wU (e16 (e8 (g 0)))]], wI 6, wU 0, .str (strW [(0,9), (1,66), (521,9), (522,66), (523, e8 (e8 (g 0))), (524, e8 (e8 (g 0))), (525, e8 (e8 (eShr (g 0) 8)))]), wI 3, wI 0]), 0, fun g => []⟩
theorem q100_ok : HOk q100 := h1_ok (fun g => by kernel_rfl)
theorem q101_ok : HOk q101 := h1_ok (fun g => by kernel_rfl)
theorem q102_ok : HOk q102 := h1_ok (fun g => by kernel_rfl)
theorem q103_ok : HOk q103 := h1_ok (fun g => by kernel_rfl)
theorem q104_ok : HOk q104 := h1_ok (fun g => by kernel_rfl)
theorem q105_ok : HOk q105 := h1_ok (fun g => by kernel_rfl)
theorem q106_ok : HOk q106 := h1_ok (fun g => by kernel_rfl)
theorem q107_ok : HOk q107 := h1_ok (fun g => by kernel_rfl)
theorem q108_ok : HOk q108 := h1_ok (fun g => by kernel_rfl)
theorem q109_ok : HOk q109 := h1_ok (fun g => by kernel_rfl)
theorem q1010_ok : HOk q1010 := h1_ok (fun g => by kernel_rfl)
theorem q1011_ok : HOk q1011 := h1_ok (fun g => by kernel_rfl)
theorem q1012_ok : HOk q1012 := h1_ok (fun g => by kernel_rfl)
theorem q1013_ok : HOk q1013 := h_ok (fs := []) (tab := []) (hs := [107]) (tah := [q100, q101, q102, q103, q104, q105, q106, q107, q108, q109, q1010, q1011, q1012]) (by simp) (by
    intro e he
    simp only [List.mem_cons, List.not_mem_nil, or_false] at he
    rcases he with rfl | rfl | rfl | rfl | rfl | rfl | rfl | rfl | rfl | rfl | rfl | rfl | rfl
    · exact q100_ok
    · exact q101_ok
    · exact q102_ok
    · exact q103_ok
    · exact q104_ok
    · exact q105_ok
    · exact q106_ok
    · exact q107_ok
    · exact q108_ok
    · exact q109_ok
    · exact q1010_ok
    · exact q1011_ok
    · exact q1012_ok
    ) (fuel := 100000) (n := 300) (me := 47) (fun g => by kernel_rfl)
theorem q1014_ok : HOk q1014 := h_ok (fs := []) (tab := []) (hs := [109]) (tah := [q1013]) (by simp) (by
    intro e he
    simp only [List.mem_cons, List.not_mem_nil, or_false] at he
    rcases he with rfl
    · exact q1013_ok
    ) (fuel := 100000) (n := 300) (me := 17) (fun g => by kernel_rfl)
theorem q1015_ok : HOk q1015 := h_ok (fs := [44]) (tab := [pC13]) (hs := [47]) (tah := [q1014]) (by
    intro e he
    simp only [List.mem_cons, List.not_mem_nil, or_false] at he
    rcases he with rfl
    · exact pC13_ok
    ) (by
    intro e he
    simp only [List.mem_cons, List.not_mem_nil, or_false] at he
    rcases he with rfl
    · exact q1014_ok
    ) (fuel := 100000) (n := 300) (me := 12) (fun g => by kernel_rfl)
theorem q1016_ok : HOk q1016 := h_ok (fs := [16]) (tab := [pV3]) (hs := [17]) (tah := [q1015]) (by
    intro e he
    simp only [List.mem_cons, List.not_mem_nil, or_false] at he
    rcases he with rfl
    · exact pV3_ok
    ) (by
    intro e he
    simp only [List.mem_cons, List.not_mem_nil, or_false] at he
    rcases he with rfl
    · exact q1015_ok
    ) (fuel := 100000) (n := 300) (me := 8) (fun g => by kernel_rfl)
theorem q1017_ok : HOk q1017 := h_ok (fs := []) (tab := []) (hs := [12]) (tah := [q1016]) (by simp) (by
    intro e he
    simp only [List.mem_cons, List.not_mem_nil, or_false] at he
    rcases he with rfl
    · exact q1016_ok
    ) (fuel := 100000) (n := 300) (me := 5) (fun g => by kernel_rfl)
end Go.Ab
