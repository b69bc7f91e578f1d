/- Lemmas. -/
import Derived.Test.YtmhjnndhphidfaaGreatPH
import Derived.Test.YtmhjnndhphidfaaGreatPC5
import Derived.Test.YtmhjnndhphidfaaGreatPV3
namespace Go.Ab
set_option maxRecDepth 30000
set_option linter.unusedSimpArgs false
set_option linter.unusedVariables false
open Go.Proofs
noncomputable def q30O188 : Ob := .pr [[wI 0, .str []]]
noncomputable def q30E252 : NBO := (254, false, q30O188)
noncomputable def q30O189 : Ob := .cells [[.map 252, .p (wU 0)]]
noncomputable def q30E253 : NBO := (253, false, q30O189)
noncomputable def q30E254 : NBO := (252, false, qO182)
noncomputable def q30O190 : Ob := mch 3 0 (wH 0) 300 (.nils) 0
noncomputable def q30E255 : NBO := (5, true, q30O190)
noncomputable def q30O191 : Ob := .pr [[.fz [[wU 3], [wU 0], [wH 1]], .fz []]]
noncomputable def q30E256 : NBO := (1, true, q30O191)
noncomputable def q30L0 : HObjs := (setN q30E256 (setN q30E255 (app [q30E252, q30E253, q30E254] qL) 247) 253)
noncomputable def q300 : EntH := ⟨107, 255, q30L0, [.ptr 5 0 0, .ptr 253 0 0, .ptr 18 0 0], fun g => sg0, 255, fun g => (setN (5, mch 3 0 (wU (g 0)) 298 (.nils) 1) (setN (252, .pmap [(.str [105], wU 3)]) (mp g q30L0) 2) 247)⟩
noncomputable def q30E257 : NBO := (255, false, q30O188)
noncomputable def q30O192 : Ob := .pmap [(.str [105], wU 3)]
noncomputable def q30E258 : NBO := (252, false, q30O192)
noncomputable def q30O193 : Ob := mch 3 0 (wH 0) 298 (.nils) 1
noncomputable def q30E259 : NBO := (5, true, q30O193)
noncomputable def q30L1 : HObjs := (setN q30E259 (setN q30E258 (app [q30E257] q30L0) 3) 248)
noncomputable def q301 : EntH := ⟨107, 256, q30L1, [.ptr 5 0 0, .ptr 253 0 0, .ptr 19 0 0], fun g => sg0, 256, fun g => (setN (5, mch 3 0 (wU (g 0)) 296 (.nils) 2) (setN (252, .pmap [(.str [105], wU 3), (.str [106], wU 0)]) (mp g q30L1) 3) 248)⟩
noncomputable def q30E260 : NBO := (256, false, q30O188)
noncomputable def q30O194 : Ob := .pmap [(.str [105], wU 3), (.str [106], wU 0)]
noncomputable def q30E261 : NBO := (252, false, q30O194)
noncomputable def q30O195 : Ob := mch 3 0 (wH 0) 296 (.nils) 2
noncomputable def q30E262 : NBO := (5, true, q30O195)
noncomputable def q30L2 : HObjs := (setN q30E262 (setN q30E261 (app [q30E260] q30L1) 4) 249)
noncomputable def q302 : EntH := ⟨107, 257, q30L2, [.ptr 5 0 0, .ptr 253 0 0, .ptr 20 0 0], fun g => sg0, 257, fun g => (setN (5, mch 3 0 (wU (g 0)) 294 (.nils) 3) (setN (252, .pmap [(.str [105], wU 3), (.str [106], wU 0), (.str [118], wU (g 0))]) (mp g q30L2) 4) 249)⟩
noncomputable def q30E263 : NBO := (257, false, q30O188)
noncomputable def q30O196 : Ob := .pmap [(.str [105], wU 3), (.str [106], wU 0), (.str [118], wH 0)]
noncomputable def q30E264 : NBO := (252, true, q30O196)
noncomputable def q30O197 : Ob := mch 3 0 (wH 1) 294 (.nils) 3
noncomputable def q30E265 : NBO := (5, true, q30O197)
noncomputable def q30O198 : Ob := .pr [[.fz [[wU 3], [wU 0], [wH 2]], .fz []]]
noncomputable def q30E266 : NBO := (1, true, q30O198)
noncomputable def q30L3 : HObjs := (setN q30E266 (setN q30E265 (setN q30E264 (app [q30E263] q30L2) 5) 250) 256)
noncomputable def q303 : EntH := ⟨107, 258, q30L3, [.ptr 5 0 0, .ptr 253 0 0, .ptr 21 0 0], fun g => sg0, 258, fun g => (setN (7, .pr (setN [wB 27] (setN [wB 66] (ramW []) 1) 0)) (setN (5, mch 3 0 (wU (g 1)) 288 (.nils) 3) (mp g q30L3) 250) 254)⟩
noncomputable def q30E267 : NBO := (258, false, q30O188)
noncomputable def q30O199 : Ob := mch 3 0 (wH 1) 288 (.nils) 3
noncomputable def q30E268 : NBO := (5, true, q30O199)
noncomputable def q30O200 : Ob := .pr (ramW [(0, (.ofNat 27)), (1, (.ofNat 66))])
noncomputable def q30E269 : NBO := (7, false, q30O200)
noncomputable def q30L4 : HObjs := (setN q30E269 (setN q30E268 (app [q30E267] q30L3) 251) 255)
noncomputable def q304 : EntH := ⟨107, 259, q30L4, [.ptr 5 0 0, .ptr 253 0 0, .ptr 22 0 0], fun g => sg0, 259, fun g => (setN (7, .pr (setN [wB (e8 (g 0))] (setN [wB (e8 (eShr (g 0) 8))] (ramW [(0, (.ofNat 27)), (1, (.ofNat 66))]) 543) 542)) (setN (5, mch 3 0 (wU (g 1)) 281 (.nils) 3) (mp g q30L4) 251) 255)⟩
noncomputable def q30E270 : NBO := (259, false, q30O188)
noncomputable def q30O201 : Ob := mch 3 0 (wH 1) 281 (.nils) 3
noncomputable def q30E271 : NBO := (5, true, q30O201)
noncomputable def q30O202 : Ob := .pr (ramW [(0, (.ofNat 27)), (1, (.ofNat 66)), (542, (.negSucc 2)), (543, (.negSucc 3))])
noncomputable def q30E272 : NBO := (7, true, q30O202)
noncomputable def q30O203 : Ob := .pr [[.fz [[wU 3], [wU 0], [wH 4]], .fz []]]
noncomputable def q30E273 : NBO := (1, true, q30O203)
noncomputable def q30L5 : HObjs := (setN q30E273 (setN q30E272 (setN q30E271 (app [q30E270] q30L4) 252) 256) 258)
noncomputable def q305 : EntH := ⟨107, 260, q30L5, [.ptr 5 0 0, .ptr 253 0 0, .ptr 23 0 0], fun g => sg0, 260, fun g => (setN (7, .pr (setN [wB 27] (setN [wB 66] (mapL (mapL (inPV g 60)) (ramW [(0, (.ofNat 27)), (1, (.ofNat 66)), (542, (.negSucc 2)), (543, (.negSucc 3))])) 540) 539)) (setN (5, mch 3 0 (wU (g 1)) 276 (.nils) 3) (mp g q30L5) 252) 256)⟩
noncomputable def q30E274 : NBO := (260, false, q30O188)
noncomputable def q30O204 : Ob := mch 3 0 (wH 1) 276 (.nils) 3
noncomputable def q30E275 : NBO := (5, true, q30O204)
noncomputable def q30O205 : Ob := .pr (ramW [(0, (.ofNat 27)), (1, (.ofNat 66)), (539, (.ofNat 27)), (540, (.ofNat 66)), (542, (.negSucc 2)), (543, (.negSucc 3))])
noncomputable def q30E276 : NBO := (7, true, q30O205)
noncomputable def q30L6 : HObjs := (setN q30E276 (setN q30E275 (app [q30E274] q30L5) 253) 257)
noncomputable def q306 : EntH := ⟨107, 261, q30L6, [.ptr 5 0 0, .ptr 253 0 0, .ptr 24 0 0], fun g => sg0, 261, fun g => (setN (7, .pr (setN [wB (e8 (g 0))] (mapL (mapL (inPV g 60)) (ramW [(0, (.ofNat 27)), (1, (.ofNat 66)), (539, (.ofNat 27)), (540, (.ofNat 66)), (542, (.negSucc 2)), (543, (.negSucc 3))])) 541)) (setN (5, mch 3 0 (wU (g 1)) 271 (.nils) 3) (mp g q30L6) 253) 257)⟩
noncomputable def q30E277 : NBO := (261, false, q30O188)
noncomputable def q30O206 : Ob := mch 3 0 (wH 1) 271 (.nils) 3
noncomputable def q30E278 : NBO := (5, true, q30O206)
noncomputable def q30O207 : Ob := .pr (ramW [(0, (.ofNat 27)), (1, (.ofNat 66)), (539, (.ofNat 27)), (540, (.ofNat 66)), (541, (.negSucc 2)), (542, (.negSucc 3)), (543, (.negSucc 4))])
noncomputable def q30E279 : NBO := (7, true, q30O207)
noncomputable def q30O208 : Ob := .pr [[.fz [[wU 3], [wU 0], [wH 5]], .fz []]]
noncomputable def q30E280 : NBO := (1, true, q30O208)
noncomputable def q30L7 : HObjs := (setN q30E280 (setN q30E279 (setN q30E278 (app [q30E277] q30L6) 254) 258) 260)
noncomputable def q307 : EntH := ⟨107, 262, q30L7, [.ptr 5 0 0, .ptr 253 0 0, .ptr 25 0 0], fun g => sg0, 263, fun g => (setN (5, mch 3 0 (wU (g 1)) 264 (.row 262 2 0 1) 3) (app (sls [(261,1), (260,1), (259,1), (257,1), (256,1), (254,2), (258,1), (253,1), (252,1), (251,1), (250,1), (12,1), (11,1), (249,1), (248,1), (13,235), (10,1), (9,1), (8,1), (7,1), (6,1), (5,1), (4,1), (3,1), (2,1), (1,1), (0,1)] (mp g q30L7)) [(262, .pr [[wU 1, wU (eOr (e16 (g 3)) (eShl (e16 (g 4)) 8))]])]) 5)⟩
noncomputable def q30E281 : NBO := (263, false, q30O188)
noncomputable def q30O209 : Ob := .pr [[.fz [[wU 3], [wU 0], [wH 0]], .fz []]]
noncomputable def q30E282 : NBO := (1, true, q30O209)
noncomputable def q30O210 : Ob := mch 3 0 (wH 1) 264 (.row 262 2 0 1) 3
noncomputable def q30E283 : NBO := (5, true, q30O210)
noncomputable def q30O211 : Ob := .pmap [(.str [105], wU 3), (.str [106], wU 0), (.str [118], wH 5)]
noncomputable def q30E284 : NBO := (252, true, q30O211)
noncomputable def q30O212 : Ob := .pr [[wU 1, wH 6]]
noncomputable def q30E285 : NBO := (262, true, q30O212)
noncomputable def q30L8 : HObjs := (setN q30E284 (setN q30E283 (setN q30E282 (app [q30E281] (app (sls [(261,1), (260,1), (259,1), (257,1), (256,1), (254,2), (258,1), (253,1), (252,1), (251,1), (250,1), (12,1), (11,1), (249,1), (248,1), (13,235), (10,1), (9,1), (8,1), (7,1), (6,1), (5,1), (4,1), (3,1), (2,1), (1,1), (0,1)] q30L7) [q30E285])) 2) 6) 253)
noncomputable def q308 : EntH := ⟨107, 264, q30L8, [.ptr 5 0 0, .ptr 253 0 0, .ptr 26 0 0], fun g => sg0, 265, fun g => (setN (262, .dead) (setN (5, mch 3 0 (wU (g 1)) 256 (.row 264 2 0 2) 3) (app (sls [(1,263), (0,1)] (mp g q30L8)) [(264, .pr [[wU 1, wU (g 6)], [wU 1, wU (eOr (e16 (g 3)) (eShl (e16 (g 4)) 8))]])]) 5) 262)⟩
noncomputable def q30E286 : NBO := (265, false, q30O188)
noncomputable def q30O213 : Ob := mch 3 0 (wH 1) 256 (.row 264 2 0 2) 3
noncomputable def q30E287 : NBO := (5, true, q30O213)
noncomputable def q30O214 : Ob := .dead
noncomputable def q30E288 : NBO := (262, false, q30O214)
noncomputable def q30O215 : Ob := .pr [[wU 1, wH 6], [wU 1, wH 7]]
noncomputable def q30E289 : NBO := (264, true, q30O215)
noncomputable def q30L9 : HObjs := (setN q30E288 (setN q30E287 (app [q30E286] (app (sls [(1,263), (0,1)] q30L8) [q30E289])) 6) 263)
noncomputable def q309 : EntH := ⟨107, 266, q30L9, [.ptr 5 0 0, .ptr 253 0 0, .ptr 27 0 0], fun g => sg0, 267, fun g => (setN (264, .dead) (setN (5, mch 3 0 (wU (g 1)) 248 (.row 266 2 0 3) 3) (app (sls [(1,265), (0,1)] (mp g q30L9)) [(266, .pr [[wU 1, wU (g 6)], [wU 1, wU (g 7)], [wU 1, wU 16926]])]) 5) 264)⟩
noncomputable def q30E290 : NBO := (267, false, q30O188)
noncomputable def q30O216 : Ob := mch 3 0 (wH 1) 248 (.row 266 2 0 3) 3
noncomputable def q30E291 : NBO := (5, true, q30O216)
noncomputable def q30E292 : NBO := (264, false, q30O214)
noncomputable def q30O217 : Ob := .pr [[wU 1, wH 6], [wU 1, wH 7], [wU 1, wU 16926]]
noncomputable def q30E293 : NBO := (266, true, q30O217)
noncomputable def q30L10 : HObjs := (setN q30E292 (setN q30E291 (app [q30E290] (app (sls [(1,265), (0,1)] q30L9) [q30E293])) 6) 265)
noncomputable def q3010 : EntH := ⟨107, 268, q30L10, [.ptr 5 0 0, .ptr 253 0 0, .ptr 28 0 0], fun g => sg0, 269, fun g => (setN (266, .dead) (setN (5, mch 3 0 (wU (g 1)) 239 (.row 268 2 0 4) 3) (app (sls [(1,267), (0,1)] (mp g q30L10)) [(268, .pr [[wU 1, wU (g 6)], [wU 1, wU (g 7)], [wU 1, wU 16926], [wU 1, wU 1]])]) 5) 266)⟩
noncomputable def q30E294 : NBO := (269, false, q30O188)
noncomputable def q30O218 : Ob := mch 3 0 (wH 1) 239 (.row 268 2 0 4) 3
noncomputable def q30E295 : NBO := (5, true, q30O218)
noncomputable def q30E296 : NBO := (266, false, q30O214)
noncomputable def q30O219 : Ob := .pr [[wU 1, wH 6], [wU 1, wH 7], [wU 1, wU 16926], [wU 1, wU 1]]
noncomputable def q30E297 : NBO := (268, true, q30O219)
noncomputable def q30L11 : HObjs := (setN q30E296 (setN q30E295 (app [q30E294] (app (sls [(1,267), (0,1)] q30L10) [q30E297])) 6) 267)
noncomputable def q3011 : EntH := ⟨107, 270, q30L11, [.ptr 5 0 0, .ptr 253 0 0, .ptr 29 0 0], fun g => sg0, 271, fun g => (setN (268, .dead) (setN (5, mch 3 0 (wU (g 1)) 233 (.row 270 2 0 5) 3) (app (sls [(1,269), (0,1)] (mp g q30L11)) [(270, .pr [[wU 1, wU (g 6)], [wU 1, wU (g 7)], [wU 1, wU 16926], [wU 1, wU 1], [wU 1, wU 0]])]) 5) 268)⟩
noncomputable def q30E298 : NBO := (271, false, q30O188)
noncomputable def q30O220 : Ob := mch 3 0 (wH 1) 233 (.row 270 2 0 5) 3
noncomputable def q30E299 : NBO := (5, true, q30O220)
noncomputable def q30E300 : NBO := (268, false, q30O214)
noncomputable def q30O221 : Ob := .pr [[wU 1, wH 6], [wU 1, wH 7], [wU 1, wU 16926], [wU 1, wU 1], [wU 1, wU 0]]
noncomputable def q30E301 : NBO := (270, true, q30O221)
noncomputable def q30L12 : HObjs := (setN q30E300 (setN q30E299 (app [q30E298] (app (sls [(1,269), (0,1)] q30L11) [q30E301])) 6) 269)
noncomputable def q3012 : EntH := ⟨107, 272, q30L12, [.ptr 5 0 0, .ptr 253 0 0, .ptr 30 0 0], fun g => sg0, 273, fun g => (setN (270, .dead) (setN (5, mch 3 0 (wU (g 1)) 228 (.row 272 2 0 6) 3) (app (sls [(1,271), (0,1)] (mp g q30L12)) [(272, .pr [[wU 1, wU (g 6)], [wU 1, wU (g 7)], [wU 1, wU 16926], [wU 1, wU 1], [wU 1, wU 0], [wU 1, wU (e16 (g 2))]])]) 5) 270)⟩
noncomputable def q30L13 : HObjs := (setN q30E256 (setN qE248 (setN q30E255 (setN q30E254 (sls [(254,1), (253,1), (252,1), (14,1), (13,1), (17,235), (16,1), (15,1), (12,1), (11,1), (10,1), (9,1), (6,2), (5,1), (4,1), (8,1), (3,1), (2,1), (1,1)] q30L12) 1) 246) 250) 252)
noncomputable def q3013 : EntH := ⟨109, 254, q30L13, [.ptr 5 0 0, .ptr 253 0 0, .ptr 16 0 0], fun g => sg0, 255, fun g => (setN (252, .pmap [(.str [105], wU 3), (.str [106], wU 0), (.str [118], wU (g 0))]) (setN (7, .pr (setN [wB 27] (setN [wB 66] (setN [wB 27] (setN [wB 66] (setN [wB (e8 (g 0))] (setN [wB (e8 (g 0))] (setN [wB (e8 (eShr (g 0) 8))] (ramW []) 543) 542) 541) 540) 539) 1) 0)) (setN (5, mch 3 0 (wU (g 0)) 228 (.row 254 2 0 6) 3) (app (sls [(253,1), (252,1), (251,1), (249,1), (248,1), (246,2), (250,1), (245,1), (244,1), (243,1), (242,1), (4,1), (3,1), (241,1), (240,1), (5,235), (2,1), (1,1), (0,1)] (mp g q30L13)) [(254, .pr [[wU 1, wU (eOr (e16 (e8 (g 0))) (eShl (e16 (e8 (eShr (g 0) 8))) 8))], [wU 1, wU (eOr (e16 (e8 (g 0))) (eShl (e16 (e8 (eShr (g 0) 8))) 8))], [wU 1, wU 16926], [wU 1, wU 1], [wU 1, wU 0], [wU 1, wU (e16 (e8 (g 0)))]])]) 5) 7) 252)⟩
noncomputable def q30L14 : HObjs := (sls [(2,252)] q30L13)
noncomputable def q3014 : EntH := ⟨47, 252, q30L14, [.ptr 5 0 0, .ptr 11 0 0, .p (.fz [])], fun g => .p (wU 0), 253, fun g => (setN (7, .pr (setN [wB 27] (setN [wB 66] (setN [wB 27] (setN [wB 66] (setN [wB (e8 (g 0))] (setN [wB (e8 (g 0))] (setN [wB (e8 (eShr (g 0) 8))] (ramW []) 543) 542) 541) 540) 539) 1) 0)) (setN (5, mch 3 0 (wU (g 0)) 228 (.row 252 2 0 6) 3) (app (sls [(251,1), (250,1), (249,1), (247,1), (246,1), (244,2), (248,1), (243,1), (242,1), (241,1), (240,1), (2,1), (1,1), (239,1), (238,1), (3,235), (0,1)] (mp g q30L14)) [(252, .pr [[wU 1, wU (eOr (e16 (e8 (g 0))) (eShl (e16 (e8 (eShr (g 0) 8))) 8))], [wU 1, wU (eOr (e16 (e8 (g 0))) (eShl (e16 (e8 (eShr (g 0) 8))) 8))], [wU 1, wU 16926], [wU 1, wU 1], [wU 1, wU 0], [wU 1, wU (e16 (e8 (g 0)))]])]) 5) 7)⟩
noncomputable def q3015 : EntH := ⟨17, 0, [], [.p (.agg [qV0, qV1, qV11]), .p (.str [109,97,105,110]), .p (.fz []), .p (.str []), .p (.agg [.fz [[wU 3], [wU 0], [wH 0]], .fz []]), .p (wI 300)], fun g => .p (.agg [wU 0, .fz [[wU 1, wU (eOr (e16 (e8 (g 0))) (eShl (e16 (e8 (eShr (g 0) 8))) 8))], [wU 1, wU (eOr (e16 (e8 (g 0))) (eShl (e16 (e8 (eShr (g 0) 8))) 8))], [wU 1, wU 16926], [wU 1, wU 1], [wU 1, wU 0], [wU 1, wU (e16 (e8 (g 0)))]], wI 6, wU 0, .str (strW [(0,27), (1,66), (539,27), (540,66), (541, e8 (e8 (g 0))), (542, e8 (e8 (g 0))), (543, e8 (e8 (eShr (g 0) 8)))]), wI 3, wI 0]), 0, fun g => []⟩
noncomputable def q3016 : EntH := ⟨12, 0, [], [.p (.agg [qV0, qV1, qV11]), .p (.str [109,97,105,110]), .p (.fz []), .p (.str []), .p (.agg [.fz [[wU 3], [wU 0], [wH 0]], .fz []]), .p (wI 300)], fun g => .p (.agg [wU 0, .fz [[wU 1, wU (eOr (e16 (e8 (g 0))) (eShl (e16 (e8 (eShr (g 0) 8))) 8))], [wU 1, wU (eOr (e16 (e8 (g 0))) (eShl (e16 (e8 (eShr (g 0) 8))) 8))], [wU 1, wU 16926], [wU 1, wU 1], [wU 1, wU 0], [wU 1, wU (e16 (e8 (g 0)))]], wI 6, wU 0, .str (strW [(0,27), (1,66), (539,27), (540,66), (541, e8 (e8 (g 0))), (542, e8 (e8 (g 0))), (543, e8 (e8 (eShr (g 0) 8)))]), wI 3, wI 0]), 0, fun g => []⟩
noncomputable def q3017 : EntH := ⟨8, 0, [], [.p (.agg [qV0, qV1, qV11]), .p (.agg [.fz [[wU 3], [wU 0], [wH 0]], .fz []]), .p (wI 300)], fun g => .p (.agg [wU 0, .fz [[wU 1, wU (eOr (e16 (e8 (g 0))) (eShl (e16 (e8 (eShr (g 0) 8))) 8))], [wU 1, wU (eOr (e16 (e8 (g 0))) (eShl (e16 (e8 (eShr (g 0) 8))) 8))], [wU 1, wU 16926], [wU 1, wU 1], [wU 1, wU 0], [wU 1, wU (e16 (e8 (g 0)))]], wI 6, wU 0, .str (strW [(0,27), (1,66), (539,27), (540,66), (541, e8 (e8 (g 0))), (542, e8 (e8 (g 0))), (543, e8 (e8 (eShr (g 0) 8)))]), wI 3, wI 0]), 0, fun g => []⟩
theorem q300_ok : HOk q300 := h1_ok (fun g => by kernel_rfl)
theorem q301_ok : HOk q301 := h1_ok (fun g => by kernel_rfl)
theorem q302_ok : HOk q302 := h1_ok (fun g => by kernel_rfl)
theorem q303_ok : HOk q303 := h1_ok (fun g => by kernel_rfl)
theorem q304_ok : HOk q304 := h1_ok (fun g => by kernel_rfl)
theorem q305_ok : HOk q305 := h1_ok (fun g => by kernel_rfl)
theorem q306_ok : HOk q306 := h1_ok (fun g => by kernel_rfl)
theorem q307_ok : HOk q307 := h1_ok (fun g => by kernel_rfl)
theorem q308_ok : HOk q308 := h1_ok (fun g => by kernel_rfl)
theorem q309_ok : HOk q309 := h1_ok (fun g => by kernel_rfl)
theorem q3010_ok : HOk q3010 := h1_ok (fun g => by kernel_rfl)
theorem q3011_ok : HOk q3011 := h1_ok (fun g => by kernel_rfl)
theorem q3012_ok : HOk q3012 := h1_ok (fun g => by kernel_rfl)
theorem q3013_ok : HOk q3013 := h_ok (fs := []) (tab := []) (hs := [107]) (tah := [q300, q301, q302, q303, q304, q305, q306, q307, q308, q309, q3010, q3011, q3012]) (by simp) (by
    intro e he
    simp only [List.mem_cons, List.not_mem_nil, or_false] at he
    rcases he with rfl | rfl | rfl | rfl | rfl | rfl | rfl | rfl | rfl | rfl | rfl | rfl | rfl
    · exact q300_ok
    · exact q301_ok
    · exact q302_ok
    · exact q303_ok
    · exact q304_ok
    · exact q305_ok
    · exact q306_ok
    · exact q307_ok
    · exact q308_ok
    · exact q309_ok
    · exact q3010_ok
    · exact q3011_ok
    · exact q3012_ok
    ) (fuel := 100000) (n := 300) (me := 47) (fun g => by kernel_rfl)
theorem q3014_ok : HOk q3014 := h_ok (fs := []) (tab := []) (hs := [109]) (tah := [q3013]) (by simp) (by
    intro e he
    simp only [List.mem_cons, List.not_mem_nil, or_false] at he
    rcases he with rfl
    · exact q3013_ok
    ) (fuel := 100000) (n := 300) (me := 17) (fun g => by kernel_rfl)
theorem q3015_ok : HOk q3015 := h_ok (fs := [44]) (tab := [pC13]) (hs := [47]) (tah := [q3014]) (by
    intro e he
    simp only [List.mem_cons, List.not_mem_nil, or_false] at he
    rcases he with rfl
    · exact pC13_ok
    ) (by
    intro e he
    simp only [List.mem_cons, List.not_mem_nil, or_false] at he
    rcases he with rfl
    · exact q3014_ok
    ) (fuel := 100000) (n := 300) (me := 12) (fun g => by kernel_rfl)
theorem q3016_ok : HOk q3016 := h_ok (fs := [16]) (tab := [pV3]) (hs := [17]) (tah := [q3015]) (by
    intro e he
    simp only [List.mem_cons, List.not_mem_nil, or_false] at he
    rcases he with rfl
    · exact pV3_ok
    ) (by
    intro e he
    simp only [List.mem_cons, List.not_mem_nil, or_false] at he
    rcases he with rfl
    · exact q3015_ok
    ) (fuel := 100000) (n := 300) (me := 8) (fun g => by kernel_rfl)
theorem q3017_ok : HOk q3017 := h_ok (fs := []) (tab := []) (hs := [12]) (tah := [q3016]) (by simp) (by
    intro e he
    simp only [List.mem_cons, List.not_mem_nil, or_false] at he
    rcases he with rfl
    · exact q3016_ok
    ) (fuel := 100000) (n := 300) (me := 5) (fun g => by kernel_rfl)
end Go.Ab
