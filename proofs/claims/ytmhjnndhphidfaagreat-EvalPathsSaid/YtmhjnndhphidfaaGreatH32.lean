/- Lemmas. -/
import Derived.Test.YtmhjnndhphidfaaGreatPH
import Derived.Test.YtmhjnndhphidfaaGreatPC5
import Derived.Test.YtmhjnndhphidfaaGreatPV3
namespace Go.Ab
set_option maxRecDepth 30000
set_option linter.unusedSimpArgs false
set_option linter.unusedVariables false
open Go.Proofs
noncomputable def q32O188 : Ob := .pr [[wI 0, .str []]]
noncomputable def q32E252 : NBO := (254, false, q32O188)
noncomputable def q32O189 : Ob := .cells [[.map 252, .p (wU 0)]]
noncomputable def q32E253 : NBO := (253, false, q32O189)
noncomputable def q32E254 : NBO := (252, false, qO182)
noncomputable def q32O190 : Ob := mch 3 2 (wH 0) 300 (.nils) 0
noncomputable def q32E255 : NBO := (5, true, q32O190)
noncomputable def q32O191 : Ob := .pr [[.fz [[wU 3], [wU 2], [wH 1]], .fz []]]
noncomputable def q32E256 : NBO := (1, true, q32O191)
noncomputable def q32L0 : HObjs := (setN q32E256 (setN q32E255 (app [q32E252, q32E253, q32E254] qL) 247) 253)
noncomputable def q320 : EntH := ⟨107, 255, q32L0, [.ptr 5 0 0, .ptr 253 0 0, .ptr 18 0 0], fun g => sg0, 255, fun g => (setN (5, mch 3 2 (wU (g 0)) 298 (.nils) 1) (setN (252, .pmap [(.str [105], wU 3)]) (mp g q32L0) 2) 247)⟩
noncomputable def q32E257 : NBO := (255, false, q32O188)
noncomputable def q32O192 : Ob := .pmap [(.str [105], wU 3)]
noncomputable def q32E258 : NBO := (252, false, q32O192)
noncomputable def q32O193 : Ob := mch 3 2 (wH 0) 298 (.nils) 1
noncomputable def q32E259 : NBO := (5, true, q32O193)
noncomputable def q32L1 : HObjs := (setN q32E259 (setN q32E258 (app [q32E257] q32L0) 3) 248)
noncomputable def q321 : EntH := ⟨107, 256, q32L1, [.ptr 5 0 0, .ptr 253 0 0, .ptr 19 0 0], fun g => sg0, 256, fun g => (setN (5, mch 3 2 (wU (g 0)) 296 (.nils) 2) (setN (252, .pmap [(.str [105], wU 3), (.str [106], wU 2)]) (mp g q32L1) 3) 248)⟩
noncomputable def q32E260 : NBO := (256, false, q32O188)
noncomputable def q32O194 : Ob := .pmap [(.str [105], wU 3), (.str [106], wU 2)]
noncomputable def q32E261 : NBO := (252, false, q32O194)
noncomputable def q32O195 : Ob := mch 3 2 (wH 0) 296 (.nils) 2
noncomputable def q32E262 : NBO := (5, true, q32O195)
noncomputable def q32L2 : HObjs := (setN q32E262 (setN q32E261 (app [q32E260] q32L1) 4) 249)
noncomputable def q322 : EntH := ⟨107, 257, q32L2, [.ptr 5 0 0, .ptr 253 0 0, .ptr 20 0 0], fun g => sg0, 257, fun g => (setN (5, mch 3 2 (wU (g 0)) 294 (.nils) 3) (setN (252, .pmap [(.str [105], wU 3), (.str [106], wU 2), (.str [118], wU (g 0))]) (mp g q32L2) 4) 249)⟩
noncomputable def q32E263 : NBO := (257, false, q32O188)
noncomputable def q32O196 : Ob := .pmap [(.str [105], wU 3), (.str [106], wU 2), (.str [118], wH 0)]
noncomputable def q32E264 : NBO := (252, true, q32O196)
noncomputable def q32O197 : Ob := mch 3 2 (wH 1) 294 (.nils) 3
noncomputable def q32E265 : NBO := (5, true, q32O197)
noncomputable def q32O198 : Ob := .pr [[.fz [[wU 3], [wU 2], [wH 2]], .fz []]]
noncomputable def q32E266 : NBO := (1, true, q32O198)
noncomputable def q32L3 : HObjs := (setN q32E266 (setN q32E265 (setN q32E264 (app [q32E263] q32L2) 5) 250) 256)
noncomputable def q323 : EntH := ⟨107, 258, q32L3, [.ptr 5 0 0, .ptr 253 0 0, .ptr 21 0 0], fun g => sg0, 258, fun g => (setN (7, .pr (setN [wB 27] (setN [wB 66] (ramW []) 1) 0)) (setN (5, mch 3 2 (wU (g 1)) 288 (.nils) 3) (mp g q32L3) 250) 254)⟩
noncomputable def q32E267 : NBO := (258, false, q32O188)
noncomputable def q32O199 : Ob := mch 3 2 (wH 1) 288 (.nils) 3
noncomputable def q32E268 : NBO := (5, true, q32O199)
noncomputable def q32O200 : Ob := .pr (ramW [(0, (.ofNat 27)), (1, (.ofNat 66))])
noncomputable def q32E269 : NBO := (7, false, q32O200)
noncomputable def q32L4 : HObjs := (setN q32E269 (setN q32E268 (app [q32E267] q32L3) 251) 255)
noncomputable def q324 : EntH := ⟨107, 259, q32L4, [.ptr 5 0 0, .ptr 253 0 0, .ptr 22 0 0], fun g => sg0, 259, fun g => (setN (7, .pr (setN [wB (e8 (g 0))] (setN [wB (e8 (eShr (g 0) 8))] (ramW [(0, (.ofNat 27)), (1, (.ofNat 66))]) 547) 546)) (setN (5, mch 3 2 (wU (g 1)) 281 (.nils) 3) (mp g q32L4) 251) 255)⟩
noncomputable def q32E270 : NBO := (259, false, q32O188)
noncomputable def q32O201 : Ob := mch 3 2 (wH 1) 281 (.nils) 3
noncomputable def q32E271 : NBO := (5, true, q32O201)
noncomputable def q32O202 : Ob := .pr (ramW [(0, (.ofNat 27)), (1, (.ofNat 66)), (546, (.negSucc 2)), (547, (.negSucc 3))])
noncomputable def q32E272 : NBO := (7, true, q32O202)
noncomputable def q32O203 : Ob := .pr [[.fz [[wU 3], [wU 2], [wH 4]], .fz []]]
noncomputable def q32E273 : NBO := (1, true, q32O203)
noncomputable def q32L5 : HObjs := (setN q32E273 (setN q32E272 (setN q32E271 (app [q32E270] q32L4) 252) 256) 258)
noncomputable def q325 : EntH := ⟨107, 260, q32L5, [.ptr 5 0 0, .ptr 253 0 0, .ptr 23 0 0], fun g => sg0, 260, fun g => (setN (7, .pr (setN [wB 27] (setN [wB 66] (mapL (mapL (inPV g 60)) (ramW [(0, (.ofNat 27)), (1, (.ofNat 66)), (546, (.negSucc 2)), (547, (.negSucc 3))])) 540) 539)) (setN (5, mch 3 2 (wU (g 1)) 276 (.nils) 3) (mp g q32L5) 252) 256)⟩
noncomputable def q32E274 : NBO := (260, false, q32O188)
noncomputable def q32O204 : Ob := mch 3 2 (wH 1) 276 (.nils) 3
noncomputable def q32E275 : NBO := (5, true, q32O204)
noncomputable def q32O205 : Ob := .pr (ramW [(0, (.ofNat 27)), (1, (.ofNat 66)), (539, (.ofNat 27)), (540, (.ofNat 66)), (546, (.negSucc 2)), (547, (.negSucc 3))])
noncomputable def q32E276 : NBO := (7, true, q32O205)
noncomputable def q32L6 : HObjs := (setN q32E276 (setN q32E275 (app [q32E274] q32L5) 253) 257)
noncomputable def q326 : EntH := ⟨107, 261, q32L6, [.ptr 5 0 0, .ptr 253 0 0, .ptr 24 0 0], fun g => sg0, 261, fun g => (setN (7, .pr (setN [wB (e8 (g 0))] (mapL (mapL (inPV g 60)) (ramW [(0, (.ofNat 27)), (1, (.ofNat 66)), (539, (.ofNat 27)), (540, (.ofNat 66)), (546, (.negSucc 2)), (547, (.negSucc 3))])) 541)) (setN (5, mch 3 2 (wU (g 1)) 271 (.nils) 3) (mp g q32L6) 253) 257)⟩
noncomputable def q32E277 : NBO := (261, false, q32O188)
noncomputable def q32O206 : Ob := mch 3 2 (wH 1) 271 (.nils) 3
noncomputable def q32E278 : NBO := (5, true, q32O206)
noncomputable def q32O207 : Ob := .pr (ramW [(0, (.ofNat 27)), (1, (.ofNat 66)), (539, (.ofNat 27)), (540, (.ofNat 66)), (541, (.negSucc 2)), (546, (.negSucc 3)), (547, (.negSucc 4))])
noncomputable def q32E279 : NBO := (7, true, q32O207)
noncomputable def q32O208 : Ob := .pr [[.fz [[wU 3], [wU 2], [wH 5]], .fz []]]
noncomputable def q32E280 : NBO := (1, true, q32O208)
noncomputable def q32L7 : HObjs := (setN q32E280 (setN q32E279 (setN q32E278 (app [q32E277] q32L6) 254) 258) 260)
noncomputable def q327 : EntH := ⟨107, 262, q32L7, [.ptr 5 0 0, .ptr 253 0 0, .ptr 25 0 0], fun g => sg0, 263, fun g => (setN (5, mch 3 2 (wU (g 1)) 264 (.row 262 2 0 1) 3) (app (sls [(261,1), (260,1), (259,1), (257,1), (256,1), (254,2), (258,1), (253,1), (252,1), (251,1), (250,1), (12,1), (11,1), (249,1), (248,1), (13,235), (10,1), (9,1), (8,1), (7,1), (6,1), (5,1), (4,1), (3,1), (2,1), (1,1), (0,1)] (mp g q32L7)) [(262, .pr [[wU 1, wU (eOr (e16 (g 3)) (eShl (e16 (g 4)) 8))]])]) 5)⟩
noncomputable def q32E281 : NBO := (263, false, q32O188)
noncomputable def q32O209 : Ob := .pr [[.fz [[wU 3], [wU 2], [wH 0]], .fz []]]
noncomputable def q32E282 : NBO := (1, true, q32O209)
noncomputable def q32O210 : Ob := mch 3 2 (wH 1) 264 (.row 262 2 0 1) 3
noncomputable def q32E283 : NBO := (5, true, q32O210)
noncomputable def q32O211 : Ob := .pmap [(.str [105], wU 3), (.str [106], wU 2), (.str [118], wH 5)]
noncomputable def q32E284 : NBO := (252, true, q32O211)
noncomputable def q32O212 : Ob := .pr [[wU 1, wH 6]]
noncomputable def q32E285 : NBO := (262, true, q32O212)
noncomputable def q32L8 : HObjs := (setN q32E284 (setN q32E283 (setN q32E282 (app [q32E281] (app (sls [(261,1), (260,1), (259,1), (257,1), (256,1), (254,2), (258,1), (253,1), (252,1), (251,1), (250,1), (12,1), (11,1), (249,1), (248,1), (13,235), (10,1), (9,1), (8,1), (7,1), (6,1), (5,1), (4,1), (3,1), (2,1), (1,1), (0,1)] q32L7) [q32E285])) 2) 6) 253)
noncomputable def q328 : EntH := ⟨107, 264, q32L8, [.ptr 5 0 0, .ptr 253 0 0, .ptr 26 0 0], fun g => sg0, 265, fun g => (setN (262, .dead) (setN (5, mch 3 2 (wU (g 1)) 256 (.row 264 2 0 2) 3) (app (sls [(1,263), (0,1)] (mp g q32L8)) [(264, .pr [[wU 1, wU (g 6)], [wU 1, wU (eOr (e16 (g 3)) (eShl (e16 (g 4)) 8))]])]) 5) 262)⟩
noncomputable def q32E286 : NBO := (265, false, q32O188)
noncomputable def q32O213 : Ob := mch 3 2 (wH 1) 256 (.row 264 2 0 2) 3
noncomputable def q32E287 : NBO := (5, true, q32O213)
noncomputable def q32O214 : Ob := .dead
noncomputable def q32E288 : NBO := (262, false, q32O214)
noncomputable def q32O215 : Ob := .pr [[wU 1, wH 6], [wU 1, wH 7]]
noncomputable def q32E289 : NBO := (264, true, q32O215)
noncomputable def q32L9 : HObjs := (setN q32E288 (setN q32E287 (app [q32E286] (app (sls [(1,263), (0,1)] q32L8) [q32E289])) 6) 263)
noncomputable def q329 : EntH := ⟨107, 266, q32L9, [.ptr 5 0 0, .ptr 253 0 0, .ptr 27 0 0], fun g => sg0, 267, fun g => (setN (264, .dead) (setN (5, mch 3 2 (wU (g 1)) 248 (.row 266 2 0 3) 3) (app (sls [(1,265), (0,1)] (mp g q32L9)) [(266, .pr [[wU 1, wU (g 6)], [wU 1, wU (g 7)], [wU 1, wU 16930]])]) 5) 264)⟩
noncomputable def q32E290 : NBO := (267, false, q32O188)
noncomputable def q32O216 : Ob := mch 3 2 (wH 1) 248 (.row 266 2 0 3) 3
noncomputable def q32E291 : NBO := (5, true, q32O216)
noncomputable def q32E292 : NBO := (264, false, q32O214)
noncomputable def q32O217 : Ob := .pr [[wU 1, wH 6], [wU 1, wH 7], [wU 1, wU 16930]]
noncomputable def q32E293 : NBO := (266, true, q32O217)
noncomputable def q32L10 : HObjs := (setN q32E292 (setN q32E291 (app [q32E290] (app (sls [(1,265), (0,1)] q32L9) [q32E293])) 6) 265)
noncomputable def q3210 : EntH := ⟨107, 268, q32L10, [.ptr 5 0 0, .ptr 253 0 0, .ptr 28 0 0], fun g => sg0, 269, fun g => (setN (266, .dead) (setN (5, mch 3 2 (wU (g 1)) 239 (.row 268 2 0 4) 3) (app (sls [(1,267), (0,1)] (mp g q32L10)) [(268, .pr [[wU 1, wU (g 6)], [wU 1, wU (g 7)], [wU 1, wU 16930], [wU 1, wU 1]])]) 5) 266)⟩
noncomputable def q32E294 : NBO := (269, false, q32O188)
noncomputable def q32O218 : Ob := mch 3 2 (wH 1) 239 (.row 268 2 0 4) 3
noncomputable def q32E295 : NBO := (5, true, q32O218)
noncomputable def q32E296 : NBO := (266, false, q32O214)
noncomputable def q32O219 : Ob := .pr [[wU 1, wH 6], [wU 1, wH 7], [wU 1, wU 16930], [wU 1, wU 1]]
noncomputable def q32E297 : NBO := (268, true, q32O219)
noncomputable def q32L11 : HObjs := (setN q32E296 (setN q32E295 (app [q32E294] (app (sls [(1,267), (0,1)] q32L10) [q32E297])) 6) 267)
noncomputable def q3211 : EntH := ⟨107, 270, q32L11, [.ptr 5 0 0, .ptr 253 0 0, .ptr 29 0 0], fun g => sg0, 271, fun g => (setN (268, .dead) (setN (5, mch 3 2 (wU (g 1)) 233 (.row 270 2 0 5) 3) (app (sls [(1,269), (0,1)] (mp g q32L11)) [(270, .pr [[wU 1, wU (g 6)], [wU 1, wU (g 7)], [wU 1, wU 16930], [wU 1, wU 1], [wU 1, wU 0]])]) 5) 268)⟩
noncomputable def q32E298 : NBO := (271, false, q32O188)
noncomputable def q32O220 : Ob := mch 3 2 (wH 1) 233 (.row 270 2 0 5) 3
noncomputable def q32E299 : NBO := (5, true, q32O220)
noncomputable def q32E300 : NBO := (268, false, q32O214)
noncomputable def q32O221 : Ob := .pr [[wU 1, wH 6], [wU 1, wH 7], [wU 1, wU 16930], [wU 1, wU 1], [wU 1, wU 0]]
noncomputable def q32E301 : NBO := (270, true, q32O221)
noncomputable def q32L12 : HObjs := (setN q32E300 (setN q32E299 (app [q32E298] (app (sls [(1,269), (0,1)] q32L11) [q32E301])) 6) 269)
noncomputable def q3212 : EntH := ⟨107, 272, q32L12, [.ptr 5 0 0, .ptr 253 0 0, .ptr 30 0 0], fun g => sg0, 273, fun g => (setN (270, .dead) (setN (5, mch 3 2 (wU (g 1)) 228 (.row 272 2 0 6) 3) (app (sls [(1,271), (0,1)] (mp g q32L12)) [(272, .pr [[wU 1, wU (g 6)], [wU 1, wU (g 7)], [wU 1, wU 16930], [wU 1, wU 1], [wU 1, wU 0], [wU 1, wU (e16 (g 2))]])]) 5) 270)⟩
noncomputable def q32L13 : HObjs := (setN q32E256 (setN qE248 (setN q32E255 (setN q32E254 (sls [(254,1), (253,1), (252,1), (14,1), (13,1), (17,235), (16,1), (15,1), (12,1), (11,1), (10,1), (9,1), (6,2), (5,1), (4,1), (8,1), (3,1), (2,1), (1,1)] q32L12) 1) 246) 250) 252)
noncomputable def q3213 : EntH := ⟨109, 254, q32L13, [.ptr 5 0 0, .ptr 253 0 0, .ptr 16 0 0], fun g => sg0, 255, fun g => (setN (252, .pmap [(.str [105], wU 3), (.str [106], wU 2), (.str [118], wU (g 0))]) (setN (7, .pr (setN [wB 27] (setN [wB 66] (setN [wB 27] (setN [wB 66] (setN [wB (e8 (g 0))] (setN [wB (e8 (g 0))] (setN [wB (e8 (eShr (g 0) 8))] (ramW []) 547) 546) 541) 540) 539) 1) 0)) (setN (5, mch 3 2 (wU (g 0)) 228 (.row 254 2 0 6) 3) (app (sls [(253,1), (252,1), (251,1), (249,1), (248,1), (246,2), (250,1), (245,1), (244,1), (243,1), (242,1), (4,1), (3,1), (241,1), (240,1), (5,235), (2,1), (1,1), (0,1)] (mp g q32L13)) [(254, .pr [[wU 1, wU (eOr (e16 (e8 (g 0))) (eShl (e16 (e8 (eShr (g 0) 8))) 8))], [wU 1, wU (eOr (e16 (e8 (g 0))) (eShl (e16 (e8 (eShr (g 0) 8))) 8))], [wU 1, wU 16930], [wU 1, wU 1], [wU 1, wU 0], [wU 1, wU (e16 (e8 (g 0)))]])]) 5) 7) 252)⟩
noncomputable def q32L14 : HObjs := (sls [(2,252)] q32L13)
noncomputable def q3214 : EntH := ⟨47, 252, q32L14, [.ptr 5 0 0, .ptr 11 0 0, .p (.fz [])], fun g => .p (wU 0), 253, fun g => (setN (7, .pr (setN [wB 27] (setN [wB 66] (setN [wB 27] (setN [wB 66] (setN [wB (e8 (g 0))] (setN [wB (e8 (g 0))] (setN [wB (e8 (eShr (g 0) 8))] (ramW []) 547) 546) 541) 540) 539) 1) 0)) (setN (5, mch 3 2 (wU (g 0)) 228 (.row 252 2 0 6) 3) (app (sls [(251,1), (250,1), (249,1), (247,1), (246,1), (244,2), (248,1), (243,1), (242,1), (241,1), (240,1), (2,1), (1,1), (239,1), (238,1), (3,235), (0,1)] (mp g q32L14)) [(252, .pr [[wU 1, wU (eOr (e16 (e8 (g 0))) (eShl (e16 (e8 (eShr (g 0) 8))) 8))], [wU 1, wU (eOr (e16 (e8 (g 0))) (eShl (e16 (e8 (eShr (g 0) 8))) 8))], [wU 1, wU 16930], [wU 1, wU 1], [wU 1, wU 0], [wU 1, wU (e16 (e8 (g 0)))]])]) 5) 7)⟩
noncomputable def q3215 : EntH := ⟨17, 0, [], [.p (.agg [qV0, qV1, qV11]), .p (.str [109,97,105,110]), .p (.fz []), .p (.str []), .p (.agg [.fz [[wU 3], [wU 2], [wH 0]], .fz []]), .p (wI 300)], fun g => .p (.agg [wU 0, .fz [[wU 1, wU (eOr (e16 (e8 (g 0))) (eShl (e16 (e8 (eShr (g 0) 8))) 8))], [wU 1, wU (eOr (e16 (e8 (g 0))) (eShl (e16 (e8 (eShr (g 0) 8))) 8))], [wU 1, wU 16930], [wU 1, wU 1], [wU 1, wU 0], [wU 1, wU (e16 (e8 (g 0)))]], wI 6, wU 0, .str (strW [(0,27), (1,66), (539,27), (540,66), (541, e8 (e8 (g 0))), (546, e8 (e8 (g 0))), (547, e8 (e8 (eShr (g 0) 8)))]), wI 3, wI 0]), 0, fun g => []⟩
noncomputable def q3216 : EntH := ⟨12, 0, [], [.p (.agg [qV0, qV1, qV11]), .p (.str [109,97,105,110]), .p (.fz []), .p (.str []), .p (.agg [.fz [[wU 3], [wU 2], [wH 0]], .fz []]), .p (wI 300)], fun g => .p (.agg [wU 0, .fz [[wU 1, wU (eOr (e16 (e8 (g 0))) (eShl (e16 (e8 (eShr (g 0) 8))) 8))], [wU 1, wU (eOr (e16 (e8 (g 0))) (eShl (e16 (e8 (eShr (g 0) 8))) 8))], [wU 1, wU 16930], [wU 1, wU 1], [wU 1, wU 0], [wU 1, wU (e16 (e8 (g 0)))]], wI 6, wU 0, .str (strW [(0,27), (1,66), (539,27), (540,66), (541, e8 (e8 (g 0))), (546, e8 (e8 (g 0))), (547, e8 (e8 (eShr (g 0) 8)))]), wI 3, wI 0]), 0, fun g => []⟩
noncomputable def q3217 : EntH := ⟨8, 0, [], [.p (.agg [qV0, qV1, qV11]), .p (.agg [.fz [[wU 3], [wU 2], [wH 0]], .fz []]), .p (wI 300)], fun g => .p (.agg [wU 0, .fz [[wU 1, wU (eOr (e16 (e8 (g 0))) (eShl (e16 (e8 (eShr (g 0) 8))) 8))], [wU 1, wU (eOr (e16 (e8 (g 0))) (eShl (e16 (e8 (eShr (g 0) 8))) 8))], [wU 1, wU 16930], [wU 1, wU 1], [wU 1, wU 0], [wU 1, wU (e16 (e8 (g 0)))]], wI 6, wU 0, .str (strW [(0,27), (1,66), (539,27), (540,66), (541, e8 (e8 (g 0))), (546, e8 (e8 (g 0))), (547, e8 (e8 (eShr (g 0) 8)))]), wI 3, wI 0]), 0, fun g => []⟩
theorem q320_ok : HOk q320 := h1_ok (fun g => by kernel_rfl)
theorem q321_ok : HOk q321 := h1_ok (fun g => by kernel_rfl)
theorem q322_ok : HOk q322 := h1_ok (fun g => by kernel_rfl)
theorem q323_ok : HOk q323 := h1_ok (fun g => by kernel_rfl)
theorem q324_ok : HOk q324 := h1_ok (fun g => by kernel_rfl)
theorem q325_ok : HOk q325 := h1_ok (fun g => by kernel_rfl)
theorem q326_ok : HOk q326 := h1_ok (fun g => by kernel_rfl)
theorem q327_ok : HOk q327 := h1_ok (fun g => by kernel_rfl)
theorem q328_ok : HOk q328 := h1_ok (fun g => by kernel_rfl)
theorem q329_ok : HOk q329 := h1_ok (fun g => by kernel_rfl)
theorem q3210_ok : HOk q3210 := h1_ok (fun g => by kernel_rfl)
theorem q3211_ok : HOk q3211 := h1_ok (fun g => by kernel_rfl)
theorem q3212_ok : HOk q3212 := h1_ok (fun g => by kernel_rfl)
theorem q3213_ok : HOk q3213 := h_ok (fs := []) (tab := []) (hs := [107]) (tah := [q320, q321, q322, q323, q324, q325, q326, q327, q328, q329, q3210, q3211, q3212]) (by simp) (by
    intro e he
    simp only [List.mem_cons, List.not_mem_nil, or_false] at he
    rcases he with rfl | rfl | rfl | rfl | rfl | rfl | rfl | rfl | rfl | rfl | rfl | rfl | rfl
    · exact q320_ok
    · exact q321_ok
    · exact q322_ok
    · exact q323_ok
    · exact q324_ok
    · exact q325_ok
    · exact q326_ok
    · exact q327_ok
    · exact q328_ok
    · exact q329_ok
    · exact q3210_ok
    · exact q3211_ok
    · exact q3212_ok
    ) (fuel := 100000) (n := 300) (me := 47) (fun g => by kernel_rfl)
theorem q3214_ok : HOk q3214 := h_ok (fs := []) (tab := []) (hs := [109]) (tah := [q3213]) (by simp) (by
    intro e he
    simp only [List.mem_cons, List.not_mem_nil, or_false] at he
    rcases he with rfl
    · exact q3213_ok
    ) (fuel := 100000) (n := 300) (me := 17) (fun g => by kernel_rfl)
theorem q3215_ok : HOk q3215 := h_ok (fs := [44]) (tab := [pC13]) (hs := [47]) (tah := [q3214]) (by
    intro e he
    simp only [List.mem_cons, List.not_mem_nil, or_false] at he
    rcases he with rfl
    · exact pC13_ok
    ) (by
    intro e he
    simp only [List.mem_cons, List.not_mem_nil, or_false] at he
    rcases he with rfl
    · exact q3214_ok
    ) (fuel := 100000) (n := 300) (me := 12) (fun g => by kernel_rfl)
theorem q3216_ok : HOk q3216 := h_ok (fs := [16]) (tab := [pV3]) (hs := [17]) (tah := [q3215]) (by
    intro e he
    simp only [List.mem_cons, List.not_mem_nil, or_false] at he
    rcases he with rfl
    · exact pV3_ok
    ) (by
    intro e he
    simp only [List.mem_cons, List.not_mem_nil, or_false] at he
    rcases he with rfl
    · exact q3215_ok
    ) (fuel := 100000) (n := 300) (me := 8) (fun g => by kernel_rfl)
theorem q3217_ok : HOk q3217 := h_ok (fs := []) (tab := []) (hs := [12]) (tah := [q3216]) (by simp) (by
    intro e he
    simp only [List.mem_cons, List.not_mem_nil, or_false] at he
    rcases he with rfl
    · exact q3216_ok
    ) (fuel := 100000) (n := 300) (me := 5) (fun g => by kernel_rfl)
end Go.Ab
