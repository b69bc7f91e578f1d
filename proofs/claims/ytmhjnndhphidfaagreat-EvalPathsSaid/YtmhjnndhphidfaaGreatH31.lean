/- Lemmas. -/
import Derived.Test.YtmhjnndhphidfaaGreatPH
import Derived.Test.YtmhjnndhphidfaaGreatPC5
import Derived.Test.YtmhjnndhphidfaaGreatPV3
namespace Go.Ab
set_option maxRecDepth 30000
set_option linter.unusedSimpArgs false
set_option linter.unusedVariables false
open Go.Proofs
noncomputable def q31O188 : Ob := .pr [[wI 0, .str []]]
noncomputable def q31E252 : NBO := (254, false, q31O188)
noncomputable def q31O189 : Ob := .cells [[.map 252, .p (wU 0)]]
noncomputable def q31E253 : NBO := (253, false, q31O189)
noncomputable def q31E254 : NBO := (252, false, qO182)
noncomputable def q31O190 : Ob := mch 3 1 (wH 0) 300 (.nils) 0
noncomputable def q31E255 : NBO := (5, true, q31O190)
noncomputable def q31O191 : Ob := .pr [[.fz [[wU 3], [wU 1], [wH 1]], .fz []]]
noncomputable def q31E256 : NBO := (1, true, q31O191)
noncomputable def q31L0 : HObjs := (setN q31E256 (setN q31E255 (app [q31E252, q31E253, q31E254] qL) 247) 253)
noncomputable def q310 : EntH := ⟨107, 255, q31L0, [.ptr 5 0 0, .ptr 253 0 0, .ptr 18 0 0], fun g => sg0, 255, fun g => (setN (5, mch 3 1 (wU (g 0)) 298 (.nils) 1) (setN (252, .pmap [(.str [105], wU 3)]) (mp g q31L0) 2) 247)⟩
noncomputable def q31E257 : NBO := (255, false, q31O188)
noncomputable def q31O192 : Ob := .pmap [(.str [105], wU 3)]
noncomputable def q31E258 : NBO := (252, false, q31O192)
noncomputable def q31O193 : Ob := mch 3 1 (wH 0) 298 (.nils) 1
noncomputable def q31E259 : NBO := (5, true, q31O193)
noncomputable def q31L1 : HObjs := (setN q31E259 (setN q31E258 (app [q31E257] q31L0) 3) 248)
noncomputable def q311 : EntH := ⟨107, 256, q31L1, [.ptr 5 0 0, .ptr 253 0 0, .ptr 19 0 0], fun g => sg0, 256, fun g => (setN (5, mch 3 1 (wU (g 0)) 296 (.nils) 2) (setN (252, .pmap [(.str [105], wU 3), (.str [106], wU 1)]) (mp g q31L1) 3) 248)⟩
noncomputable def q31E260 : NBO := (256, false, q31O188)
noncomputable def q31O194 : Ob := .pmap [(.str [105], wU 3), (.str [106], wU 1)]
noncomputable def q31E261 : NBO := (252, false, q31O194)
noncomputable def q31O195 : Ob := mch 3 1 (wH 0) 296 (.nils) 2
noncomputable def q31E262 : NBO := (5, true, q31O195)
noncomputable def q31L2 : HObjs := (setN q31E262 (setN q31E261 (app [q31E260] q31L1) 4) 249)
noncomputable def q312 : EntH := ⟨107, 257, q31L2, [.ptr 5 0 0, .ptr 253 0 0, .ptr 20 0 0], fun g => sg0, 257, fun g => (setN (5, mch 3 1 (wU (g 0)) 294 (.nils) 3) (setN (252, .pmap [(.str [105], wU 3), (.str [106], wU 1), (.str [118], wU (g 0))]) (mp g q31L2) 4) 249)⟩
noncomputable def q31E263 : NBO := (257, false, q31O188)
noncomputable def q31O196 : Ob := .pmap [(.str [105], wU 3), (.str [106], wU 1), (.str [118], wH 0)]
noncomputable def q31E264 : NBO := (252, true, q31O196)
noncomputable def q31O197 : Ob := mch 3 1 (wH 1) 294 (.nils) 3
noncomputable def q31E265 : NBO := (5, true, q31O197)
noncomputable def q31O198 : Ob := .pr [[.fz [[wU 3], [wU 1], [wH 2]], .fz []]]
noncomputable def q31E266 : NBO := (1, true, q31O198)
noncomputable def q31L3 : HObjs := (setN q31E266 (setN q31E265 (setN q31E264 (app [q31E263] q31L2) 5) 250) 256)
noncomputable def q313 : EntH := ⟨107, 258, q31L3, [.ptr 5 0 0, .ptr 253 0 0, .ptr 21 0 0], fun g => sg0, 258, fun g => (setN (7, .pr (setN [wB 27] (setN [wB 66] (ramW []) 1) 0)) (setN (5, mch 3 1 (wU (g 1)) 288 (.nils) 3) (mp g q31L3) 250) 254)⟩
noncomputable def q31E267 : NBO := (258, false, q31O188)
noncomputable def q31O199 : Ob := mch 3 1 (wH 1) 288 (.nils) 3
noncomputable def q31E268 : NBO := (5, true, q31O199)
noncomputable def q31O200 : Ob := .pr (ramW [(0, (.ofNat 27)), (1, (.ofNat 66))])
noncomputable def q31E269 : NBO := (7, false, q31O200)
noncomputable def q31L4 : HObjs := (setN q31E269 (setN q31E268 (app [q31E267] q31L3) 251) 255)
noncomputable def q314 : EntH := ⟨107, 259, q31L4, [.ptr 5 0 0, .ptr 253 0 0, .ptr 22 0 0], fun g => sg0, 259, fun g => (setN (7, .pr (setN [wB (e8 (g 0))] (setN [wB (e8 (eShr (g 0) 8))] (ramW [(0, (.ofNat 27)), (1, (.ofNat 66))]) 545) 544)) (setN (5, mch 3 1 (wU (g 1)) 281 (.nils) 3) (mp g q31L4) 251) 255)⟩
noncomputable def q31E270 : NBO := (259, false, q31O188)
noncomputable def q31O201 : Ob := mch 3 1 (wH 1) 281 (.nils) 3
noncomputable def q31E271 : NBO := (5, true, q31O201)
noncomputable def q31O202 : Ob := .pr (ramW [(0, (.ofNat 27)), (1, (.ofNat 66)), (544, (.negSucc 2)), (545, (.negSucc 3))])
noncomputable def q31E272 : NBO := (7, true, q31O202)
noncomputable def q31O203 : Ob := .pr [[.fz [[wU 3], [wU 1], [wH 4]], .fz []]]
noncomputable def q31E273 : NBO := (1, true, q31O203)
noncomputable def q31L5 : HObjs := (setN q31E273 (setN q31E272 (setN q31E271 (app [q31E270] q31L4) 252) 256) 258)
noncomputable def q315 : EntH := ⟨107, 260, q31L5, [.ptr 5 0 0, .ptr 253 0 0, .ptr 23 0 0], fun g => sg0, 260, fun g => (setN (7, .pr (setN [wB 27] (setN [wB 66] (mapL (mapL (inPV g 60)) (ramW [(0, (.ofNat 27)), (1, (.ofNat 66)), (544, (.negSucc 2)), (545, (.negSucc 3))])) 540) 539)) (setN (5, mch 3 1 (wU (g 1)) 276 (.nils) 3) (mp g q31L5) 252) 256)⟩
noncomputable def q31E274 : NBO := (260, false, q31O188)
noncomputable def q31O204 : Ob := mch 3 1 (wH 1) 276 (.nils) 3
noncomputable def q31E275 : NBO := (5, true, q31O204)
noncomputable def q31O205 : Ob := .pr (ramW [(0, (.ofNat 27)), (1, (.ofNat 66)), (539, (.ofNat 27)), (540, (.ofNat 66)), (544, (.negSucc 2)), (545, (.negSucc 3))])
noncomputable def q31E276 : NBO := (7, true, q31O205)
noncomputable def q31L6 : HObjs := (setN q31E276 (setN q31E275 (app [q31E274] q31L5) 253) 257)
noncomputable def q316 : EntH := ⟨107, 261, q31L6, [.ptr 5 0 0, .ptr 253 0 0, .ptr 24 0 0], fun g => sg0, 261, fun g => (setN (7, .pr (setN [wB (e8 (g 0))] (mapL (mapL (inPV g 60)) (ramW [(0, (.ofNat 27)), (1, (.ofNat 66)), (539, (.ofNat 27)), (540, (.ofNat 66)), (544, (.negSucc 2)), (545, (.negSucc 3))])) 541)) (setN (5, mch 3 1 (wU (g 1)) 271 (.nils) 3) (mp g q31L6) 253) 257)⟩
noncomputable def q31E277 : NBO := (261, false, q31O188)
noncomputable def q31O206 : Ob := mch 3 1 (wH 1) 271 (.nils) 3
noncomputable def q31E278 : NBO := (5, true, q31O206)
noncomputable def q31O207 : Ob := .pr (ramW [(0, (.ofNat 27)), (1, (.ofNat 66)), (539, (.ofNat 27)), (540, (.ofNat 66)), (541, (.negSucc 2)), (544, (.negSucc 3)), (545, (.negSucc 4))])
noncomputable def q31E279 : NBO := (7, true, q31O207)
noncomputable def q31O208 : Ob := .pr [[.fz [[wU 3], [wU 1], [wH 5]], .fz []]]
noncomputable def q31E280 : NBO := (1, true, q31O208)
noncomputable def q31L7 : HObjs := (setN q31E280 (setN q31E279 (setN q31E278 (app [q31E277] q31L6) 254) 258) 260)
noncomputable def q317 : EntH := ⟨107, 262, q31L7, [.ptr 5 0 0, .ptr 253 0 0, .ptr 25 0 0], fun g => sg0, 263, fun g => (setN (5, mch 3 1 (wU (g 1)) 264 (.row 262 2 0 1) 3) (app (sls [(261,1), (260,1), (259,1), (257,1), (256,1), (254,2), (258,1), (253,1), (252,1), (251,1), (250,1), (12,1), (11,1), (249,1), (248,1), (13,235), (10,1), (9,1), (8,1), (7,1), (6,1), (5,1), (4,1), (3,1), (2,1), (1,1), (0,1)] (mp g q31L7)) [(262, .pr [[wU 1, wU (eOr (e16 (g 3)) (eShl (e16 (g 4)) 8))]])]) 5)⟩
noncomputable def q31E281 : NBO := (263, false, q31O188)
noncomputable def q31O209 : Ob := .pr [[.fz [[wU 3], [wU 1], [wH 0]], .fz []]]
noncomputable def q31E282 : NBO := (1, true, q31O209)
noncomputable def q31O210 : Ob := mch 3 1 (wH 1) 264 (.row 262 2 0 1) 3
noncomputable def q31E283 : NBO := (5, true, q31O210)
noncomputable def q31O211 : Ob := .pmap [(.str [105], wU 3), (.str [106], wU 1), (.str [118], wH 5)]
noncomputable def q31E284 : NBO := (252, true, q31O211)
noncomputable def q31O212 : Ob := .pr [[wU 1, wH 6]]
noncomputable def q31E285 : NBO := (262, true, q31O212)
noncomputable def q31L8 : HObjs := (setN q31E284 (setN q31E283 (setN q31E282 (app [q31E281] (app (sls [(261,1), (260,1), (259,1), (257,1), (256,1), (254,2), (258,1), (253,1), (252,1), (251,1), (250,1), (12,1), (11,1), (249,1), (248,1), (13,235), (10,1), (9,1), (8,1), (7,1), (6,1), (5,1), (4,1), (3,1), (2,1), (1,1), (0,1)] q31L7) [q31E285])) 2) 6) 253)
noncomputable def q318 : EntH := ⟨107, 264, q31L8, [.ptr 5 0 0, .ptr 253 0 0, .ptr 26 0 0], fun g => sg0, 265, fun g => (setN (262, .dead) (setN (5, mch 3 1 (wU (g 1)) 256 (.row 264 2 0 2) 3) (app (sls [(1,263), (0,1)] (mp g q31L8)) [(264, .pr [[wU 1, wU (g 6)], [wU 1, wU (eOr (e16 (g 3)) (eShl (e16 (g 4)) 8))]])]) 5) 262)⟩
noncomputable def q31E286 : NBO := (265, false, q31O188)
noncomputable def q31O213 : Ob := mch 3 1 (wH 1) 256 (.row 264 2 0 2) 3
noncomputable def q31E287 : NBO := (5, true, q31O213)
noncomputable def q31O214 : Ob := .dead
noncomputable def q31E288 : NBO := (262, false, q31O214)
noncomputable def q31O215 : Ob := .pr [[wU 1, wH 6], [wU 1, wH 7]]
noncomputable def q31E289 : NBO := (264, true, q31O215)
noncomputable def q31L9 : HObjs := (setN q31E288 (setN q31E287 (app [q31E286] (app (sls [(1,263), (0,1)] q31L8) [q31E289])) 6) 263)
noncomputable def q319 : EntH := ⟨107, 266, q31L9, [.ptr 5 0 0, .ptr 253 0 0, .ptr 27 0 0], fun g => sg0, 267, fun g => (setN (264, .dead) (setN (5, mch 3 1 (wU (g 1)) 248 (.row 266 2 0 3) 3) (app (sls [(1,265), (0,1)] (mp g q31L9)) [(266, .pr [[wU 1, wU (g 6)], [wU 1, wU (g 7)], [wU 1, wU 16928]])]) 5) 264)⟩
noncomputable def q31E290 : NBO := (267, false, q31O188)
noncomputable def q31O216 : Ob := mch 3 1 (wH 1) 248 (.row 266 2 0 3) 3
noncomputable def q31E291 : NBO := (5, true, q31O216)
noncomputable def q31E292 : NBO := (264, false, q31O214)
noncomputable def q31O217 : Ob := .pr [[wU 1, wH 6], [wU 1, wH 7], [wU 1, wU 16928]]
noncomputable def q31E293 : NBO := (266, true, q31O217)
noncomputable def q31L10 : HObjs := (setN q31E292 (setN q31E291 (app [q31E290] (app (sls [(1,265), (0,1)] q31L9) [q31E293])) 6) 265)
noncomputable def q3110 : EntH := ⟨107, 268, q31L10, [.ptr 5 0 0, .ptr 253 0 0, .ptr 28 0 0], fun g => sg0, 269, fun g => (setN (266, .dead) (setN (5, mch 3 1 (wU (g 1)) 239 (.row 268 2 0 4) 3) (app (sls [(1,267), (0,1)] (mp g q31L10)) [(268, .pr [[wU 1, wU (g 6)], [wU 1, wU (g 7)], [wU 1, wU 16928], [wU 1, wU 1]])]) 5) 266)⟩
noncomputable def q31E294 : NBO := (269, false, q31O188)
noncomputable def q31O218 : Ob := mch 3 1 (wH 1) 239 (.row 268 2 0 4) 3
noncomputable def q31E295 : NBO := (5, true, q31O218)
noncomputable def q31E296 : NBO := (266, false, q31O214)
noncomputable def q31O219 : Ob := .pr [[wU 1, wH 6], [wU 1, wH 7], [wU 1, wU 16928], [wU 1, wU 1]]
noncomputable def q31E297 : NBO := (268, true, q31O219)
noncomputable def q31L11 : HObjs := (setN q31E296 (setN q31E295 (app [q31E294] (app (sls [(1,267), (0,1)] q31L10) [q31E297])) 6) 267)
noncomputable def q3111 : EntH := ⟨107, 270, q31L11, [.ptr 5 0 0, .ptr 253 0 0, .ptr 29 0 0], fun g => sg0, 271, fun g => (setN (268, .dead) (setN (5, mch 3 1 (wU (g 1)) 233 (.row 270 2 0 5) 3) (app (sls [(1,269), (0,1)] (mp g q31L11)) [(270, .pr [[wU 1, wU (g 6)], [wU 1, wU (g 7)], [wU 1, wU 16928], [wU 1, wU 1], [wU 1, wU 0]])]) 5) 268)⟩
noncomputable def q31E298 : NBO := (271, false, q31O188)
noncomputable def q31O220 : Ob := mch 3 1 (wH 1) 233 (.row 270 2 0 5) 3
noncomputable def q31E299 : NBO := (5, true, q31O220)
noncomputable def q31E300 : NBO := (268, false, q31O214)
noncomputable def q31O221 : Ob := .pr [[wU 1, wH 6], [wU 1, wH 7], [wU 1, wU 16928], [wU 1, wU 1], [wU 1, wU 0]]
noncomputable def q31E301 : NBO := (270, true, q31O221)
noncomputable def q31L12 : HObjs := (setN q31E300 (setN q31E299 (app [q31E298] (app (sls [(1,269), (0,1)] q31L11) [q31E301])) 6) 269)
noncomputable def q3112 : EntH := ⟨107, 272, q31L12, [.ptr 5 0 0, .ptr 253 0 0, .ptr 30 0 0], fun g => sg0, 273, fun g => (setN (270, .dead) (setN (5, mch 3 1 (wU (g 1)) 228 (.row 272 2 0 6) 3) (app (sls [(1,271), (0,1)] (mp g q31L12)) [(272, .pr [[wU 1, wU (g 6)], [wU 1, wU (g 7)], [wU 1, wU 16928], [wU 1, wU 1], [wU 1, wU 0], [wU 1, wU (e16 (g 2))]])]) 5) 270)⟩
noncomputable def q31L13 : HObjs := (setN q31E256 (setN qE248 (setN q31E255 (setN q31E254 (sls [(254,1), (253,1), (252,1), (14,1), (13,1), (17,235), (16,1), (15,1), (12,1), (11,1), (10,1), (9,1), (6,2), (5,1), (4,1), (8,1), (3,1), (2,1), (1,1)] q31L12) 1) 246) 250) 252)
noncomputable def q3113 : EntH := ⟨109, 254, q31L13, [.ptr 5 0 0, .ptr 253 0 0, .ptr 16 0 0], fun g => sg0, 255, fun g => (setN (252, .pmap [(.str [105], wU 3), (.str [106], wU 1), (.str [118], wU (g 0))]) (setN (7, .pr (setN [wB 27] (setN [wB 66] (setN [wB 27] (setN [wB 66] (setN [wB (e8 (g 0))] (setN [wB (e8 (g 0))] (setN [wB (e8 (eShr (g 0) 8))] (ramW []) 545) 544) 541) 540) 539) 1) 0)) (setN (5, mch 3 1 (wU (g 0)) 228 (.row 254 2 0 6) 3) (app (sls [(253,1), (252,1), (251,1), (249,1), (248,1), (246,2), (250,1), (245,1), (244,1), (243,1), (242,1), (4,1), (3,1), (241,1), (240,1), (5,235), (2,1), (1,1), (0,1)] (mp g q31L13)) [(254, .pr [[wU 1, wU (eOr (e16 (e8 (g 0))) (eShl (e16 (e8 (eShr (g 0) 8))) 8))], [wU 1, wU (eOr (e16 (e8 (g 0))) (eShl (e16 (e8 (eShr (g 0) 8))) 8))], [wU 1, wU 16928], [wU 1, wU 1], [wU 1, wU 0], [wU 1, wU (e16 (e8 (g 0)))]])]) 5) 7) 252)⟩
noncomputable def q31L14 : HObjs := (sls [(2,252)] q31L13)
noncomputable def q3114 : EntH := ⟨47, 252, q31L14, [.ptr 5 0 0, .ptr 11 0 0, .p (.fz [])], fun g => .p (wU 0), 253, fun g => (setN (7, .pr (setN [wB 27] (setN [wB 66] (setN [wB 27] (setN [wB 66] (setN [wB (e8 (g 0))] (setN [wB (e8 (g 0))] (setN [wB (e8 (eShr (g 0) 8))] (ramW []) 545) 544) 541) 540) 539) 1) 0)) (setN (5, mch 3 1 (wU (g 0)) 228 (.row 252 2 0 6) 3) (app (sls [(251,1), (250,1), (249,1), (247,1), (246,1), (244,2), (248,1), (243,1), (242,1), (241,1), (240,1), (2,1), (1,1), (239,1), (238,1), (3,235), (0,1)] (mp g q31L14)) [(252, .pr [[wU 1, wU (eOr (e16 (e8 (g 0))) (eShl (e16 (e8 (eShr (g 0) 8))) 8))], [wU 1, wU (eOr (e16 (e8 (g 0))) (eShl (e16 (e8 (eShr (g 0) 8))) 8))], [wU 1, wU 16928], [wU 1, wU 1], [wU 1, wU 0], [wU 1, wU (e16 (e8 (g 0)))]])]) 5) 7)⟩
noncomputable def q3115 : EntH := ⟨17, 0, [], [.p (.agg [qV0, qV1, qV11]), .p (.str [109,97,105,110]), .p (.fz []), .p (.str []), .p (.agg [.fz [[wU 3], [wU 1], [wH 0]], .fz []]), .p (wI 300)], fun g => .p (.agg [wU 0, .fz [[wU 1, wU (eOr (e16 (e8 (g 0))) (eShl (e16 (e8 (eShr (g 0) 8))) 8))], [wU 1, wU (eOr (e16 (e8 (g 0))) (eShl (e16 (e8 (eShr (g 0) 8))) 8))], [wU 1, wU 16928], [wU 1, wU 1], [wU 1, wU 0], [wU 1, wU (e16 (e8 (g 0)))]], wI 6, wU 0, .str (strW [(0,27), (1,66), (539,27), (540,66), (541, e8 (e8 (g 0))), (544, e8 (e8 (g 0))), (545, e8 (e8 (eShr (g 0) 8)))]), wI 3, wI 0]), 0, fun g => []⟩
noncomputable def q3116 : EntH := ⟨12, 0, [], [.p (.agg [qV0, qV1, qV11]), .p (.str [109,97,105,110]), .p (.fz []), .p (.str []), .p (.agg [.fz [[wU 3], [wU 1], [wH 0]], .fz []]), .p (wI 300)], fun g => .p (.agg [wU 0, .fz [[wU 1, wU (eOr (e16 (e8 (g 0))) (eShl (e16 (e8 (eShr (g 0) 8))) 8))], [wU 1, wU (eOr (e16 (e8 (g 0))) (eShl (e16 (e8 (eShr (g 0) 8))) 8))], [wU 1, wU 16928], [wU 1, wU 1], [wU 1, wU 0], [wU 1, wU (e16 (e8 (g 0)))]], wI 6, wU 0, .str (strW [(0,27), (1,66), (539,27), (540,66), (541, e8 (e8 (g 0))), (544, e8 (e8 (g 0))), (545, e8 (e8 (eShr (g 0) 8)))]), wI 3, wI 0]), 0, fun g => []⟩
noncomputable def q3117 : EntH := ⟨8, 0, [], [.p (.agg [qV0, qV1, qV11]), .p (.agg [.fz [[wU 3], [wU 1], [wH 0]], .fz []]), .p (wI 300)], fun g => .p (.agg [wU 0, .fz [[wU 1, wU (eOr (e16 (e8 (g 0))) (eShl (e16 (e8 (eShr (g 0) 8))) 8))], [wU 1, wU (eOr (e16 (e8 (g 0))) (eShl (e16 (e8 (eShr (g 0) 8))) 8))], [wU 1, wU 16928], [wU 1, wU 1], [wU 1, wU 0], [wU 1, wU (e16 (e8 (g 0)))]], wI 6, wU 0, .str (strW [(0,27), (1,66), (539,27), (540,66), (541, e8 (e8 (g 0))), (544, e8 (e8 (g 0))), (545, e8 (e8 (eShr (g 0) 8)))]), wI 3, wI 0]), 0, fun g => []⟩
theorem q310_ok : HOk q310 := h1_ok (fun g => by kernel_rfl)
theorem q311_ok : HOk q311 := h1_ok (fun g => by kernel_rfl)
theorem q312_ok : HOk q312 := h1_ok (fun g => by kernel_rfl)
theorem q313_ok : HOk q313 := h1_ok (fun g => by kernel_rfl)
theorem q314_ok : HOk q314 := h1_ok (fun g => by kernel_rfl)
theorem q315_ok : HOk q315 := h1_ok (fun g => by kernel_rfl)
theorem q316_ok : HOk q316 := h1_ok (fun g => by kernel_rfl)
theorem q317_ok : HOk q317 := h1_ok (fun g => by kernel_rfl)
theorem q318_ok : HOk q318 := h1_ok (fun g => by kernel_rfl)
theorem q319_ok : HOk q319 := h1_ok (fun g => by kernel_rfl)
theorem q3110_ok : HOk q3110 := h1_ok (fun g => by kernel_rfl)
theorem q3111_ok : HOk q3111 := h1_ok (fun g => by kernel_rfl)
theorem q3112_ok : HOk q3112 := h1_ok (fun g => by kernel_rfl)
theorem q3113_ok : HOk q3113 := h_ok (fs := []) (tab := []) (hs := [107]) (tah := [q310, q311, q312, q313, q314, q315, q316, q317, q318, q319, q3110, q3111, q3112]) (by simp) (by
    intro e he
    simp only [List.mem_cons, List.not_mem_nil, or_false] at he
    rcases he with rfl | rfl | rfl | rfl | rfl | rfl | rfl | rfl | rfl | rfl | rfl | rfl | rfl
    · exact q310_ok
    · exact q311_ok
    · exact q312_ok
    · exact q313_ok
    · exact q314_ok
    · exact q315_ok
    · exact q316_ok
    · exact q317_ok
    · exact q318_ok
    · exact q319_ok
    · exact q3110_ok
    · exact q3111_ok
    · exact q3112_ok
    ) (fuel := 100000) (n := 300) (me := 47) (fun g => by kernel_rfl)
theorem q3114_ok : HOk q3114 := h_ok (fs := []) (tab := []) (hs := [109]) (tah := [q3113]) (by simp) (by
    intro e he
    simp only [List.mem_cons, List.not_mem_nil, or_false] at he
    rcases he with rfl
    · exact q3113_ok
    ) (fuel := 100000) (n := 300) (me := 17) (fun g => by kernel_rfl)
theorem q3115_ok : HOk q3115 := h_ok (fs := [44]) (tab := [pC13]) (hs := [47]) (tah := [q3114]) (by
    intro e he
    simp only [List.mem_cons, List.not_mem_nil, or_false] at he
    rcases he with rfl
    · exact pC13_ok
    ) (by
    intro e he
    simp only [List.mem_cons, List.not_mem_nil, or_false] at he
    rcases he with rfl
    · exact q3114_ok
    ) (fuel := 100000) (n := 300) (me := 12) (fun g => by kernel_rfl)
theorem q3116_ok : HOk q3116 := h_ok (fs := [16]) (tab := [pV3]) (hs := [17]) (tah := [q3115]) (by
    intro e he
    simp only [List.mem_cons, List.not_mem_nil, or_false] at he
    rcases he with rfl
    · exact pV3_ok
    ) (by
    intro e he
    simp only [List.mem_cons, List.not_mem_nil, or_false] at he
    rcases he with rfl
    · exact q3115_ok
    ) (fuel := 100000) (n := 300) (me := 8) (fun g => by kernel_rfl)
theorem q3117_ok : HOk q3117 := h_ok (fs := []) (tab := []) (hs := [12]) (tah := [q3116]) (by simp) (by
    intro e he
    simp only [List.mem_cons, List.not_mem_nil, or_false] at he
    rcases he with rfl
    · exact q3116_ok
    ) (fuel := 100000) (n := 300) (me := 5) (fun g => by kernel_rfl)
end Go.Ab
