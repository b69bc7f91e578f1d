/- Lemmas. -/
import Derived.Test.YtmhjnndhphidfaaGreatPH
import Derived.Test.YtmhjnndhphidfaaGreatPC5
import Derived.Test.YtmhjnndhphidfaaGreatPV3
namespace Go.Ab
set_option maxRecDepth 30000
set_option linter.unusedSimpArgs false
set_option linter.unusedVariables false
open Go.Proofs
noncomputable def q42O188 : Ob := .pr [[wI 0, .str []]]
noncomputable def q42E252 : NBO := (254, false, q42O188)
noncomputable def q42O189 : Ob := .cells [[.map 252, .p (wU 0)]]
noncomputable def q42E253 : NBO := (253, false, q42O189)
noncomputable def q42E254 : NBO := (252, false, qO182)
noncomputable def q42O190 : Ob := mch 4 2 (wH 0) 300 (.nils) 0
noncomputable def q42E255 : NBO := (5, true, q42O190)
noncomputable def q42O191 : Ob := .pr [[.fz [[wU 4], [wU 2], [wH 1]], .fz []]]
noncomputable def q42E256 : NBO := (1, true, q42O191)
noncomputable def q42L0 : HObjs := (setN q42E256 (setN q42E255 (app [q42E252, q42E253, q42E254] qL) 247) 253)
noncomputable def q420 : EntH := ⟨107, 255, q42L0, [.ptr 5 0 0, .ptr 253 0 0, .ptr 18 0 0], fun g => sg0, 255, fun g => (setN (5, mch 4 2 (wU (g 0)) 298 (.nils) 1) (setN (252, .pmap [(.str [105], wU 4)]) (mp g q42L0) 2) 247)⟩
noncomputable def q42E257 : NBO := (255, false, q42O188)
noncomputable def q42O192 : Ob := .pmap [(.str [105], wU 4)]
noncomputable def q42E258 : NBO := (252, false, q42O192)
noncomputable def q42O193 : Ob := mch 4 2 (wH 0) 298 (.nils) 1
noncomputable def q42E259 : NBO := (5, true, q42O193)
noncomputable def q42L1 : HObjs := (setN q42E259 (setN q42E258 (app [q42E257] q42L0) 3) 248)
noncomputable def q421 : EntH := ⟨107, 256, q42L1, [.ptr 5 0 0, .ptr 253 0 0, .ptr 19 0 0], fun g => sg0, 256, fun g => (setN (5, mch 4 2 (wU (g 0)) 296 (.nils) 2) (setN (252, .pmap [(.str [105], wU 4), (.str [106], wU 2)]) (mp g q42L1) 3) 248)⟩
noncomputable def q42E260 : NBO := (256, false, q42O188)
noncomputable def q42O194 : Ob := .pmap [(.str [105], wU 4), (.str [106], wU 2)]
noncomputable def q42E261 : NBO := (252, false, q42O194)
noncomputable def q42O195 : Ob := mch 4 2 (wH 0) 296 (.nils) 2
noncomputable def q42E262 : NBO := (5, true, q42O195)
noncomputable def q42L2 : HObjs := (setN q42E262 (setN q42E261 (app [q42E260] q42L1) 4) 249)
noncomputable def q422 : EntH := ⟨107, 257, q42L2, [.ptr 5 0 0, .ptr 253 0 0, .ptr 20 0 0], fun g => sg0, 257, fun g => (setN (5, mch 4 2 (wU (g 0)) 294 (.nils) 3) (setN (252, .pmap [(.str [105], wU 4), (.str [106], wU 2), (.str [118], wU (g 0))]) (mp g q42L2) 4) 249)⟩
noncomputable def q42E263 : NBO := (257, false, q42O188)
noncomputable def q42O196 : Ob := .pmap [(.str [105], wU 4), (.str [106], wU 2), (.str [118], wH 0)]
noncomputable def q42E264 : NBO := (252, true, q42O196)
noncomputable def q42O197 : Ob := mch 4 2 (wH 1) 294 (.nils) 3
noncomputable def q42E265 : NBO := (5, true, q42O197)
noncomputable def q42O198 : Ob := .pr [[.fz [[wU 4], [wU 2], [wH 2]], .fz []]]
noncomputable def q42E266 : NBO := (1, true, q42O198)
noncomputable def q42L3 : HObjs := (setN q42E266 (setN q42E265 (setN q42E264 (app [q42E263] q42L2) 5) 250) 256)
noncomputable def q423 : EntH := ⟨107, 258, q42L3, [.ptr 5 0 0, .ptr 253 0 0, .ptr 21 0 0], fun g => sg0, 258, fun g => (setN (7, .pr (setN [wB 36] (setN [wB 66] (ramW []) 1) 0)) (setN (5, mch 4 2 (wU (g 1)) 288 (.nils) 3) (mp g q42L3) 250) 254)⟩
noncomputable def q42E267 : NBO := (258, false, q42O188)
noncomputable def q42O199 : Ob := mch 4 2 (wH 1) 288 (.nils) 3
noncomputable def q42E268 : NBO := (5, true, q42O199)
noncomputable def q42O200 : Ob := .pr (ramW [(0, (.ofNat 36)), (1, (.ofNat 66))])
noncomputable def q42E269 : NBO := (7, false, q42O200)
noncomputable def q42L4 : HObjs := (setN q42E269 (setN q42E268 (app [q42E267] q42L3) 251) 255)
noncomputable def q424 : EntH := ⟨107, 259, q42L4, [.ptr 5 0 0, .ptr 253 0 0, .ptr 22 0 0], fun g => sg0, 259, fun g => (setN (7, .pr (setN [wB (e8 (g 0))] (setN [wB (e8 (eShr (g 0) 8))] (ramW [(0, (.ofNat 36)), (1, (.ofNat 66))]) 556) 555)) (setN (5, mch 4 2 (wU (g 1)) 281 (.nils) 3) (mp g q42L4) 251) 255)⟩
noncomputable def q42E270 : NBO := (259, false, q42O188)
noncomputable def q42O201 : Ob := mch 4 2 (wH 1) 281 (.nils) 3
noncomputable def q42E271 : NBO := (5, true, q42O201)
noncomputable def q42O202 : Ob := .pr (ramW [(0, (.ofNat 36)), (1, (.ofNat 66)), (555, (.negSucc 2)), (556, (.negSucc 3))])
noncomputable def q42E272 : NBO := (7, true, q42O202)
noncomputable def q42O203 : Ob := .pr [[.fz [[wU 4], [wU 2], [wH 4]], .fz []]]
noncomputable def q42E273 : NBO := (1, true, q42O203)
noncomputable def q42L5 : HObjs := (setN q42E273 (setN q42E272 (setN q42E271 (app [q42E270] q42L4) 252) 256) 258)
noncomputable def q425 : EntH := ⟨107, 260, q42L5, [.ptr 5 0 0, .ptr 253 0 0, .ptr 23 0 0], fun g => sg0, 260, fun g => (setN (7, .pr (setN [wB 36] (setN [wB 66] (mapL (mapL (inPV g 60)) (ramW [(0, (.ofNat 36)), (1, (.ofNat 66)), (555, (.negSucc 2)), (556, (.negSucc 3))])) 549) 548)) (setN (5, mch 4 2 (wU (g 1)) 276 (.nils) 3) (mp g q42L5) 252) 256)⟩
noncomputable def q42E274 : NBO := (260, false, q42O188)
noncomputable def q42O204 : Ob := mch 4 2 (wH 1) 276 (.nils) 3
noncomputable def q42E275 : NBO := (5, true, q42O204)
noncomputable def q42O205 : Ob := .pr (ramW [(0, (.ofNat 36)), (1, (.ofNat 66)), (548, (.ofNat 36)), (549, (.ofNat 66)), (555, (.negSucc 2)), (556, (.negSucc 3))])
noncomputable def q42E276 : NBO := (7, true, q42O205)
noncomputable def q42L6 : HObjs := (setN q42E276 (setN q42E275 (app [q42E274] q42L5) 253) 257)
noncomputable def q426 : EntH := ⟨107, 261, q42L6, [.ptr 5 0 0, .ptr 253 0 0, .ptr 24 0 0], fun g => sg0, 261, fun g => (setN (7, .pr (setN [wB (e8 (g 0))] (mapL (mapL (inPV g 60)) (ramW [(0, (.ofNat 36)), (1, (.ofNat 66)), (548, (.ofNat 36)), (549, (.ofNat 66)), (555, (.negSucc 2)), (556, (.negSucc 3))])) 550)) (setN (5, mch 4 2 (wU (g 1)) 271 (.nils) 3) (mp g q42L6) 253) 257)⟩
noncomputable def q42E277 : NBO := (261, false, q42O188)
noncomputable def q42O206 : Ob := mch 4 2 (wH 1) 271 (.nils) 3
noncomputable def q42E278 : NBO := (5, true, q42O206)
noncomputable def q42O207 : Ob := .pr (ramW [(0, (.ofNat 36)), (1, (.ofNat 66)), (548, (.ofNat 36)), (549, (.ofNat 66)), (550, (.negSucc 2)), (555, (.negSucc 3)), (556, (.negSucc 4))])
noncomputable def q42E279 : NBO := (7, true, q42O207)
noncomputable def q42O208 : Ob := .pr [[.fz [[wU 4], [wU 2], [wH 5]], .fz []]]
noncomputable def q42E280 : NBO := (1, true, q42O208)
noncomputable def q42L7 : HObjs := (setN q42E280 (setN q42E279 (setN q42E278 (app [q42E277] q42L6) 254) 258) 260)
noncomputable def q427 : EntH := ⟨107, 262, q42L7, [.ptr 5 0 0, .ptr 253 0 0, .ptr 25 0 0], fun g => sg0, 263, fun g => (setN (5, mch 4 2 (wU (g 1)) 264 (.row 262 2 0 1) 3) (app (sls [(261,1), (260,1), (259,1), (257,1), (256,1), (254,2), (258,1), (253,1), (252,1), (251,1), (250,1), (12,1), (11,1), (249,1), (248,1), (13,235), (10,1), (9,1), (8,1), (7,1), (6,1), (5,1), (4,1), (3,1), (2,1), (1,1), (0,1)] (mp g q42L7)) [(262, .pr [[wU 1, wU (eOr (e16 (g 3)) (eShl (e16 (g 4)) 8))]])]) 5)⟩
noncomputable def q42E281 : NBO := (263, false, q42O188)
noncomputable def q42O209 : Ob := .pr [[.fz [[wU 4], [wU 2], [wH 0]], .fz []]]
noncomputable def q42E282 : NBO := (1, true, q42O209)
noncomputable def q42O210 : Ob := mch 4 2 (wH 1) 264 (.row 262 2 0 1) 3
noncomputable def q42E283 : NBO := (5, true, q42O210)
noncomputable def q42O211 : Ob := .pmap [(.str [105], wU 4), (.str [106], wU 2), (.str [118], wH 5)]
noncomputable def q42E284 : NBO := (252, true, q42O211)
noncomputable def q42O212 : Ob := .pr [[wU 1, wH 6]]
noncomputable def q42E285 : NBO := (262, true, q42O212)
noncomputable def q42L8 : HObjs := (setN q42E284 (setN q42E283 (setN q42E282 (app [q42E281] (app (sls [(261,1), (260,1), (259,1), (257,1), (256,1), (254,2), (258,1), (253,1), (252,1), (251,1), (250,1), (12,1), (11,1), (249,1), (248,1), (13,235), (10,1), (9,1), (8,1), (7,1), (6,1), (5,1), (4,1), (3,1), (2,1), (1,1), (0,1)] q42L7) [q42E285])) 2) 6) 253)
noncomputable def q428 : EntH := ⟨107, 264, q42L8, [.ptr 5 0 0, .ptr 253 0 0, .ptr 26 0 0], fun g => sg0, 265, fun g => (setN (262, .dead) (setN (5, mch 4 2 (wU (g 1)) 256 (.row 264 2 0 2) 3) (app (sls [(1,263), (0,1)] (mp g q42L8)) [(264, .pr [[wU 1, wU (g 6)], [wU 1, wU (eOr (e16 (g 3)) (eShl (e16 (g 4)) 8))]])]) 5) 262)⟩
noncomputable def q42E286 : NBO := (265, false, q42O188)
noncomputable def q42O213 : Ob := mch 4 2 (wH 1) 256 (.row 264 2 0 2) 3
noncomputable def q42E287 : NBO := (5, true, q42O213)
noncomputable def q42O214 : Ob := .dead
noncomputable def q42E288 : NBO := (262, false, q42O214)
noncomputable def q42O215 : Ob := .pr [[wU 1, wH 6], [wU 1, wH 7]]
noncomputable def q42E289 : NBO := (264, true, q42O215)
noncomputable def q42L9 : HObjs := (setN q42E288 (setN q42E287 (app [q42E286] (app (sls [(1,263), (0,1)] q42L8) [q42E289])) 6) 263)
noncomputable def q429 : EntH := ⟨107, 266, q42L9, [.ptr 5 0 0, .ptr 253 0 0, .ptr 27 0 0], fun g => sg0, 267, fun g => (setN (264, .dead) (setN (5, mch 4 2 (wU (g 1)) 248 (.row 266 2 0 3) 3) (app (sls [(1,265), (0,1)] (mp g q42L9)) [(266, .pr [[wU 1, wU (g 6)], [wU 1, wU (g 7)], [wU 1, wU 16939]])]) 5) 264)⟩
noncomputable def q42E290 : NBO := (267, false, q42O188)
noncomputable def q42O216 : Ob := mch 4 2 (wH 1) 248 (.row 266 2 0 3) 3
noncomputable def q42E291 : NBO := (5, true, q42O216)
noncomputable def q42E292 : NBO := (264, false, q42O214)
noncomputable def q42O217 : Ob := .pr [[wU 1, wH 6], [wU 1, wH 7], [wU 1, wU 16939]]
noncomputable def q42E293 : NBO := (266, true, q42O217)
noncomputable def q42L10 : HObjs := (setN q42E292 (setN q42E291 (app [q42E290] (app (sls [(1,265), (0,1)] q42L9) [q42E293])) 6) 265)
noncomputable def q4210 : EntH := ⟨107, 268, q42L10, [.ptr 5 0 0, .ptr 253 0 0, .ptr 28 0 0], fun g => sg0, 269, fun g => (setN (266, .dead) (setN (5, mch 4 2 (wU (g 1)) 239 (.row 268 2 0 4) 3) (app (sls [(1,267), (0,1)] (mp g q42L10)) [(268, .pr [[wU 1, wU (g 6)], [wU 1, wU (g 7)], [wU 1, wU 16939], [wU 1, wU 1]])]) 5) 266)⟩
noncomputable def q42E294 : NBO := (269, false, q42O188)
noncomputable def q42O218 : Ob := mch 4 2 (wH 1) 239 (.row 268 2 0 4) 3
noncomputable def q42E295 : NBO := (5, true, q42O218)
noncomputable def q42E296 : NBO := (266, false, q42O214)
noncomputable def q42O219 : Ob := .pr [[wU 1, wH 6], [wU 1, wH 7], [wU 1, wU 16939], [wU 1, wU 1]]
noncomputable def q42E297 : NBO := (268, true, q42O219)
noncomputable def q42L11 : HObjs := (setN q42E296 (setN q42E295 (app [q42E294] (app (sls [(1,267), (0,1)] q42L10) [q42E297])) 6) 267)
noncomputable def q4211 : EntH := ⟨107, 270, q42L11, [.ptr 5 0 0, .ptr 253 0 0, .ptr 29 0 0], fun g => sg0, 271, fun g => (setN (268, .dead) (setN (5, mch 4 2 (wU (g 1)) 233 (.row 270 2 0 5) 3) (app (sls [(1,269), (0,1)] (mp g q42L11)) [(270, .pr [[wU 1, wU (g 6)], [wU 1, wU (g 7)], [wU 1, wU 16939], [wU 1, wU 1], [wU 1, wU 0]])]) 5) 268)⟩
noncomputable def q42E298 : NBO := (271, false, q42O188)
noncomputable def q42O220 : Ob := mch 4 2 (wH 1) 233 (.row 270 2 0 5) 3
noncomputable def q42E299 : NBO := (5, true, q42O220)
noncomputable def q42E300 : NBO := (268, false, q42O214)
noncomputable def q42O221 : Ob := .pr [[wU 1, wH 6], [wU 1, wH 7], [wU 1, wU 16939], [wU 1, wU 1], [wU 1, wU 0]]
noncomputable def q42E301 : NBO := (270, true, q42O221)
noncomputable def q42L12 : HObjs := (setN q42E300 (setN q42E299 (app [q42E298] (app (sls [(1,269), (0,1)] q42L11) [q42E301])) 6) 269)
noncomputable def q4212 : EntH := ⟨107, 272, q42L12, [.ptr 5 0 0, .ptr 253 0 0, .ptr 30 0 0], fun g => sg0, 273, fun g => (setN (270, .dead) (setN (5, mch 4 2 (wU (g 1)) 228 (.row 272 2 0 6) 3) (app (sls [(1,271), (0,1)] (mp g q42L12)) [(272, .pr [[wU 1, wU (g 6)], [wU 1, wU (g 7)], [wU 1, wU 16939], [wU 1, wU 1], [wU 1, wU 0], [wU 1, wU (e16 (g 2))]])]) 5) 270)⟩
noncomputable def q42L13 : HObjs := (setN q42E256 (setN qE248 (setN q42E255 (setN q42E254 (sls [(254,1), (253,1), (252,1), (14,1), (13,1), (17,235), (16,1), (15,1), (12,1), (11,1), (10,1), (9,1), (6,2), (5,1), (4,1), (8,1), (3,1), (2,1), (1,1)] q42L12) 1) 246) 250) 252)
noncomputable def q4213 : EntH := ⟨109, 254, q42L13, [.ptr 5 0 0, .ptr 253 0 0, .ptr 16 0 0], fun g => sg0, 255, fun g => (setN (252, .pmap [(.str [105], wU 4), (.str [106], wU 2), (.str [118], wU (g 0))]) (setN (7, .pr (setN [wB 36] (setN [wB 66] (setN [wB 36] (setN [wB 66] (setN [wB (e8 (g 0))] (setN [wB (e8 (g 0))] (setN [wB (e8 (eShr (g 0) 8))] (ramW []) 556) 555) 550) 549) 548) 1) 0)) (setN (5, mch 4 2 (wU (g 0)) 228 (.row 254 2 0 6) 3) (app (sls [(253,1), (252,1), (251,1), (249,1), (248,1), (246,2), (250,1), (245,1), (244,1), (243,1), (242,1), (4,1), (3,1), (241,1), (240,1), (5,235), (2,1), (1,1), (0,1)] (mp g q42L13)) [(254, .pr [[wU 1, wU (eOr (e16 (e8 (g 0))) (eShl (e16 (e8 (eShr (g 0) 8))) 8))], [wU 1, wU (eOr (e16 (e8 (g 0))) (eShl (e16 (e8 (eShr (g 0) 8))) 8))], [wU 1, wU 16939], [wU 1, wU 1], [wU 1, wU 0], [wU 1, wU (e16 (e8 (g 0)))]])]) 5) 7) 252)⟩
noncomputable def q42L14 : HObjs := (sls [(2,252)] q42L13)
noncomputable def q4214 : EntH := ⟨47, 252, q42L14, [.ptr 5 0 0, .ptr 11 0 0, .p (.fz [])], fun g => .p (wU 0), 253, fun g => (setN (7, .pr (setN [wB 36] (setN [wB 66] (setN [wB 36] (setN [wB 66] (setN [wB (e8 (g 0))] (setN [wB (e8 (g 0))] (setN [wB (e8 (eShr (g 0) 8))] (ramW []) 556) 555) 550) 549) 548) 1) 0)) (setN (5, mch 4 2 (wU (g 0)) 228 (.row 252 2 0 6) 3) (app (sls [(251,1), (250,1), (249,1), (247,1), (246,1), (244,2), (248,1), (243,1), (242,1), (241,1), (240,1), (2,1), (1,1), (239,1), (238,1), (3,235), (0,1)] (mp g q42L14)) [(252, .pr [[wU 1, wU (eOr (e16 (e8 (g 0))) (eShl (e16 (e8 (eShr (g 0) 8))) 8))], [wU 1, wU (eOr (e16 (e8 (g 0))) (eShl (e16 (e8 (eShr (g 0) 8))) 8))], [wU 1, wU 16939], [wU 1, wU 1], [wU 1, wU 0], [wU 1, wU (e16 (e8 (g 0)))]])]) 5) 7)⟩
noncomputable def q4215 : EntH := ⟨17, 0, [], [.p (.agg [qV0, qV1, qV11]), .p (.str [109,97,105,110]), .p (.fz []), .p (.str []), .p (.agg [.fz [[wU 4], [wU 2], [wH 0]], .fz []]), .p (wI 300)], fun g => .p (.agg [wU 0, .fz [[wU 1, wU (eOr (e16 (e8 (g 0))) (eShl (e16 (e8 (eShr (g 0) 8))) 8))], [wU 1, wU (eOr (e16 (e8 (g 0))) (eShl (e16 (e8 (eShr (g 0) 8))) 8))], [wU 1, wU 16939], [wU 1, wU 1], [wU 1, wU 0], [wU 1, wU (e16 (e8 (g 0)))]], wI 6, wU 0, .str (strW [(0,36), (1,66), (548,36), (549,66), (550, e8 (e8 (g 0))), (555, e8 (e8 (g 0))), (556, e8 (e8 (eShr (g 0) 8)))]), wI 3, wI 0]), 0, fun g => []⟩
noncomputable def q4216 : EntH := ⟨12, 0, [], [.p (.agg [qV0, qV1, qV11]), .p (.str [109,97,105,110]), .p (.fz []), .p (.str []), .p (.agg [.fz [[wU 4], [wU 2], [wH 0]], .fz []]), .p (wI 300)], fun g => .p (.agg [wU 0, .fz [[wU 1, wU (eOr (e16 (e8 (g 0))) (eShl (e16 (e8 (eShr (g 0) 8))) 8))], [wU 1, wU (eOr (e16 (e8 (g 0))) (eShl (e16 (e8 (eShr (g 0) 8))) 8))], [wU 1, wU 16939], [wU 1, wU 1], [wU 1, wU 0], [wU 1, wU (e16 (e8 (g 0)))]], wI 6, wU 0, .str (strW [(0,36), (1,66), (548,36), (549,66), (550, e8 (e8 (g 0))), (555, e8 (e8 (g 0))), (556, e8 (e8 (eShr (g 0) 8)))]), wI 3, wI 0]), 0, fun g => []⟩
noncomputable def q4217 : EntH := ⟨8, 0, [], [.p (.agg [qV0, qV1, qV11]), .p (.agg [.fz [[wU 4], [wU 2], [wH 0]], .fz []]), .p (wI 300)], fun g => .p (.agg [wU 0, .fz [[wU 1, wU (eOr (e16 (e8 (g 0))) (eShl (e16 (e8 (eShr (g 0) 8))) 8))], [wU 1, wU (eOr (e16 (e8 (g 0))) (eShl (e16 (e8 (eShr (g 0) 8))) 8))], [wU 1, wU 16939], [wU 1, wU 1], [wU 1, wU 0], [wU 1, wU (e16 (e8 (g 0)))]], wI 6, wU 0, .str (strW [(0,36), (1,66), (548,36), (549,66), (550, e8 (e8 (g 0))), (555, e8 (e8 (g 0))), (556, e8 (e8 (eShr (g 0) 8)))]), wI 3, wI 0]), 0, fun g => []⟩
theorem q420_ok : HOk q420 := h1_ok (fun g => by kernel_rfl)
theorem q421_ok : HOk q421 := h1_ok (fun g => by kernel_rfl)
theorem q422_ok : HOk q422 := h1_ok (fun g => by kernel_rfl)
theorem q423_ok : HOk q423 := h1_ok (fun g => by kernel_rfl)
theorem q424_ok : HOk q424 := h1_ok (fun g => by kernel_rfl)
theorem q425_ok : HOk q425 := h1_ok (fun g => by kernel_rfl)
theorem q426_ok : HOk q426 := h1_ok (fun g => by kernel_rfl)
theorem q427_ok : HOk q427 := h1_ok (fun g => by kernel_rfl)
theorem q428_ok : HOk q428 := h1_ok (fun g => by kernel_rfl)
theorem q429_ok : HOk q429 := h1_ok (fun g => by kernel_rfl)
theorem q4210_ok : HOk q4210 := h1_ok (fun g => by kernel_rfl)
theorem q4211_ok : HOk q4211 := h1_ok (fun g => by kernel_rfl)
theorem q4212_ok : HOk q4212 := h1_ok (fun g => by kernel_rfl)
theorem q4213_ok : HOk q4213 := h_ok (fs := []) (tab := []) (hs := [107]) (tah := [q420, q421, q422, q423, q424, q425, q426, q427, q428, q429, q4210, q4211, q4212]) (by simp) (by
    intro e he
    simp only [List.mem_cons, List.not_mem_nil, or_false] at he
    rcases he with rfl | rfl | rfl | rfl | rfl | rfl | rfl | rfl | rfl | rfl | rfl | rfl | rfl
    · exact q420_ok
    · exact q421_ok
    · exact q422_ok
    · exact q423_ok
    · exact q424_ok
    · exact q425_ok
    · exact q426_ok
    · exact q427_ok
    · exact q428_ok
    · exact q429_ok
    · exact q4210_ok
    · exact q4211_ok
    · exact q4212_ok
    ) (fuel := 100000) (n := 300) (me := 47) (fun g => by kernel_rfl)
theorem q4214_ok : HOk q4214 := h_ok (fs := []) (tab := []) (hs := [109]) (tah := [q4213]) (by simp) (by
    intro e he
    simp only [List.mem_cons, List.not_mem_nil, or_false] at he
    rcases he with rfl
    · exact q4213_ok
    ) (fuel := 100000) (n := 300) (me := 17) (fun g => by kernel_rfl)
theorem q4215_ok : HOk q4215 := h_ok (fs := [44]) (tab := [pC13]) (hs := [47]) (tah := [q4214]) (by
    intro e he
    simp only [List.mem_cons, List.not_mem_nil, or_false] at he
    rcases he with rfl
    · exact pC13_ok
    ) (by
    intro e he
    simp only [List.mem_cons, List.not_mem_nil, or_false] at he
    rcases he with rfl
    · exact q4214_ok
    ) (fuel := 100000) (n := 300) (me := 12) (fun g => by kernel_rfl)
theorem q4216_ok : HOk q4216 := h_ok (fs := [16]) (tab := [pV3]) (hs := [17]) (tah := [q4215]) (by
    intro e he
    simp only [List.mem_cons, List.not_mem_nil, or_false] at he
    rcases he with rfl
    · exact pV3_ok
    ) (by
    intro e he
    simp only [List.mem_cons, List.not_mem_nil, or_false] at he
    rcases he with rfl
    · exact q4215_ok
    ) (fuel := 100000) (n := 300) (me := 8) (fun g => by kernel_rfl)
theorem q4217_ok : HOk q4217 := h_ok (fs := []) (tab := []) (hs := [12]) (tah := [q4216]) (by simp) (by
    intro e he
    simp only [List.mem_cons, List.not_mem_nil, or_false] at he
    rcases he with rfl
    · exact q4216_ok
    ) (fuel := 100000) (n := 300) (me := 5) (fun g => by kernel_rfl)
end Go.Ab
