/- Lemmas. -/
import Derived.Test.YtmhjnndhphidfaaGreatPH
import Derived.Test.YtmhjnndhphidfaaGreatPC5
import Derived.Test.YtmhjnndhphidfaaGreatPV3
namespace Go.Ab
set_option maxRecDepth 30000
set_option linter.unusedSimpArgs false
set_option linter.unusedVariables false
open Go.Proofs
noncomputable def q22O188 : Ob := .pr [[wI 0, .str []]]
noncomputable def q22E252 : NBO := (254, false, q22O188)
noncomputable def q22O189 : Ob := .cells [[.map 252, .p (wU 0)]]
noncomputable def q22E253 : NBO := (253, false, q22O189)
noncomputable def q22E254 : NBO := (252, false, qO182)
noncomputable def q22O190 : Ob := mch 2 2 (wH 0) 300 (.nils) 0
noncomputable def q22E255 : NBO := (5, true, q22O190)
noncomputable def q22O191 : Ob := .pr [[.fz [[wU 2], [wU 2], [wH 1]], .fz []]]
noncomputable def q22E256 : NBO := (1, true, q22O191)
noncomputable def q22L0 : HObjs := (setN q22E256 (setN q22E255 (app [q22E252, q22E253, q22E254] qL) 247) 253)
noncomputable def q220 : EntH := ⟨107, 255, q22L0, [.ptr 5 0 0, .ptr 253 0 0, .ptr 18 0 0], fun g => sg0, 255, fun g => (setN (5, mch 2 2 (wU (g 0)) 298 (.nils) 1) (setN (252, .pmap [(.str [105], wU 2)]) (mp g q22L0) 2) 247)⟩
noncomputable def q22E257 : NBO := (255, false, q22O188)
noncomputable def q22O192 : Ob := .pmap [(.str [105], wU 2)]
noncomputable def q22E258 : NBO := (252, false, q22O192)
noncomputable def q22O193 : Ob := mch 2 2 (wH 0) 298 (.nils) 1
noncomputable def q22E259 : NBO := (5, true, q22O193)
noncomputable def q22L1 : HObjs := (setN q22E259 (setN q22E258 (app [q22E257] q22L0) 3) 248)
noncomputable def q221 : EntH := ⟨107, 256, q22L1, [.ptr 5 0 0, .ptr 253 0 0, .ptr 19 0 0], fun g => sg0, 256, fun g => (setN (5, mch 2 2 (wU (g 0)) 296 (.nils) 2) (setN (252, .pmap [(.str [105], wU 2), (.str [106], wU 2)]) (mp g q22L1) 3) 248)⟩
noncomputable def q22E260 : NBO := (256, false, q22O188)
noncomputable def q22O194 : Ob := .pmap [(.str [105], wU 2), (.str [106], wU 2)]
noncomputable def q22E261 : NBO := (252, false, q22O194)
noncomputable def q22O195 : Ob := mch 2 2 (wH 0) 296 (.nils) 2
noncomputable def q22E262 : NBO := (5, true, q22O195)
noncomputable def q22L2 : HObjs := (setN q22E262 (setN q22E261 (app [q22E260] q22L1) 4) 249)
noncomputable def q222 : EntH := ⟨107, 257, q22L2, [.ptr 5 0 0, .ptr 253 0 0, .ptr 20 0 0], fun g => sg0, 257, fun g => (setN (5, mch 2 2 (wU (g 0)) 294 (.nils) 3) (setN (252, .pmap [(.str [105], wU 2), (.str [106], wU 2), (.str [118], wU (g 0))]) (mp g q22L2) 4) 249)⟩
noncomputable def q22E263 : NBO := (257, false, q22O188)
noncomputable def q22O196 : Ob := .pmap [(.str [105], wU 2), (.str [106], wU 2), (.str [118], wH 0)]
noncomputable def q22E264 : NBO := (252, true, q22O196)
noncomputable def q22O197 : Ob := mch 2 2 (wH 1) 294 (.nils) 3
noncomputable def q22E265 : NBO := (5, true, q22O197)
noncomputable def q22O198 : Ob := .pr [[.fz [[wU 2], [wU 2], [wH 2]], .fz []]]
noncomputable def q22E266 : NBO := (1, true, q22O198)
noncomputable def q22L3 : HObjs := (setN q22E266 (setN q22E265 (setN q22E264 (app [q22E263] q22L2) 5) 250) 256)
noncomputable def q223 : EntH := ⟨107, 258, q22L3, [.ptr 5 0 0, .ptr 253 0 0, .ptr 21 0 0], fun g => sg0, 258, fun g => (setN (7, .pr (setN [wB 18] (setN [wB 66] (ramW []) 1) 0)) (setN (5, mch 2 2 (wU (g 1)) 288 (.nils) 3) (mp g q22L3) 250) 254)⟩
noncomputable def q22E267 : NBO := (258, false, q22O188)
noncomputable def q22O199 : Ob := mch 2 2 (wH 1) 288 (.nils) 3
noncomputable def q22E268 : NBO := (5, true, q22O199)
noncomputable def q22O200 : Ob := .pr (ramW [(0, (.ofNat 18)), (1, (.ofNat 66))])
noncomputable def q22E269 : NBO := (7, false, q22O200)
noncomputable def q22L4 : HObjs := (setN q22E269 (setN q22E268 (app [q22E267] q22L3) 251) 255)
noncomputable def q224 : EntH := ⟨107, 259, q22L4, [.ptr 5 0 0, .ptr 253 0 0, .ptr 22 0 0], fun g => sg0, 259, fun g => (setN (7, .pr (setN [wB (e8 (g 0))] (setN [wB (e8 (eShr (g 0) 8))] (ramW [(0, (.ofNat 18)), (1, (.ofNat 66))]) 538) 537)) (setN (5, mch 2 2 (wU (g 1)) 281 (.nils) 3) (mp g q22L4) 251) 255)⟩
noncomputable def q22E270 : NBO := (259, false, q22O188)
noncomputable def q22O201 : Ob := mch 2 2 (wH 1) 281 (.nils) 3
noncomputable def q22E271 : NBO := (5, true, q22O201)
noncomputable def q22O202 : Ob := .pr (ramW [(0, (.ofNat 18)), (1, (.ofNat 66)), (537, (.negSucc 2)), (538, (.negSucc 3))])
noncomputable def q22E272 : NBO := (7, true, q22O202)
noncomputable def q22O203 : Ob := .pr [[.fz [[wU 2], [wU 2], [wH 4]], .fz []]]
noncomputable def q22E273 : NBO := (1, true, q22O203)
noncomputable def q22L5 : HObjs := (setN q22E273 (setN q22E272 (setN q22E271 (app [q22E270] q22L4) 252) 256) 258)
noncomputable def q225 : EntH := ⟨107, 260, q22L5, [.ptr 5 0 0, .ptr 253 0 0, .ptr 23 0 0], fun g => sg0, 260, fun g => (setN (7, .pr (setN [wB 18] (setN [wB 66] (mapL (mapL (inPV g 60)) (ramW [(0, (.ofNat 18)), (1, (.ofNat 66)), (537, (.negSucc 2)), (538, (.negSucc 3))])) 531) 530)) (setN (5, mch 2 2 (wU (g 1)) 276 (.nils) 3) (mp g q22L5) 252) 256)⟩
noncomputable def q22E274 : NBO := (260, false, q22O188)
noncomputable def q22O204 : Ob := mch 2 2 (wH 1) 276 (.nils) 3
noncomputable def q22E275 : NBO := (5, true, q22O204)
noncomputable def q22O205 : Ob := .pr (ramW [(0, (.ofNat 18)), (1, (.ofNat 66)), (530, (.ofNat 18)), (531, (.ofNat 66)), (537, (.negSucc 2)), (538, (.negSucc 3))])
noncomputable def q22E276 : NBO := (7, true, q22O205)
noncomputable def q22L6 : HObjs := (setN q22E276 (setN q22E275 (app [q22E274] q22L5) 253) 257)
noncomputable def q226 : EntH := ⟨107, 261, q22L6, [.ptr 5 0 0, .ptr 253 0 0, .ptr 24 0 0], fun g => sg0, 261, fun g => (setN (7, .pr (setN [wB (e8 (g 0))] (mapL (mapL (inPV g 60)) (ramW [(0, (.ofNat 18)), (1, (.ofNat 66)), (530, (.ofNat 18)), (531, (.ofNat 66)), (537, (.negSucc 2)), (538, (.negSucc 3))])) 532)) (setN (5, mch 2 2 (wU (g 1)) 271 (.nils) 3) (mp g q22L6) 253) 257)⟩
noncomputable def q22E277 : NBO := (261, false, q22O188)
noncomputable def q22O206 : Ob := mch 2 2 (wH 1) 271 (.nils) 3
noncomputable def q22E278 : NBO := (5, true, q22O206)
noncomputable def q22O207 : Ob := .pr (ramW [(0, (.ofNat 18)), (1, (.ofNat 66)), (530, (.ofNat 18)), (531, (.ofNat 66)), (532, (.negSucc 2)), (537, (.negSucc 3)), (538, (.negSucc 4))])
noncomputable def q22E279 : NBO := (7, true, q22O207)
noncomputable def q22O208 : Ob := .pr [[.fz [[wU 2], [wU 2], [wH 5]], .fz []]]
noncomputable def q22E280 : NBO := (1, true, q22O208)
noncomputable def q22L7 : HObjs := (setN q22E280 (setN q22E279 (setN q22E278 (app [q22E277] q22L6) 254) 258) 260)
noncomputable def q227 : EntH := ⟨107, 262, q22L7, [.ptr 5 0 0, .ptr 253 0 0, .ptr 25 0 0], fun g => sg0, 263, fun g => (setN (5, mch 2 2 (wU (g 1)) 264 (.row 262 2 0 1) 3) (app (sls [(261,1), (260,1), (259,1), (257,1), (256,1), (254,2), (258,1), (253,1), (252,1), (251,1), (250,1), (12,1), (11,1), (249,1), (248,1), (13,235), (10,1), (9,1), (8,1), (7,1), (6,1), (5,1), (4,1), (3,1), (2,1), (1,1), (0,1)] (mp g q22L7)) [(262, .pr [[wU 1, wU (eOr (e16 (g 3)) (eShl (e16 (g 4)) 8))]])]) 5)⟩
noncomputable def q22E281 : NBO := (263, false, q22O188)
noncomputable def q22O209 : Ob := .pr [[.fz [[wU 2], [wU 2], [wH 0]], .fz []]]
noncomputable def q22E282 : NBO := (1, true, q22O209)
noncomputable def q22O210 : Ob := mch 2 2 (wH 1) 264 (.row 262 2 0 1) 3
noncomputable def q22E283 : NBO := (5, true, q22O210)
noncomputable def q22O211 : Ob := .pmap [(.str [105], wU 2), (.str [106], wU 2), (.str [118], wH 5)]
noncomputable def q22E284 : NBO := (252, true, q22O211)
noncomputable def q22O212 : Ob := .pr [[wU 1, wH 6]]
noncomputable def q22E285 : NBO := (262, true, q22O212)
noncomputable def q22L8 : HObjs := (setN q22E284 (setN q22E283 (setN q22E282 (app [q22E281] (app (sls [(261,1), (260,1), (259,1), (257,1), (256,1), (254,2), (258,1), (253,1), (252,1), (251,1), (250,1), (12,1), (11,1), (249,1), (248,1), (13,235), (10,1), (9,1), (8,1), (7,1), (6,1), (5,1), (4,1), (3,1), (2,1), (1,1), (0,1)] q22L7) [q22E285])) 2) 6) 253)
noncomputable def q228 : EntH := ⟨107, 264, q22L8, [.ptr 5 0 0, .ptr 253 0 0, .ptr 26 0 0], fun g => sg0, 265, fun g => (setN (262, .dead) (setN (5, mch 2 2 (wU (g 1)) 256 (.row 264 2 0 2) 3) (app (sls [(1,263), (0,1)] (mp g q22L8)) [(264, .pr [[wU 1, wU (g 6)], [wU 1, wU (eOr (e16 (g 3)) (eShl (e16 (g 4)) 8))]])]) 5) 262)⟩
noncomputable def q22E286 : NBO := (265, false, q22O188)
noncomputable def q22O213 : Ob := mch 2 2 (wH 1) 256 (.row 264 2 0 2) 3
noncomputable def q22E287 : NBO := (5, true, q22O213)
noncomputable def q22O214 : Ob := .dead
noncomputable def q22E288 : NBO := (262, false, q22O214)
noncomputable def q22O215 : Ob := .pr [[wU 1, wH 6], [wU 1, wH 7]]
noncomputable def q22E289 : NBO := (264, true, q22O215)
noncomputable def q22L9 : HObjs := (setN q22E288 (setN q22E287 (app [q22E286] (app (sls [(1,263), (0,1)] q22L8) [q22E289])) 6) 263)
noncomputable def q229 : EntH := ⟨107, 266, q22L9, [.ptr 5 0 0, .ptr 253 0 0, .ptr 27 0 0], fun g => sg0, 267, fun g => (setN (264, .dead) (setN (5, mch 2 2 (wU (g 1)) 248 (.row 266 2 0 3) 3) (app (sls [(1,265), (0,1)] (mp g q22L9)) [(266, .pr [[wU 1, wU (g 6)], [wU 1, wU (g 7)], [wU 1, wU 16921]])]) 5) 264)⟩
noncomputable def q22E290 : NBO := (267, false, q22O188)
noncomputable def q22O216 : Ob := mch 2 2 (wH 1) 248 (.row 266 2 0 3) 3
noncomputable def q22E291 : NBO := (5, true, q22O216)
noncomputable def q22E292 : NBO := (264, false, q22O214)
noncomputable def q22O217 : Ob := .pr [[wU 1, wH 6], [wU 1, wH 7], [wU 1, wU 16921]]
noncomputable def q22E293 : NBO := (266, true, q22O217)
noncomputable def q22L10 : HObjs := (setN q22E292 (setN q22E291 (app [q22E290] (app (sls [(1,265), (0,1)] q22L9) [q22E293])) 6) 265)
noncomputable def q2210 : EntH := ⟨107, 268, q22L10, [.ptr 5 0 0, .ptr 253 0 0, .ptr 28 0 0], fun g => sg0, 269, fun g => (setN (266, .dead) (setN (5, mch 2 2 (wU (g 1)) 239 (.row 268 2 0 4) 3) (app (sls [(1,267), (0,1)] (mp g q22L10)) [(268, .pr [[wU 1, wU (g 6)], [wU 1, wU (g 7)], [wU 1, wU 16921], [wU 1, wU 1]])]) 5) 266)⟩
noncomputable def q22E294 : NBO := (269, false, q22O188)
noncomputable def q22O218 : Ob := mch 2 2 (wH 1) 239 (.row 268 2 0 4) 3
noncomputable def q22E295 : NBO := (5, true, q22O218)
noncomputable def q22E296 : NBO := (266, false, q22O214)
noncomputable def q22O219 : Ob := .pr [[wU 1, wH 6], [wU 1, wH 7], [wU 1, wU 16921], [wU 1, wU 1]]
noncomputable def q22E297 : NBO := (268, true, q22O219)
noncomputable def q22L11 : HObjs := (setN q22E296 (setN q22E295 (app [q22E294] (app (sls [(1,267), (0,1)] q22L10) [q22E297])) 6) 267)
noncomputable def q2211 : EntH := ⟨107, 270, q22L11, [.ptr 5 0 0, .ptr 253 0 0, .ptr 29 0 0], fun g => sg0, 271, fun g => (setN (268, .dead) (setN (5, mch 2 2 (wU (g 1)) 233 (.row 270 2 0 5) 3) (app (sls [(1,269), (0,1)] (mp g q22L11)) [(270, .pr [[wU 1, wU (g 6)], [wU 1, wU (g 7)], [wU 1, wU 16921], [wU 1, wU 1], [wU 1, wU 0]])]) 5) 268)⟩
noncomputable def q22E298 : NBO := (271, false, q22O188)
noncomputable def q22O220 : Ob := mch 2 2 (wH 1) 233 (.row 270 2 0 5) 3
noncomputable def q22E299 : NBO := (5, true, q22O220)
noncomputable def q22E300 : NBO := (268, false, q22O214)
noncomputable def q22O221 : Ob := .pr [[wU 1, wH 6], [wU 1, wH 7], [wU 1, wU 16921], [wU 1, wU 1], [wU 1, wU 0]]
noncomputable def q22E301 : NBO := (270, true, q22O221)
noncomputable def q22L12 : HObjs := (setN q22E300 (setN q22E299 (app [q22E298] (app (sls [(1,269), (0,1)] q22L11) [q22E301])) 6) 269)
noncomputable def q2212 : EntH := ⟨107, 272, q22L12, [.ptr 5 0 0, .ptr 253 0 0, .ptr 30 0 0], fun g => sg0, 273, fun g => (setN (270, .dead) (setN (5, mch 2 2 (wU (g 1)) 228 (.row 272 2 0 6) 3) (app (sls [(1,271), (0,1)] (mp g q22L12)) [(272, .pr [[wU 1, wU (g 6)], [wU 1, wU (g 7)], [wU 1, wU 16921], [wU 1, wU 1], [wU 1, wU 0], [wU 1, wU (e16 (g 2))]])]) 5) 270)⟩
noncomputable def q22L13 : HObjs := (setN q22E256 (setN qE248 (setN q22E255 (setN q22E254 (sls [(254,1), (253,1), (252,1), (14,1), (13,1), (17,235), (16,1), (15,1), (12,1), (11,1), (10,1), (9,1), (6,2), (5,1), (4,1), (8,1), (3,1), (2,1), (1,1)] q22L12) 1) 246) 250) 252)
noncomputable def q2213 : EntH := ⟨109, 254, q22L13, [.ptr 5 0 0, .ptr 253 0 0, .ptr 16 0 0], fun g => sg0, 255, fun g => (setN (252, .pmap [(.str [105], wU 2), (.str [106], wU 2), (.str [118], wU (g 0))]) (setN (7, .pr (setN [wB 18] (setN [wB 66] (setN [wB 18] (setN [wB 66] (setN [wB (e8 (g 0))] (setN [wB (e8 (g 0))] (setN [wB (e8 (eShr (g 0) 8))] (ramW []) 538) 537) 532) 531) 530) 1) 0)) (setN (5, mch 2 2 (wU (g 0)) 228 (.row 254 2 0 6) 3) (app (sls [(253,1), (252,1), (251,1), (249,1), (248,1), (246,2), (250,1), (245,1), (244,1), (243,1), (242,1), (4,1), (3,1), (241,1), (240,1), (5,235), (2,1), (1,1), (0,1)] (mp g q22L13)) [(254, .pr [[wU 1, wU (eOr (e16 (e8 (g 0))) (eShl (e16 (e8 (eShr (g 0) 8))) 8))], [wU 1, wU (eOr (e16 (e8 (g 0))) (eShl (e16 (e8 (eShr (g 0) 8))) 8))], [wU 1, wU 16921], [wU 1, wU 1], [wU 1, wU 0], [wU 1, wU (e16 (e8 (g 0)))]])]) 5) 7) 252)⟩
noncomputable def q22L14 : HObjs := (sls [(2,252)] q22L13)
noncomputable def q2214 : EntH := ⟨47, 252, q22L14, [.ptr 5 0 0, .ptr 11 0 0, .p (.fz [])], fun g => .p (wU 0), 253, fun g => (setN (7, .pr (setN [wB 18] (setN [wB 66] (setN [wB 18] (setN [wB 66] (setN [wB (e8 (g 0))] (setN [wB (e8 (g 0))] (setN [wB (e8 (eShr (g 0) 8))] (ramW []) 538) 537) 532) 531) 530) 1) 0)) (setN (5, mch 2 2 (wU (g 0)) 228 (.row 252 2 0 6) 3) (app (sls [(251,1), (250,1), (249,1), (247,1), (246,1), (244,2), (248,1), (243,1), (242,1), (241,1), (240,1), (2,1), (1,1), (239,1), (238,1), (3,235), (0,1)] (mp g q22L14)) [(252, .pr [[wU 1, wU (eOr (e16 (e8 (g 0))) (eShl (e16 (e8 (eShr (g 0) 8))) 8))], [wU 1, wU (eOr (e16 (e8 (g 0))) (eShl (e16 (e8 (eShr (g 0) 8))) 8))], [wU 1, wU 16921], [wU 1, wU 1], [wU 1, wU 0], [wU 1, wU (e16 (e8 (g 0)))]])]) 5) 7)⟩
noncomputable def q2215 : EntH := ⟨17, 0, [], [.p (.agg [qV0, qV1, qV11]), .p (.str [109,97,105,110]), .p (.fz []), .p (.str []), .p (.agg [.fz [[wU 2], [wU 2], [wH 0]], .fz []]), .p (wI 300)], fun g => .p (.agg [wU 0, .fz [[wU 1, wU (eOr (e16 (e8 (g 0))) (eShl (e16 (e8 (eShr (g 0) 8))) 8))], [wU 1, wU (eOr (e16 (e8 (g 0))) (eShl (e16 (e8 (eShr (g 0) 8))) 8))], [wU 1, wU 16921], [wU 1, wU 1], [wU 1, wU 0], [wU 1, wU (e16 (e8 (g 0)))]], wI 6, wU 0, .str (strW [(0,18), (1,66), (530,18), (531,66), (532, e8 (e8 (g 0))), (537, e8 (e8 (g 0))), (538, e8 (e8 (eShr (g 0) 8)))]), wI 3, wI 0]), 0, fun g => []⟩
noncomputable def q2216 : EntH := ⟨12, 0, [], [.p (.agg [qV0, qV1, qV11]), .p (.str [109,97,105,110]), .p (.fz []), .p (.str []), .p (.agg [.fz [[wU 2], [wU 2], [wH 0]], .fz []]), .p (wI 300)], fun g => .p (.agg [wU 0, .fz [[wU 1, wU (eOr (e16 (e8 (g 0))) (eShl (e16 (e8 (eShr (g 0) 8))) 8))], [wU 1, wU (eOr (e16 (e8 (g 0))) (eShl (e16 (e8 (eShr (g 0) 8))) 8))], [wU 1, wU 16921], [wU 1, wU 1], [wU 1, wU 0], [wU 1, wU (e16 (e8 (g 0)))]], wI 6, wU 0, .str (strW [(0,18), (1,66), (530,18), (531,66), (532, e8 (e8 (g 0))), (537, e8 (e8 (g 0))), (538, e8 (e8 (eShr (g 0) 8)))]), wI 3, wI 0]), 0, fun g => []⟩
noncomputable def q2217 : EntH := ⟨8, 0, [], [.p (.agg [qV0, qV1, qV11]), .p (.agg [.fz [[wU 2], [wU 2], [wH 0]], .fz []]), .p (wI 300)], fun g => .p (.agg [wU 0, .fz [[wU 1, wU (eOr (e16 (e8 (g 0))) (eShl (e16 (e8 (eShr (g 0) 8))) 8))], [wU 1, wU (eOr (e16 (e8 (g 0))) (eShl (e16 (e8 (eShr (g 0) 8))) 8))], [wU 1, wU 16921], [wU 1, wU 1], [wU 1, wU 0], [wU 1, wU (e16 (e8 (g 0)))]], wI 6, wU 0, .str (strW [(0,18), (1,66), (530,18), (531,66), (532, e8 (e8 (g 0))), (537, e8 (e8 (g 0))), (538, e8 (e8 (eShr (g 0) 8)))]), wI 3, wI 0]), 0, fun g => []⟩
theorem q220_ok : HOk q220 := h1_ok (fun g => by kernel_rfl)
theorem q221_ok : HOk q221 := h1_ok (fun g => by kernel_rfl)
theorem q222_ok : HOk q222 := h1_ok (fun g => by kernel_rfl)
theorem q223_ok : HOk q223 := h1_ok (fun g => by kernel_rfl)
theorem q224_ok : HOk q224 := h1_ok (fun g => by kernel_rfl)
theorem q225_ok : HOk q225 := h1_ok (fun g => by kernel_rfl)
theorem q226_ok : HOk q226 := h1_ok (fun g => by kernel_rfl)
theorem q227_ok : HOk q227 := h1_ok (fun g => by kernel_rfl)
theorem q228_ok : HOk q228 := h1_ok (fun g => by kernel_rfl)
theorem q229_ok : HOk q229 := h1_ok (fun g => by kernel_rfl)
theorem q2210_ok : HOk q2210 := h1_ok (fun g => by kernel_rfl)
theorem q2211_ok : HOk q2211 := h1_ok (fun g => by kernel_rfl)
theorem q2212_ok : HOk q2212 := h1_ok (fun g => by kernel_rfl)
theorem q2213_ok : HOk q2213 := h_ok (fs := []) (tab := []) (hs := [107]) (tah := [q220, q221, q222, q223, q224, q225, q226, q227, q228, q229, q2210, q2211, q2212]) (by simp) (by
    intro e he
    simp only [List.mem_cons, List.not_mem_nil, or_false] at he
    rcases he with rfl | rfl | rfl | rfl | rfl | rfl | rfl | rfl | rfl | rfl | rfl | rfl | rfl
    · exact q220_ok
    · exact q221_ok
    · exact q222_ok
    · exact q223_ok
    · exact q224_ok
    · exact q225_ok
    · exact q226_ok
    · exact q227_ok
    · exact q228_ok
    · exact q229_ok
    · exact q2210_ok
    · exact q2211_ok
    · exact q2212_ok
    ) (fuel := 100000) (n := 300) (me := 47) (fun g => by kernel_rfl)
theorem q2214_ok : HOk q2214 := h_ok (fs := []) (tab := []) (hs := [109]) (tah := [q2213]) (by simp) (by
    intro e he
    simp only [List.mem_cons, List.not_mem_nil, or_false] at he
    rcases he with rfl
    · exact q2213_ok
    ) (fuel := 100000) (n := 300) (me := 17) (fun g => by kernel_rfl)
theorem q2215_ok : HOk q2215 := h_ok (fs := [44]) (tab := [pC13]) (hs := [47]) (tah := [q2214]) (by
    intro e he
    simp only [List.mem_cons, List.not_mem_nil, or_false] at he
    rcases he with rfl
    · exact pC13_ok
    ) (by
    intro e he
    simp only [List.mem_cons, List.not_mem_nil, or_false] at he
    rcases he with rfl
    · exact q2214_ok
    ) (fuel := 100000) (n := 300) (me := 12) (fun g => by kernel_rfl)
theorem q2216_ok : HOk q2216 := h_ok (fs := [16]) (tab := [pV3]) (hs := [17]) (tah := [q2215]) (by
    intro e he
    simp only [List.mem_cons, List.not_mem_nil, or_false] at he
    rcases he with rfl
    · exact pV3_ok
    ) (by
    intro e he
    simp only [List.mem_cons, List.not_mem_nil, or_false] at he
    rcases he with rfl
    · exact q2215_ok
    ) (fuel := 100000) (n := 300) (me := 8) (fun g => by kernel_rfl)
theorem q2217_ok : HOk q2217 := h_ok (fs := []) (tab := []) (hs := [12]) (tah := [q2216]) (by simp) (by
    intro e he
    simp only [List.mem_cons, List.not_mem_nil, or_false] at he
    rcases he with rfl
    · exact q2216_ok
    ) (fuel := 100000) (n := 300) (me := 5) (fun g => by kernel_rfl)
end Go.Ab
