/- Lemmas. -/
import Derived.Test.YtmhjnndhphidfaaGreatPH
import Derived.Test.YtmhjnndhphidfaaGreatPC5
import Derived.Test.YtmhjnndhphidfaaGreatPV3
namespace Go.Ab
set_option maxRecDepth 30000
set_option linter.unusedSimpArgs false
set_option linter.unusedVariables false
open Go.Proofs
noncomputable def q20O188 : Ob := .pr [[wI 0, .str []]]
noncomputable def q20E252 : NBO := (254, false, q20O188)
noncomputable def q20O189 : Ob := .cells [[.map 252, .p (wU 0)]]
noncomputable def q20E253 : NBO := (253, false, q20O189)
noncomputable def q20E254 : NBO := (252, false, qO182)
noncomputable def q20O190 : Ob := mch 2 0 (wH 0) 300 (.nils) 0
noncomputable def q20E255 : NBO := (5, true, q20O190)
noncomputable def q20O191 : Ob := .pr [[.fz [[wU 2], [wU 0], [wH 1]], .fz []]]
noncomputable def q20E256 : NBO := (1, true, q20O191)
noncomputable def q20L0 : HObjs := (setN q20E256 (setN q20E255 (app [q20E252, q20E253, q20E254] qL) 247) 253)
noncomputable def q200 : EntH := ⟨107, 255, q20L0, [.ptr 5 0 0, .ptr 253 0 0, .ptr 18 0 0], fun g => sg0, 255, fun g => (setN (5, mch 2 0 (wU (g 0)) 298 (.nils) 1) (setN (252, .pmap [(.str [105], wU 2)]) (mp g q20L0) 2) 247)⟩
noncomputable def q20E257 : NBO := (255, false, q20O188)
noncomputable def q20O192 : Ob := .pmap [(.str [105], wU 2)]
noncomputable def q20E258 : NBO := (252, false, q20O192)
noncomputable def q20O193 : Ob := mch 2 0 (wH 0) 298 (.nils) 1
noncomputable def q20E259 : NBO := (5, true, q20O193)
noncomputable def q20L1 : HObjs := (setN q20E259 (setN q20E258 (app [q20E257] q20L0) 3) 248)
noncomputable def q201 : EntH := ⟨107, 256, q20L1, [.ptr 5 0 0, .ptr 253 0 0, .ptr 19 0 0], fun g => sg0, 256, fun g => (setN (5, mch 2 0 (wU (g 0)) 296 (.nils) 2) (setN (252, .pmap [(.str [105], wU 2), (.str [106], wU 0)]) (mp g q20L1) 3) 248)⟩
noncomputable def q20E260 : NBO := (256, false, q20O188)
noncomputable def q20O194 : Ob := .pmap [(.str [105], wU 2), (.str [106], wU 0)]
noncomputable def q20E261 : NBO := (252, false, q20O194)
noncomputable def q20O195 : Ob := mch 2 0 (wH 0) 296 (.nils) 2
noncomputable def q20E262 : NBO := (5, true, q20O195)
noncomputable def q20L2 : HObjs := (setN q20E262 (setN q20E261 (app [q20E260] q20L1) 4) 249)
noncomputable def q202 : EntH := ⟨107, 257, q20L2, [.ptr 5 0 0, .ptr 253 0 0, .ptr 20 0 0], fun g => sg0, 257, fun g => (setN (5, mch 2 0 (wU (g 0)) 294 (.nils) 3) (setN (252, .pmap [(.str [105], wU 2), (.str [106], wU 0), (.str [118], wU (g 0))]) (mp g q20L2) 4) 249)⟩
noncomputable def q20E263 : NBO := (257, false, q20O188)
noncomputable def q20O196 : Ob := .pmap [(.str [105], wU 2), (.str [106], wU 0), (.str [118], wH 0)]
noncomputable def q20E264 : NBO := (252, true, q20O196)
noncomputable def q20O197 : Ob := mch 2 0 (wH 1) 294 (.nils) 3
noncomputable def q20E265 : NBO := (5, true, q20O197)
noncomputable def q20O198 : Ob := .pr [[.fz [[wU 2], [wU 0], [wH 2]], .fz []]]
noncomputable def q20E266 : NBO := (1, true, q20O198)
noncomputable def q20L3 : HObjs := (setN q20E266 (setN q20E265 (setN q20E264 (app [q20E263] q20L2) 5) 250) 256)
noncomputable def q203 : EntH := ⟨107, 258, q20L3, [.ptr 5 0 0, .ptr 253 0 0, .ptr 21 0 0], fun g => sg0, 258, fun g => (setN (7, .pr (setN [wB 18] (setN [wB 66] (ramW []) 1) 0)) (setN (5, mch 2 0 (wU (g 1)) 288 (.nils) 3) (mp g q20L3) 250) 254)⟩
noncomputable def q20E267 : NBO := (258, false, q20O188)
noncomputable def q20O199 : Ob := mch 2 0 (wH 1) 288 (.nils) 3
noncomputable def q20E268 : NBO := (5, true, q20O199)
noncomputable def q20O200 : Ob := .pr (ramW [(0, (.ofNat 18)), (1, (.ofNat 66))])
noncomputable def q20E269 : NBO := (7, false, q20O200)
noncomputable def q20L4 : HObjs := (setN q20E269 (setN q20E268 (app [q20E267] q20L3) 251) 255)
noncomputable def q204 : EntH := ⟨107, 259, q20L4, [.ptr 5 0 0, .ptr 253 0 0, .ptr 22 0 0], fun g => sg0, 259, fun g => (setN (7, .pr (setN [wB (e8 (g 0))] (setN [wB (e8 (eShr (g 0) 8))] (ramW [(0, (.ofNat 18)), (1, (.ofNat 66))]) 534) 533)) (setN (5, mch 2 0 (wU (g 1)) 281 (.nils) 3) (mp g q20L4) 251) 255)⟩
noncomputable def q20E270 : NBO := (259, false, q20O188)
noncomputable def q20O201 : Ob := mch 2 0 (wH 1) 281 (.nils) 3
noncomputable def q20E271 : NBO := (5, true, q20O201)
noncomputable def q20O202 : Ob := .pr (ramW [(0, (.ofNat 18)), (1, (.ofNat 66)), (533, (.negSucc 2)), (534, (.negSucc 3))])
noncomputable def q20E272 : NBO := (7, true, q20O202)
noncomputable def q20O203 : Ob := .pr [[.fz [[wU 2], [wU 0], [wH 4]], .fz []]]
noncomputable def q20E273 : NBO := (1, true, q20O203)
noncomputable def q20L5 : HObjs := (setN q20E273 (setN q20E272 (setN q20E271 (app [q20E270] q20L4) 252) 256) 258)
noncomputable def q205 : EntH := ⟨107, 260, q20L5, [.ptr 5 0 0, .ptr 253 0 0, .ptr 23 0 0], fun g => sg0, 260, fun g => (setN (7, .pr (setN [wB 18] (setN [wB 66] (mapL (mapL (inPV g 60)) (ramW [(0, (.ofNat 18)), (1, (.ofNat 66)), (533, (.negSucc 2)), (534, (.negSucc 3))])) 531) 530)) (setN (5, mch 2 0 (wU (g 1)) 276 (.nils) 3) (mp g q20L5) 252) 256)⟩
noncomputable def q20E274 : NBO := (260, false, q20O188)
noncomputable def q20O204 : Ob := mch 2 0 (wH 1) 276 (.nils) 3
noncomputable def q20E275 : NBO := (5, true, q20O204)
noncomputable def q20O205 : Ob := .pr (ramW [(0, (.ofNat 18)), (1, (.ofNat 66)), (530, (.ofNat 18)), (531, (.ofNat 66)), (533, (.negSucc 2)), (534, (.negSucc 3))])
noncomputable def q20E276 : NBO := (7, true, q20O205)
noncomputable def q20L6 : HObjs := (setN q20E276 (setN q20E275 (app [q20E274] q20L5) 253) 257)
noncomputable def q206 : EntH := ⟨107, 261, q20L6, [.ptr 5 0 0, .ptr 253 0 0, .ptr 24 0 0], fun g => sg0, 261, fun g => (setN (7, .pr (setN [wB (e8 (g 0))] (mapL (mapL (inPV g 60)) (ramW [(0, (.ofNat 18)), (1, (.ofNat 66)), (530, (.ofNat 18)), (531, (.ofNat 66)), (533, (.negSucc 2)), (534, (.negSucc 3))])) 532)) (setN (5, mch 2 0 (wU (g 1)) 271 (.nils) 3) (mp g q20L6) 253) 257)⟩
noncomputable def q20E277 : NBO := (261, false, q20O188)
noncomputable def q20O206 : Ob := mch 2 0 (wH 1) 271 (.nils) 3
noncomputable def q20E278 : NBO := (5, true, q20O206)
noncomputable def q20O207 : Ob := .pr (ramW [(0, (.ofNat 18)), (1, (.ofNat 66)), (530, (.ofNat 18)), (531, (.ofNat 66)), (532, (.negSucc 2)), (533, (.negSucc 3)), (534, (.negSucc 4))])
noncomputable def q20E279 : NBO := (7, true, q20O207)
noncomputable def q20O208 : Ob := .pr [[.fz [[wU 2], [wU 0], [wH 5]], .fz []]]
noncomputable def q20E280 : NBO := (1, true, q20O208)
noncomputable def q20L7 : HObjs := (setN q20E280 (setN q20E279 (setN q20E278 (app [q20E277] q20L6) 254) 258) 260)
noncomputable def q207 : EntH := ⟨107, 262, q20L7, [.ptr 5 0 0, .ptr 253 0 0, .ptr 25 0 0], fun g => sg0, 263, fun g => (setN (5, mch 2 0 (wU (g 1)) 264 (.row 262 2 0 1) 3) (app (sls [(261,1), (260,1), (259,1), (257,1), (256,1), (254,2), (258,1), (253,1), (252,1), (251,1), (250,1), (12,1), (11,1), (249,1), (248,1), (13,235), (10,1), (9,1), (8,1), (7,1), (6,1), (5,1), (4,1), (3,1), (2,1), (1,1), (0,1)] (mp g q20L7)) [(262, .pr [[wU 1, wU (eOr (e16 (g 3)) (eShl (e16 (g 4)) 8))]])]) 5)⟩
noncomputable def q20E281 : NBO := (263, false, q20O188)
noncomputable def q20O209 : Ob := .pr [[.fz [[wU 2], [wU 0], [wH 0]], .fz []]]
noncomputable def q20E282 : NBO := (1, true, q20O209)
noncomputable def q20O210 : Ob := mch 2 0 (wH 1) 264 (.row 262 2 0 1) 3
noncomputable def q20E283 : NBO := (5, true, q20O210)
noncomputable def q20O211 : Ob := .pmap [(.str [105], wU 2), (.str [106], wU 0), (.str [118], wH 5)]
noncomputable def q20E284 : NBO := (252, true, q20O211)
noncomputable def q20O212 : Ob := .pr [[wU 1, wH 6]]
noncomputable def q20E285 : NBO := (262, true, q20O212)
noncomputable def q20L8 : HObjs := (setN q20E284 (setN q20E283 (setN q20E282 (app [q20E281] (app (sls [(261,1), (260,1), (259,1), (257,1), (256,1), (254,2), (258,1), (253,1), (252,1), (251,1), (250,1), (12,1), (11,1), (249,1), (248,1), (13,235), (10,1), (9,1), (8,1), (7,1), (6,1), (5,1), (4,1), (3,1), (2,1), (1,1), (0,1)] q20L7) [q20E285])) 2) 6) 253)
noncomputable def q208 : EntH := ⟨107, 264, q20L8, [.ptr 5 0 0, .ptr 253 0 0, .ptr 26 0 0], fun g => sg0, 265, fun g => (setN (262, .dead) (setN (5, mch 2 0 (wU (g 1)) 256 (.row 264 2 0 2) 3) (app (sls [(1,263), (0,1)] (mp g q20L8)) [(264, .pr [[wU 1, wU (g 6)], [wU 1, wU (eOr (e16 (g 3)) (eShl (e16 (g 4)) 8))]])]) 5) 262)⟩
noncomputable def q20E286 : NBO := (265, false, q20O188)
noncomputable def q20O213 : Ob := mch 2 0 (wH 1) 256 (.row 264 2 0 2) 3
noncomputable def q20E287 : NBO := (5, true, q20O213)
noncomputable def q20O214 : Ob := .dead
noncomputable def q20E288 : NBO := (262, false, q20O214)
noncomputable def q20O215 : Ob := .pr [[wU 1, wH 6], [wU 1, wH 7]]
noncomputable def q20E289 : NBO := (264, true, q20O215)
noncomputable def q20L9 : HObjs := (setN q20E288 (setN q20E287 (app [q20E286] (app (sls [(1,263), (0,1)] q20L8) [q20E289])) 6) 263)
noncomputable def q209 : EntH := ⟨107, 266, q20L9, [.ptr 5 0 0, .ptr 253 0 0, .ptr 27 0 0], fun g => sg0, 267, fun g => (setN (264, .dead) (setN (5, mch 2 0 (wU (g 1)) 248 (.row 266 2 0 3) 3) (app (sls [(1,265), (0,1)] (mp g q20L9)) [(266, .pr [[wU 1, wU (g 6)], [wU 1, wU (g 7)], [wU 1, wU 16917]])]) 5) 264)⟩
noncomputable def q20E290 : NBO := (267, false, q20O188)
noncomputable def q20O216 : Ob := mch 2 0 (wH 1) 248 (.row 266 2 0 3) 3
noncomputable def q20E291 : NBO := (5, true, q20O216)
noncomputable def q20E292 : NBO := (264, false, q20O214)
noncomputable def q20O217 : Ob := .pr [[wU 1, wH 6], [wU 1, wH 7], [wU 1, wU 16917]]
noncomputable def q20E293 : NBO := (266, true, q20O217)
noncomputable def q20L10 : HObjs := (setN q20E292 (setN q20E291 (app [q20E290] (app (sls [(1,265), (0,1)] q20L9) [q20E293])) 6) 265)
noncomputable def q2010 : EntH := ⟨107, 268, q20L10, [.ptr 5 0 0, .ptr 253 0 0, .ptr 28 0 0], fun g => sg0, 269, fun g => (setN (266, .dead) (setN (5, mch 2 0 (wU (g 1)) 239 (.row 268 2 0 4) 3) (app (sls [(1,267), (0,1)] (mp g q20L10)) [(268, .pr [[wU 1, wU (g 6)], [wU 1, wU (g 7)], [wU 1, wU 16917], [wU 1, wU 1]])]) 5) 266)⟩
noncomputable def q20E294 : NBO := (269, false, q20O188)
noncomputable def q20O218 : Ob := mch 2 0 (wH 1) 239 (.row 268 2 0 4) 3
noncomputable def q20E295 : NBO := (5, true, q20O218)
noncomputable def q20E296 : NBO := (266, false, q20O214)
noncomputable def q20O219 : Ob := .pr [[wU 1, wH 6], [wU 1, wH 7], [wU 1, wU 16917], [wU 1, wU 1]]
noncomputable def q20E297 : NBO := (268, true, q20O219)
noncomputable def q20L11 : HObjs := (setN q20E296 (setN q20E295 (app [q20E294] (app (sls [(1,267), (0,1)] q20L10) [q20E297])) 6) 267)
noncomputable def q2011 : EntH := ⟨107, 270, q20L11, [.ptr 5 0 0, .ptr 253 0 0, .ptr 29 0 0], fun g => sg0, 271, fun g => (setN (268, .dead) (setN (5, mch 2 0 (wU (g 1)) 233 (.row 270 2 0 5) 3) (app (sls [(1,269), (0,1)] (mp g q20L11)) [(270, .pr [[wU 1, wU (g 6)], [wU 1, wU (g 7)], [wU 1, wU 16917], [wU 1, wU 1], [wU 1, wU 0]])]) 5) 268)⟩
noncomputable def q20E298 : NBO := (271, false, q20O188)
noncomputable def q20O220 : Ob := mch 2 0 (wH 1) 233 (.row 270 2 0 5) 3
noncomputable def q20E299 : NBO := (5, true, q20O220)
noncomputable def q20E300 : NBO := (268, false, q20O214)
noncomputable def q20O221 : Ob := .pr [[wU 1, wH 6], [wU 1, wH 7], [wU 1, wU 16917], [wU 1, wU 1], [wU 1, wU 0]]
noncomputable def q20E301 : NBO := (270, true, q20O221)
noncomputable def q20L12 : HObjs := (setN q20E300 (setN q20E299 (app [q20E298] (app (sls [(1,269), (0,1)] q20L11) [q20E301])) 6) 269)
noncomputable def q2012 : EntH := ⟨107, 272, q20L12, [.ptr 5 0 0, .ptr 253 0 0, .ptr 30 0 0], fun g => sg0, 273, fun g => (setN (270, .dead) (setN (5, mch 2 0 (wU (g 1)) 228 (.row 272 2 0 6) 3) (app (sls [(1,271), (0,1)] (mp g q20L12)) [(272, .pr [[wU 1, wU (g 6)], [wU 1, wU (g 7)], [wU 1, wU 16917], [wU 1, wU 1], [wU 1, wU 0], [wU 1, wU (e16 (g 2))]])]) 5) 270)⟩
noncomputable def q20L13 : HObjs := (setN q20E256 (setN qE248 (setN q20E255 (setN q20E254 (sls [(254,1), (253,1), (252,1), (14,1), (13,1), (17,235), (16,1), (15,1), (12,1), (11,1), (10,1), (9,1), (6,2), (5,1), (4,1), (8,1), (3,1), (2,1), (1,1)] q20L12) 1) 246) 250) 252)
noncomputable def q2013 : EntH := ⟨109, 254, q20L13, [.ptr 5 0 0, .ptr 253 0 0, .ptr 16 0 0], fun g => sg0, 255, fun g => (setN (252, .pmap [(.str [105], wU 2), (.str [106], wU 0), (.str [118], wU (g 0))]) (setN (7, .pr (setN [wB 18] (setN [wB 66] (setN [wB 18] (setN [wB 66] (setN [wB (e8 (g 0))] (setN [wB (e8 (g 0))] (setN [wB (e8 (eShr (g 0) 8))] (ramW []) 534) 533) 532) 531) 530) 1) 0)) (setN (5, mch 2 0 (wU (g 0)) 228 (.row 254 2 0 6) 3) (app (sls [(253,1), (252,1), (251,1), (249,1), (248,1), (246,2), (250,1), (245,1), (244,1), (243,1), (242,1), (4,1), (3,1), (241,1), (240,1), (5,235), (2,1), (1,1), (0,1)] (mp g q20L13)) [(254, .pr [[wU 1, wU (eOr (e16 (e8 (g 0))) (eShl (e16 (e8 (eShr (g 0) 8))) 8))], [wU 1, wU (eOr (e16 (e8 (g 0))) (eShl (e16 (e8 (eShr (g 0) 8))) 8))], [wU 1, wU 16917], [wU 1, wU 1], [wU 1, wU 0], [wU 1, wU (e16 (e8 (g 0)))]])]) 5) 7) 252)⟩
noncomputable def q20L14 : HObjs := (sls [(2,252)] q20L13)
noncomputable def q2014 : EntH := ⟨47, 252, q20L14, [.ptr 5 0 0, .ptr 11 0 0, .p (.fz [])], fun g => .p (wU 0), 253, fun g => (setN (7, .pr (setN [wB 18] (setN [wB 66] (setN [wB 18] (setN [wB 66] (setN [wB (e8 (g 0))] (setN [wB (e8 (g 0))] (setN [wB (e8 (eShr (g 0) 8))] (ramW []) 534) 533) 532) 531) 530) 1) 0)) (setN (5, mch 2 0 (wU (g 0)) 228 (.row 252 2 0 6) 3) (app (sls [(251,1), (250,1), (249,1), (247,1), (246,1), (244,2), (248,1), (243,1), (242,1), (241,1), (240,1), (2,1), (1,1), (239,1), (238,1), (3,235), (0,1)] (mp g q20L14)) [(252, .pr [[wU 1, wU (eOr (e16 (e8 (g 0))) (eShl (e16 (e8 (eShr (g 0) 8))) 8))], [wU 1, wU (eOr (e16 (e8 (g 0))) (eShl (e16 (e8 (eShr (g 0) 8))) 8))], [wU 1, wU 16917], [wU 1, wU 1], [wU 1, wU 0], [wU 1, wU (e16 (e8 (g 0)))]])]) 5) 7)⟩
noncomputable def q2015 : EntH := ⟨17, 0, [], [.p (.agg [qV0, qV1, qV11]), .p (.str [109,97,105,110]), .p (.fz []), .p (.str []), .p (.agg [.fz [[wU 2], [wU 0], [wH 0]], .fz []]), .p (wI 300)], fun g => .p (.agg [wU 0, .fz [[wU 1, wU (eOr (e16 (e8 (g 0))) (eShl (e16 (e8 (eShr (g 0) 8))) 8))], [wU 1, wU (eOr (e16 (e8 (g 0))) (eShl (e16 (e8 (eShr (g 0) 8))) 8))], [wU 1, wU 16917], [wU 1, wU 1], [wU 1, wU 0], [wU 1, wU (e16 (e8 (g 0)))]], wI 6, wU 0, .str (strW [(0,18), (1,66), (530,18), (531,66), (532, e8 (e8 (g 0))), (533, e8 (e8 (g 0))), (534, e8 (e8 (eShr (g 0) 8)))]), wI 3, wI 0]), 0, fun g => []⟩
noncomputable def q2016 : EntH := ⟨12, 0, [], [.p (.agg [qV0, qV1, qV11]), .p (.str [109,97,105,110]), .p (.fz []), .p (.str []), .p (.agg [.fz [[wU 2], [wU 0], [wH 0]], .fz []]), .p (wI 300)], fun g => .p (.agg [wU 0, .fz [[wU 1, wU (eOr (e16 (e8 (g 0))) (eShl (e16 (e8 (eShr (g 0) 8))) 8))], [wU 1, wU (eOr (e16 (e8 (g 0))) (eShl (e16 (e8 (eShr (g 0) 8))) 8))], [wU 1, wU 16917], [wU 1, wU 1], [wU 1, wU 0], [wU 1, wU (e16 (e8 (g 0)))]], wI 6, wU 0, .str (strW [(0,18), (1,66), (530,18), (531,66), (532, e8 (e8 (g 0))), (533, e8 (e8 (g 0))), (534, e8 (e8 (eShr (g 0) 8)))]), wI 3, wI 0]), 0, fun g => []⟩
noncomputable def q2017 : EntH := ⟨8, 0, [], [.p (.agg [qV0, qV1, qV11]), .p (.agg [.fz [[wU 2], [wU 0], [wH 0]], .fz []]), .p (wI 300)], fun g => .p (.agg [wU 0, .fz [[wU 1, wU (eOr (e16 (e8 (g 0))) (eShl (e16 (e8 (eShr (g 0) 8))) 8))], [wU 1, wU (eOr (e16 (e8 (g 0))) (eShl (e16 (e8 (eShr (g 0) 8))) 8))], [wU 1, wU 16917], [wU 1, wU 1], [wU 1, wU 0], [wU 1, wU (e16 (e8 (g 0)))]], wI 6, wU 0, .str (strW [(0,18), (1,66), (530,18), (531,66), (532, e8 (e8 (g 0))), (533, e8 (e8 (g 0))), (534, e8 (e8 (eShr (g 0) 8)))]), wI 3, wI 0]), 0, fun g => []⟩
theorem q200_ok : HOk q200 := h1_ok (fun g => by kernel_rfl)
theorem q201_ok : HOk q201 := h1_ok (fun g => by kernel_rfl)
theorem q202_ok : HOk q202 := h1_ok (fun g => by kernel_rfl)
theorem q203_ok : HOk q203 := h1_ok (fun g => by kernel_rfl)
theorem q204_ok : HOk q204 := h1_ok (fun g => by kernel_rfl)
theorem q205_ok : HOk q205 := h1_ok (fun g => by kernel_rfl)
theorem q206_ok : HOk q206 := h1_ok (fun g => by kernel_rfl)
theorem q207_ok : HOk q207 := h1_ok (fun g => by kernel_rfl)
theorem q208_ok : HOk q208 := h1_ok (fun g => by kernel_rfl)
theorem q209_ok : HOk q209 := h1_ok (fun g => by kernel_rfl)
theorem q2010_ok : HOk q2010 := h1_ok (fun g => by kernel_rfl)
theorem q2011_ok : HOk q2011 := h1_ok (fun g => by kernel_rfl)
theorem q2012_ok : HOk q2012 := h1_ok (fun g => by kernel_rfl)
theorem q2013_ok : HOk q2013 := h_ok (fs := []) (tab := []) (hs := [107]) (tah := [q200, q201, q202, q203, q204, q205, q206, q207, q208, q209, q2010, q2011, q2012]) (by simp) (by
    intro e he
    simp only [List.mem_cons, List.not_mem_nil, or_false] at he
    rcases he with rfl | rfl | rfl | rfl | rfl | rfl | rfl | rfl | rfl | rfl | rfl | rfl | rfl
    · exact q200_ok
    · exact q201_ok
    · exact q202_ok
    · exact q203_ok
    · exact q204_ok
    · exact q205_ok
    · exact q206_ok
    · exact q207_ok
    · exact q208_ok
    · exact q209_ok
    · exact q2010_ok
    · exact q2011_ok
    · exact q2012_ok
    ) (fuel := 100000) (n := 300) (me := 47) (fun g => by kernel_rfl)
theorem q2014_ok : HOk q2014 := h_ok (fs := []) (tab := []) (hs := [109]) (tah := [q2013]) (by simp) (by
    intro e he
    simp only [List.mem_cons, List.not_mem_nil, or_false] at he
    rcases he with rfl
    · exact q2013_ok
    ) (fuel := 100000) (n := 300) (me := 17) (fun g => by kernel_rfl)
theorem q2015_ok : HOk q2015 := h_ok (fs := [44]) (tab := [pC13]) (hs := [47]) (tah := [q2014]) (by
    intro e he
    simp only [List.mem_cons, List.not_mem_nil, or_false] at he
    rcases he with rfl
    · exact pC13_ok
    ) (by
    intro e he
    simp only [List.mem_cons, List.not_mem_nil, or_false] at he
    rcases he with rfl
    · exact q2014_ok
    ) (fuel := 100000) (n := 300) (me := 12) (fun g => by kernel_rfl)
theorem q2016_ok : HOk q2016 := h_ok (fs := [16]) (tab := [pV3]) (hs := [17]) (tah := [q2015]) (by
    intro e he
    simp only [List.mem_cons, List.not_mem_nil, or_false] at he
    rcases he with rfl
    · exact pV3_ok
    ) (by
    intro e he
    simp only [List.mem_cons, List.not_mem_nil, or_false] at he
    rcases he with rfl
    · exact q2015_ok
    ) (fuel := 100000) (n := 300) (me := 8) (fun g => by kernel_rfl)
theorem q2017_ok : HOk q2017 := h_ok (fs := []) (tab := []) (hs := [12]) (tah := [q2016]) (by simp) (by
    intro e he
    simp only [List.mem_cons, List.not_mem_nil, or_false] at he
    rcases he with rfl
    · exact q2016_ok
    ) (fuel := 100000) (n := 300) (me := 5) (fun g => by kernel_rfl)
end Go.Ab
