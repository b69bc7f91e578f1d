/- Lemmas. -/
import Derived.Test.YtmhjnndhphidfaaGreatPH
import Derived.Test.YtmhjnndhphidfaaGreatPC5
import Derived.Test.YtmhjnndhphidfaaGreatPV3
namespace Go.Ab
set_option maxRecDepth 30000
set_option linter.unusedSimpArgs false
set_option linter.unusedVariables false
open Go.Proofs
noncomputable def q41O188 : Ob := .pr [[wI 0, .str []]]
noncomputable def q41E252 : NBO := (254, false, q41O188)
noncomputable def q41O189 : Ob := .cells [[.map 252, .p (wU 0)]]
noncomputable def q41E253 : NBO := (253, false, q41O189)
noncomputable def q41E254 : NBO := (252, false, qO182)
noncomputable def q41O190 : Ob := mch 4 1 (wH 0) 300 (.nils) 0
noncomputable def q41E255 : NBO := (5, true, q41O190)
noncomputable def q41O191 : Ob := .pr [[.fz [[wU 4], [wU 1], [wH 1]], .fz []]]
noncomputable def q41E256 : NBO := (1, true, q41O191)
noncomputable def q41L0 : HObjs := (setN q41E256 (setN q41E255 (app [q41E252, q41E253, q41E254] qL) 247) 253)
noncomputable def q410 : EntH := ⟨107, 255, q41L0, [.ptr 5 0 0, .ptr 253 0 0, .ptr 18 0 0], fun g => sg0, 255, fun g => (setN (5, mch 4 1 (wU (g 0)) 298 (.nils) 1) (setN (252, .pmap [(.str [105], wU 4)]) (mp g q41L0) 2) 247)⟩
noncomputable def q41E257 : NBO := (255, false, q41O188)
noncomputable def q41O192 : Ob := .pmap [(.str [105], wU 4)]
noncomputable def q41E258 : NBO := (252, false, q41O192)
noncomputable def q41O193 : Ob := mch 4 1 (wH 0) 298 (.nils) 1
noncomputable def q41E259 : NBO := (5, true, q41O193)
noncomputable def q41L1 : HObjs := (setN q41E259 (setN q41E258 (app [q41E257] q41L0) 3) 248)
noncomputable def q411 : EntH := ⟨107, 256, q41L1, [.ptr 5 0 0, .ptr 253 0 0, .ptr 19 0 0], fun g => sg0, 256, fun g => (setN (5, mch 4 1 (wU (g 0)) 296 (.nils) 2) (setN (252, .pmap [(.str [105], wU 4), (.str [106], wU 1)]) (mp g q41L1) 3) 248)⟩
noncomputable def q41E260 : NBO := (256, false, q41O188)
noncomputable def q41O194 : Ob := .pmap [(.str [105], wU 4), (.str [106], wU 1)]
noncomputable def q41E261 : NBO := (252, false, q41O194)
noncomputable def q41O195 : Ob := mch 4 1 (wH 0) 296 (.nils) 2
noncomputable def q41E262 : NBO := (5, true, q41O195)
noncomputable def q41L2 : HObjs := (setN q41E262 (setN q41E261 (app [q41E260] q41L1) 4) 249)
noncomputable def q412 : EntH := ⟨107, 257, q41L2, [.ptr 5 0 0, .ptr 253 0 0, .ptr 20 0 0], fun g => sg0, 257, fun g => (setN (5, mch 4 1 (wU (g 0)) 294 (.nils) 3) (setN (252, .pmap [(.str [105], wU 4), (.str [106], wU 1), (.str [118], wU (g 0))]) (mp g q41L2) 4) 249)⟩
noncomputable def q41E263 : NBO := (257, false, q41O188)
noncomputable def q41O196 : Ob := .pmap [(.str [105], wU 4), (.str [106], wU 1), (.str [118], wH 0)]
noncomputable def q41E264 : NBO := (252, true, q41O196)
noncomputable def q41O197 : Ob := mch 4 1 (wH 1) 294 (.nils) 3
noncomputable def q41E265 : NBO := (5, true, q41O197)
noncomputable def q41O198 : Ob := .pr [[.fz [[wU 4], [wU 1], [wH 2]], .fz []]]
noncomputable def q41E266 : NBO := (1, true, q41O198)
noncomputable def q41L3 : HObjs := (setN q41E266 (setN q41E265 (setN q41E264 (app [q41E263] q41L2) 5) 250) 256)
noncomputable def q413 : EntH := ⟨107, 258, q41L3, [.ptr 5 0 0, .ptr 253 0 0, .ptr 21 0 0], fun g => sg0, 258, fun g => (setN (7, .pr (setN [wB 36] (setN [wB 66] (ramW []) 1) 0)) (setN (5, mch 4 1 (wU (g 1)) 288 (.nils) 3) (mp g q41L3) 250) 254)⟩
noncomputable def q41E267 : NBO := (258, false, q41O188)
noncomputable def q41O199 : Ob := mch 4 1 (wH 1) 288 (.nils) 3
noncomputable def q41E268 : NBO := (5, true, q41O199)
noncomputable def q41O200 : Ob := .pr (ramW [(0, (.ofNat 36)), (1, (.ofNat 66))])
noncomputable def q41E269 : NBO := (7, false, q41O200)
noncomputable def q41L4 : HObjs := (setN q41E269 (setN q41E268 (app [q41E267] q41L3) 251) 255)
noncomputable def q414 : EntH := ⟨107, 259, q41L4, [.ptr 5 0 0, .ptr 253 0 0, .ptr 22 0 0], fun g => sg0, 259, fun g => (setN (7, .pr (setN [wB (e8 (g 0))] (setN [wB (e8 (eShr (g 0) 8))] (ramW [(0, (.ofNat 36)), (1, (.ofNat 66))]) 554) 553)) (setN (5, mch 4 1 (wU (g 1)) 281 (.nils) 3) (mp g q41L4) 251) 255)⟩
noncomputable def q41E270 : NBO := (259, false, q41O188)
noncomputable def q41O201 : Ob := mch 4 1 (wH 1) 281 (.nils) 3
noncomputable def q41E271 : NBO := (5, true, q41O201)
noncomputable def q41O202 : Ob := .pr (ramW [(0, (.ofNat 36)), (1, (.ofNat 66)), (553, (.negSucc 2)), (554, (.negSucc 3))])
noncomputable def q41E272 : NBO := (7, true, q41O202)
noncomputable def q41O203 : Ob := .pr [[.fz [[wU 4], [wU 1], [wH 4]], .fz []]]
noncomputable def q41E273 : NBO := (1, true, q41O203)
noncomputable def q41L5 : HObjs := (setN q41E273 (setN q41E272 (setN q41E271 (app [q41E270] q41L4) 252) 256) 258)
noncomputable def q415 : EntH := ⟨107, 260, q41L5, [.ptr 5 0 0, .ptr 253 0 0, .ptr 23 0 0], fun g => sg0, 260, fun g => (setN (7, .pr (setN [wB 36] (setN [wB 66] (mapL (mapL (inPV g 60)) (ramW [(0, (.ofNat 36)), (1, (.ofNat 66)), (553, (.negSucc 2)), (554, (.negSucc 3))])) 549) 548)) (setN (5, mch 4 1 (wU (g 1)) 276 (.nils) 3) (mp g q41L5) 252) 256)⟩
noncomputable def q41E274 : NBO := (260, false, q41O188)
noncomputable def q41O204 : Ob := mch 4 1 (wH 1) 276 (.nils) 3
noncomputable def q41E275 : NBO := (5, true, q41O204)
noncomputable def q41O205 : Ob := .pr (ramW [(0, (.ofNat 36)), (1, (.ofNat 66)), (548, (.ofNat 36)), (549, (.ofNat 66)), (553, (.negSucc 2)), (554, (.negSucc 3))])
noncomputable def q41E276 : NBO := (7, true, q41O205)
noncomputable def q41L6 : HObjs := (setN q41E276 (setN q41E275 (app [q41E274] q41L5) 253) 257)
noncomputable def q416 : EntH := ⟨107, 261, q41L6, [.ptr 5 0 0, .ptr 253 0 0, .ptr 24 0 0], fun g => sg0, 261, fun g => (setN (7, .pr (setN [wB (e8 (g 0))] (mapL (mapL (inPV g 60)) (ramW [(0, (.ofNat 36)), (1, (.ofNat 66)), (548, (.ofNat 36)), (549, (.ofNat 66)), (553, (.negSucc 2)), (554, (.negSucc 3))])) 550)) (setN (5, mch 4 1 (wU (g 1)) 271 (.nils) 3) (mp g q41L6) 253) 257)⟩
noncomputable def q41E277 : NBO := (261, false, q41O188)
noncomputable def q41O206 : Ob := mch 4 1 (wH 1) 271 (.nils) 3
noncomputable def q41E278 : NBO := (5, true, q41O206)
noncomputable def q41O207 : Ob := .pr (ramW [(0, (.ofNat 36)), (1, (.ofNat 66)), (548, (.ofNat 36)), (549, (.ofNat 66)), (550, (.negSucc 2)), (553, (.negSucc 3)), (554, (.negSucc 4))])
noncomputable def q41E279 : NBO := (7, true, q41O207)
noncomputable def q41O208 : Ob := .pr [[.fz [[wU 4], [wU 1], [wH 5]], .fz []]]
noncomputable def q41E280 : NBO := (1, true, q41O208)
noncomputable def q41L7 : HObjs := (setN q41E280 (setN q41E279 (setN q41E278 (app [q41E277] q41L6) 254) 258) 260)
noncomputable def q417 : EntH := ⟨107, 262, q41L7, [.ptr 5 0 0, .ptr 253 0 0, .ptr 25 0 0], fun g => sg0, 263, fun g => (setN (5, mch 4 1 (wU (g 1)) 264 (.row 262 2 0 1) 3) (app (sls [(261,1), (260,1), (259,1), (257,1), (256,1), (254,2), (258,1), (253,1), (252,1), (251,1), (250,1), (12,1), (11,1), (249,1), (248,1), (13,235), (10,1), (9,1), (8,1), (7,1), (6,1), (5,1), (4,1), (3,1), (2,1), (1,1), (0,1)] (mp g q41L7)) [(262, .pr [[wU 1, wU (eOr (e16 (g 3)) (eShl (e16 (g 4)) 8))]])]) 5)⟩
noncomputable def q41E281 : NBO := (263, false, q41O188)
noncomputable def q41O209 : Ob := .pr [[.fz [[wU 4], [wU 1], [wH 0]], .fz []]]
noncomputable def q41E282 : NBO := (1, true, q41O209)
noncomputable def q41O210 : Ob := mch 4 1 (wH 1) 264 (.row 262 2 0 1) 3
noncomputable def q41E283 : NBO := (5, true, q41O210)
noncomputable def q41O211 : Ob := .pmap [(.str [105], wU 4), (.str [106], wU 1), (.str [118], wH 5)]
noncomputable def q41E284 : NBO := (252, true, q41O211)
noncomputable def q41O212 : Ob := .pr [[wU 1, wH 6]]
noncomputable def q41E285 : NBO := (262, true, q41O212)
noncomputable def q41L8 : HObjs := (setN q41E284 (setN q41E283 (setN q41E282 (app [q41E281] (app (sls [(261,1), (260,1), (259,1), (257,1), (256,1), (254,2), (258,1), (253,1), (252,1), (251,1), (250,1), (12,1), (11,1), (249,1), (248,1), (13,235), (10,1), (9,1), (8,1), (7,1), (6,1), (5,1), (4,1), (3,1), (2,1), (1,1), (0,1)] q41L7) [q41E285])) 2) 6) 253)
noncomputable def q418 : EntH := ⟨107, 264, q41L8, [.ptr 5 0 0, .ptr 253 0 0, .ptr 26 0 0], fun g => sg0, 265, fun g => (setN (262, .dead) (setN (5, mch 4 1 (wU (g 1)) 256 (.row 264 2 0 2) 3) (app (sls [(1,263), (0,1)] (mp g q41L8)) [(264, .pr [[wU 1, wU (g 6)], [wU 1, wU (eOr (e16 (g 3)) (eShl (e16 (g 4)) 8))]])]) 5) 262)⟩
noncomputable def q41E286 : NBO := (265, false, q41O188)
noncomputable def q41O213 : Ob := mch 4 1 (wH 1) 256 (.row 264 2 0 2) 3
noncomputable def q41E287 : NBO := (5, true, q41O213)
noncomputable def q41O214 : Ob := .dead
noncomputable def q41E288 : NBO := (262, false, q41O214)
noncomputable def q41O215 : Ob := .pr [[wU 1, wH 6], [wU 1, wH 7]]
noncomputable def q41E289 : NBO := (264, true, q41O215)
noncomputable def q41L9 : HObjs := (setN q41E288 (setN q41E287 (app [q41E286] (app (sls [(1,263), (0,1)] q41L8) [q41E289])) 6) 263)
noncomputable def q419 : EntH := ⟨107, 266, q41L9, [.ptr 5 0 0, .ptr 253 0 0, .ptr 27 0 0], fun g => sg0, 267, fun g => (setN (264, .dead) (setN (5, mch 4 1 (wU (g 1)) 248 (.row 266 2 0 3) 3) (app (sls [(1,265), (0,1)] (mp g q41L9)) [(266, .pr [[wU 1, wU (g 6)], [wU 1, wU (g 7)], [wU 1, wU 16937]])]) 5) 264)⟩
noncomputable def q41E290 : NBO := (267, false, q41O188)
noncomputable def q41O216 : Ob := mch 4 1 (wH 1) 248 (.row 266 2 0 3) 3
noncomputable def q41E291 : NBO := (5, true, q41O216)
noncomputable def q41E292 : NBO := (264, false, q41O214)
noncomputable def q41O217 : Ob := .pr [[wU 1, wH 6], [wU 1, wH 7], [wU 1, wU 16937]]
noncomputable def q41E293 : NBO := (266, true, q41O217)
noncomputable def q41L10 : HObjs := (setN q41E292 (setN q41E291 (app [q41E290] (app (sls [(1,265), (0,1)] q41L9) [q41E293])) 6) 265)
noncomputable def q4110 : EntH := ⟨107, 268, q41L10, [.ptr 5 0 0, .ptr 253 0 0, .ptr 28 0 0], fun g => sg0, 269, fun g => (setN (266, .dead) (setN (5, mch 4 1 (wU (g 1)) 239 (.row 268 2 0 4) 3) (app (sls [(1,267), (0,1)] (mp g q41L10)) [(268, .pr [[wU 1, wU (g 6)], [wU 1, wU (g 7)], [wU 1, wU 16937], [wU 1, wU 1]])]) 5) 266)⟩
noncomputable def q41E294 : NBO := (269, false, q41O188)
noncomputable def q41O218 : Ob := mch 4 1 (wH 1) 239 (.row 268 2 0 4) 3
noncomputable def q41E295 : NBO := (5, true, q41O218)
noncomputable def q41E296 : NBO := (266, false, q41O214)
noncomputable def q41O219 : Ob := .pr [[wU 1, wH 6], [wU 1, wH 7], [wU 1, wU 16937], [wU 1, wU 1]]
noncomputable def q41E297 : NBO := (268, true, q41O219)
noncomputable def q41L11 : HObjs := (setN q41E296 (setN q41E295 (app [q41E294] (app (sls [(1,267), (0,1)] q41L10) [q41E297])) 6) 267)
noncomputable def q4111 : EntH := ⟨107, 270, q41L11, [.ptr 5 0 0, .ptr 253 0 0, .ptr 29 0 0], fun g => sg0, 271, fun g => (setN (268, .dead) (setN (5, mch 4 1 (wU (g 1)) 233 (.row 270 2 0 5) 3) (app (sls [(1,269), (0,1)] (mp g q41L11)) [(270, .pr [[wU 1, wU (g 6)], [wU 1, wU (g 7)], [wU 1, wU 16937], [wU 1, wU 1], [wU 1, wU 0]])]) 5) 268)⟩
noncomputable def q41E298 : NBO := (271, false, q41O188)
noncomputable def q41O220 : Ob := mch 4 1 (wH 1) 233 (.row 270 2 0 5) 3
noncomputable def q41E299 : NBO := (5, true, q41O220)
noncomputable def q41E300 : NBO := (268, false, q41O214)
noncomputable def q41O221 : Ob := .pr [[wU 1, wH 6], [wU 1, wH 7], [wU 1, wU 16937], [wU 1, wU 1], [wU 1, wU 0]]
noncomputable def q41E301 : NBO := (270, true, q41O221)
noncomputable def q41L12 : HObjs := (setN q41E300 (setN q41E299 (app [q41E298] (app (sls [(1,269), (0,1)] q41L11) [q41E301])) 6) 269)
noncomputable def q4112 : EntH := ⟨107, 272, q41L12, [.ptr 5 0 0, .ptr 253 0 0, .ptr 30 0 0], fun g => sg0, 273, fun g => (setN (270, .dead) (setN (5, mch 4 1 (wU (g 1)) 228 (.row 272 2 0 6) 3) (app (sls [(1,271), (0,1)] (mp g q41L12)) [(272, .pr [[wU 1, wU (g 6)], [wU 1, wU (g 7)], [wU 1, wU 16937], [wU 1, wU 1], [wU 1, wU 0], [wU 1, wU (e16 (g 2))]])]) 5) 270)⟩
noncomputable def q41L13 : HObjs := (setN q41E256 (setN qE248 (setN q41E255 (setN q41E254 (sls [(254,1), (253,1), (252,1), (14,1), (13,1), (17,235), (16,1), (15,1), (12,1), (11,1), (10,1), (9,1), (6,2), (5,1), (4,1), (8,1), (3,1), (2,1), (1,1)] q41L12) 1) 246) 250) 252)
noncomputable def q4113 : EntH := ⟨109, 254, q41L13, [.ptr 5 0 0, .ptr 253 0 0, .ptr 16 0 0], fun g => sg0, 255, fun g => (setN (252, .pmap [(.str [105], wU 4), (.str [106], wU 1), (.str [118], wU (g 0))]) (setN (7, .pr (setN [wB 36] (setN [wB 66] (setN [wB 36] (setN [wB 66] (setN [wB (e8 (g 0))] (setN [wB (e8 (g 0))] (setN [wB (e8 (eShr (g 0) 8))] (ramW []) 554) 553) 550) 549) 548) 1) 0)) (setN (5, mch 4 1 (wU (g 0)) 228 (.row 254 2 0 6) 3) (app (sls [(253,1), (252,1), (251,1), (249,1), (248,1), (246,2), (250,1), (245,1), (244,1), (243,1), (242,1), (4,1), (3,1), (241,1), (240,1), (5,235), (2,1), (1,1), (0,1)] (mp g q41L13)) [(254, .pr [[wU 1, wU (eOr (e16 (e8 (g 0))) (eShl (e16 (e8 (eShr (g 0) 8))) 8))], [wU 1, wU (eOr (e16 (e8 (g 0))) (eShl (e16 (e8 (eShr (g 0) 8))) 8))], [wU 1, wU 16937], [wU 1, wU 1], [wU 1, wU 0], [wU 1, wU (e16 (e8 (g 0)))]])]) 5) 7) 252)⟩
noncomputable def q41L14 : HObjs := (sls [(2,252)] q41L13)
noncomputable def q4114 : EntH := ⟨47, 252, q41L14, [.ptr 5 0 0, .ptr 11 0 0, .p (.fz [])], fun g => .p (wU 0), 253, fun g => (setN (7, .pr (setN [wB 36] (setN [wB 66] (setN [wB 36] (setN [wB 66] (setN [wB (e8 (g 0))] (setN [wB (e8 (g 0))] (setN [wB (e8 (eShr (g 0) 8))] (ramW []) 554) 553) 550) 549) 548) 1) 0)) (setN (5, mch 4 1 (wU (g 0)) 228 (.row 252 2 0 6) 3) (app (sls [(251,1), (250,1), (249,1), (247,1), (246,1), (244,2), (248,1), (243,1), (242,1), (241,1), (240,1), (2,1), (1,1), (239,1), (238,1), (3,235), (0,1)] (mp g q41L14)) [(252, .pr [[wU 1, wU (eOr (e16 (e8 (g 0))) (eShl (e16 (e8 (eShr (g 0) 8))) 8))], [wU 1, wU (eOr (e16 (e8 (g 0))) (eShl (e16 (e8 (eShr (g 0) 8))) 8))], [wU 1, wU 16937], [wU 1, wU 1], [wU 1, wU 0], [wU 1, wU (e16 (e8 (g 0)))]])]) 5) 7)⟩
noncomputable def q4115 : EntH := ⟨17, 0, [], [.p (.agg [qV0, qV1, qV11]), .p (.str [109,97,105,110]), .p (.fz []), .p (.str []), .p (.agg [.fz [[wU 4], [wU 1], [wH 0]], .fz []]), .p (wI 300)], fun g => .p (.agg [wU 0, .fz [[wU 1, wU (eOr (e16 (e8 (g 0))) (eShl (e16 (e8 (eShr (g 0) 8))) 8))], [wU 1, wU (eOr (e16 (e8 (g 0))) (eShl (e16 (e8 (eShr (g 0) 8))) 8))], [wU 1, wU 16937], [wU 1, wU 1], [wU 1, wU 0], [wU 1, wU (e16 (e8 (g 0)))]], wI 6, wU 0, .str (strW [(0,36), (1,66), (548,36), (549,66), (550, e8 (e8 (g 0))), (553, e8 (e8 (g 0))), (554, e8 (e8 (eShr (g 0) 8)))]), wI 3, wI 0]), 0, fun g => []⟩
noncomputable def q4116 : EntH := ⟨12, 0, [], [.p (.agg [qV0, qV1, qV11]), .p (.str [109,97,105,110]), .p (.fz []), .p (.str []), .p (.agg [.fz [[wU 4], [wU 1], [wH 0]], .fz []]), .p (wI 300)], fun g => .p (.agg [wU 0, .fz [[wU 1, wU (eOr (e16 (e8 (g 0))) (eShl (e16 (e8 (eShr (g 0) 8))) 8))], [wU 1, wU (eOr (e16 (e8 (g 0))) (eShl (e16 (e8 (eShr (g 0) 8))) 8))], [wU 1, wU 16937], [wU 1, wU 1], [wU 1, wU 0], [wU 1, wU (e16 (e8 (g 0)))]], wI 6, wU 0, .str (strW [(0,36), (1,66), (548,36), (549,66), (550, e8 (e8 (g 0))), (553, e8 (e8 (g 0))), (554, e8 (e8 (eShr (g 0) 8)))]), wI 3, wI 0]), 0, fun g => []⟩
noncomputable def q4117 : EntH := ⟨8, 0, [], [.p (.agg [qV0, qV1, qV11]), .p (.agg [.fz [[wU 4], [wU 1], [wH 0]], .fz []]), .p (wI 300)], fun g => .p (.agg [wU 0, .fz [[wU 1, wU (eOr (e16 (e8 (g 0))) (eShl (e16 (e8 (eShr (g 0) 8))) 8))], [wU 1, wU (eOr (e16 (e8 (g 0))) (eShl (e16 (e8 (eShr (g 0) 8))) 8))], [wU 1, wU 16937], [wU 1, wU 1], [wU 1, wU 0], [wU 1, wU (e16 (e8 (g 0)))]], wI 6, wU 0, .str (strW [(0,36), (1,66), (548,36), (549,66), (550, e8 (e8 (g 0))), (553, e8 (e8 (g 0))), (554, e8 (e8 (eShr (g 0) 8)))]), wI 3, wI 0]), 0, fun g => []⟩
theorem q410_ok : HOk q410 := h1_ok (fun g => by kernel_rfl)
theorem q411_ok : HOk q411 := h1_ok (fun g => by kernel_rfl)
theorem q412_ok : HOk q412 := h1_ok (fun g => by kernel_rfl)
theorem q413_ok : HOk q413 := h1_ok (fun g => by kernel_rfl)
theorem q414_ok : HOk q414 := h1_ok (fun g => by kernel_rfl)
theorem q415_ok : HOk q415 := h1_ok (fun g => by kernel_rfl)
theorem q416_ok : HOk q416 := h1_ok (fun g => by kernel_rfl)
theorem q417_ok : HOk q417 := h1_ok (fun g => by kernel_rfl)
theorem q418_ok : HOk q418 := h1_ok (fun g => by kernel_rfl)
theorem q419_ok : HOk q419 := h1_ok (fun g => by kernel_rfl)
theorem q4110_ok : HOk q4110 := h1_ok (fun g => by kernel_rfl)
theorem q4111_ok : HOk q4111 := h1_ok (fun g => by kernel_rfl)
theorem q4112_ok : HOk q4112 := h1_ok (fun g => by kernel_rfl)
theorem q4113_ok : HOk q4113 := h_ok (fs := []) (tab := []) (hs := [107]) (tah := [q410, q411, q412, q413, q414, q415, q416, q417, q418, q419, q4110, q4111, q4112]) (by simp) (by
    intro e he
    simp only [List.mem_cons, List.not_mem_nil, or_false] at he
    rcases he with rfl | rfl | rfl | rfl | rfl | rfl | rfl | rfl | rfl | rfl | rfl | rfl | rfl
    · exact q410_ok
    · exact q411_ok
    · exact q412_ok
    · exact q413_ok
    · exact q414_ok
    · exact q415_ok
    · exact q416_ok
    · exact q417_ok
    · exact q418_ok
    · exact q419_ok
    · exact q4110_ok
    · exact q4111_ok
    · exact q4112_ok
    ) (fuel := 100000) (n := 300) (me := 47) (fun g => by kernel_rfl)
theorem q4114_ok : HOk q4114 := h_ok (fs := []) (tab := []) (hs := [109]) (tah := [q4113]) (by simp) (by
    intro e he
    simp only [List.mem_cons, List.not_mem_nil, or_false] at he
    rcases he with rfl
    · exact q4113_ok
    ) (fuel := 100000) (n := 300) (me := 17) (fun g => by kernel_rfl)
theorem q4115_ok : HOk q4115 := h_ok (fs := [44]) (tab := [pC13]) (hs := [47]) (tah := [q4114]) (by
    intro e he
    simp only [List.mem_cons, List.not_mem_nil, or_false] at he
    rcases he with rfl
    · exact pC13_ok
    ) (by
    intro e he
    simp only [List.mem_cons, List.not_mem_nil, or_false] at he
    rcases he with rfl
    · exact q4114_ok
    ) (fuel := 100000) (n := 300) (me := 12) (fun g => by kernel_rfl)
theorem q4116_ok : HOk q4116 := h_ok (fs := [16]) (tab := [pV3]) (hs := [17]) (tah := [q4115]) (by
    intro e he
    simp only [List.mem_cons, List.not_mem_nil, or_false] at he
    rcases he with rfl
    · exact pV3_ok
    ) (by
    intro e he
    simp only [List.mem_cons, List.not_mem_nil, or_false] at he
    rcases he with rfl
    · exact q4115_ok
    ) (fuel := 100000) (n := 300) (me := 8) (fun g => by kernel_rfl)
theorem q4117_ok : HOk q4117 := h_ok (fs := []) (tab := []) (hs := [12]) (tah := [q4116]) (by simp) (by
    intro e he
    simp only [List.mem_cons, List.not_mem_nil, or_false] at he
    rcases he with rfl
    · exact q4116_ok
    ) (fuel := 100000) (n := 300) (me := 5) (fun g => by kernel_rfl)
end Go.Ab
