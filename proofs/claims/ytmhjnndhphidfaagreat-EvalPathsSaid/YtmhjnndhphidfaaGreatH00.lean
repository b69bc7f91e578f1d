/- Lemmas. -/
import Derived.Test.YtmhjnndhphidfaaGreatPH
import Derived.Test.YtmhjnndhphidfaaGreatPC5
import Derived.Test.YtmhjnndhphidfaaGreatPV3
namespace Go.Ab
set_option maxRecDepth 30000
set_option linter.unusedSimpArgs false
set_option linter.unusedVariables false
open Go.Proofs
noncomputable def q00O188 : Ob := .pr [[wI 0, .str []]]
noncomputable def q00E252 : NBO := (254, false, q00O188)
noncomputable def q00O189 : Ob := .cells [[.map 252, .p (wU 0)]]
noncomputable def q00E253 : NBO := (253, false, q00O189)
noncomputable def q00E254 : NBO := (252, false, qO182)
noncomputable def q00L0 : HObjs := (app [q00E252, q00E253, q00E254] qL)
noncomputable def q000 : EntH := ⟨107, 255, q00L0, [.ptr 5 0 0, .ptr 253 0 0, .ptr 18 0 0], fun g => sg0, 255, fun g => (setN (5, mch 0 0 (wU (g 0)) 298 (.nils) 1) (setN (252, .pmap [(.str [105], wU 0)]) (mp g q00L0) 2) 247)⟩
noncomputable def q00E255 : NBO := (255, false, q00O188)
noncomputable def q00O190 : Ob := .pmap [(.str [105], wU 0)]
noncomputable def q00E256 : NBO := (252, false, q00O190)
noncomputable def q00O191 : Ob := mch 0 0 (wH 0) 298 (.nils) 1
noncomputable def q00E257 : NBO := (5, true, q00O191)
noncomputable def q00L1 : HObjs := (setN q00E257 (setN q00E256 (app [q00E255] q00L0) 3) 248)
noncomputable def q001 : EntH := ⟨107, 256, q00L1, [.ptr 5 0 0, .ptr 253 0 0, .ptr 19 0 0], fun g => sg0, 256, fun g => (setN (5, mch 0 0 (wU (g 0)) 296 (.nils) 2) (setN (252, .pmap [(.str [105], wU 0), (.str [106], wU 0)]) (mp g q00L1) 3) 248)⟩
noncomputable def q00E258 : NBO := (256, false, q00O188)
noncomputable def q00O192 : Ob := .pmap [(.str [105], wU 0), (.str [106], wU 0)]
noncomputable def q00E259 : NBO := (252, false, q00O192)
noncomputable def q00O193 : Ob := mch 0 0 (wH 0) 296 (.nils) 2
noncomputable def q00E260 : NBO := (5, true, q00O193)
noncomputable def q00L2 : HObjs := (setN q00E260 (setN q00E259 (app [q00E258] q00L1) 4) 249)
noncomputable def q002 : EntH := ⟨107, 257, q00L2, [.ptr 5 0 0, .ptr 253 0 0, .ptr 20 0 0], fun g => sg0, 257, fun g => (setN (5, mch 0 0 (wU (g 0)) 294 (.nils) 3) (setN (252, .pmap [(.str [105], wU 0), (.str [106], wU 0), (.str [118], wU (g 0))]) (mp g q00L2) 4) 249)⟩
noncomputable def q00E261 : NBO := (257, false, q00O188)
noncomputable def q00O194 : Ob := .pmap [(.str [105], wU 0), (.str [106], wU 0), (.str [118], wH 0)]
noncomputable def q00E262 : NBO := (252, true, q00O194)
noncomputable def q00O195 : Ob := mch 0 0 (wH 1) 294 (.nils) 3
noncomputable def q00E263 : NBO := (5, true, q00O195)
noncomputable def q00O196 : Ob := .pr [[.fz [[wU 0], [wU 0], [wH 2]], .fz []]]
noncomputable def q00E264 : NBO := (1, true, q00O196)
noncomputable def q00L3 : HObjs := (setN q00E264 (setN q00E263 (setN q00E262 (app [q00E261] q00L2) 5) 250) 256)
noncomputable def q003 : EntH := ⟨107, 258, q00L3, [.ptr 5 0 0, .ptr 253 0 0, .ptr 21 0 0], fun g => sg0, 258, fun g => (setN (7, .pr (setN [wB 66] (ramW []) 1)) (setN (5, mch 0 0 (wU (g 1)) 288 (.nils) 3) (mp g q00L3) 250) 254)⟩
noncomputable def q00E265 : NBO := (258, false, q00O188)
noncomputable def q00O197 : Ob := mch 0 0 (wH 1) 288 (.nils) 3
noncomputable def q00E266 : NBO := (5, true, q00O197)
noncomputable def q00O198 : Ob := .pr (ramW [(1, (.ofNat 66))])
noncomputable def q00E267 : NBO := (7, false, q00O198)
noncomputable def q00L4 : HObjs := (setN q00E267 (setN q00E266 (app [q00E265] q00L3) 251) 255)
noncomputable def q004 : EntH := ⟨107, 259, q00L4, [.ptr 5 0 0, .ptr 253 0 0, .ptr 22 0 0], fun g => sg0, 259, fun g => (setN (7, .pr (setN [wB (e8 (g 0))] (setN [wB (e8 (eShr (g 0) 8))] (ramW [(1, (.ofNat 66))]) 516) 515)) (setN (5, mch 0 0 (wU (g 1)) 281 (.nils) 3) (mp g q00L4) 251) 255)⟩
noncomputable def q00E268 : NBO := (259, false, q00O188)
noncomputable def q00O199 : Ob := mch 0 0 (wH 1) 281 (.nils) 3
noncomputable def q00E269 : NBO := (5, true, q00O199)
noncomputable def q00O200 : Ob := .pr (ramW [(1, (.ofNat 66)), (515, (.negSucc 2)), (516, (.negSucc 3))])
noncomputable def q00E270 : NBO := (7, true, q00O200)
noncomputable def q00O201 : Ob := .pr [[.fz [[wU 0], [wU 0], [wH 4]], .fz []]]
noncomputable def q00E271 : NBO := (1, true, q00O201)
noncomputable def q00L5 : HObjs := (setN q00E271 (setN q00E270 (setN q00E269 (app [q00E268] q00L4) 252) 256) 258)
noncomputable def q005 : EntH := ⟨107, 260, q00L5, [.ptr 5 0 0, .ptr 253 0 0, .ptr 23 0 0], fun g => sg0, 260, fun g => (setN (7, .pr (setN [wB 66] (mapL (mapL (inPV g 60)) (ramW [(1, (.ofNat 66)), (515, (.negSucc 2)), (516, (.negSucc 3))])) 513)) (setN (5, mch 0 0 (wU (g 1)) 276 (.nils) 3) (mp g q00L5) 252) 256)⟩
noncomputable def q00E272 : NBO := (260, false, q00O188)
noncomputable def q00O202 : Ob := mch 0 0 (wH 1) 276 (.nils) 3
noncomputable def q00E273 : NBO := (5, true, q00O202)
noncomputable def q00O203 : Ob := .pr (ramW [(1, (.ofNat 66)), (513, (.ofNat 66)), (515, (.negSucc 2)), (516, (.negSucc 3))])
noncomputable def q00E274 : NBO := (7, true, q00O203)
noncomputable def q00L6 : HObjs := (setN q00E274 (setN q00E273 (app [q00E272] q00L5) 253) 257)
noncomputable def q006 : EntH := ⟨107, 261, q00L6, [.ptr 5 0 0, .ptr 253 0 0, .ptr 24 0 0], fun g => sg0, 261, fun g => (setN (7, .pr (setN [wB (e8 (g 0))] (mapL (mapL (inPV g 60)) (ramW [(1, (.ofNat 66)), (513, (.ofNat 66)), (515, (.negSucc 2)), (516, (.negSucc 3))])) 514)) (setN (5, mch 0 0 (wU (g 1)) 271 (.nils) 3) (mp g q00L6) 253) 257)⟩
noncomputable def q00E275 : NBO := (261, false, q00O188)
noncomputable def q00O204 : Ob := mch 0 0 (wH 1) 271 (.nils) 3
noncomputable def q00E276 : NBO := (5, true, q00O204)
noncomputable def q00O205 : Ob := .pr (ramW [(1, (.ofNat 66)), (513, (.ofNat 66)), (514, (.negSucc 2)), (515, (.negSucc 3)), (516, (.negSucc 4))])
noncomputable def q00E277 : NBO := (7, true, q00O205)
noncomputable def q00O206 : Ob := .pr [[.fz [[wU 0], [wU 0], [wH 5]], .fz []]]
noncomputable def q00E278 : NBO := (1, true, q00O206)
noncomputable def q00L7 : HObjs := (setN q00E278 (setN q00E277 (setN q00E276 (app [q00E275] q00L6) 254) 258) 260)
noncomputable def q007 : EntH := ⟨107, 262, q00L7, [.ptr 5 0 0, .ptr 253 0 0, .ptr 25 0 0], fun g => sg0, 263, fun g => (setN (5, mch 0 0 (wU (g 1)) 264 (.row 262 2 0 1) 3) (app (sls [(261,1), (260,1), (259,1), (257,1), (256,1), (254,2), (258,1), (253,1), (252,1), (251,1), (250,1), (12,1), (11,1), (249,1), (248,1), (13,235), (10,1), (9,1), (8,1), (7,1), (6,1), (5,1), (4,1), (3,1), (2,1), (1,1), (0,1)] (mp g q00L7)) [(262, .pr [[wU 1, wU (eOr (e16 (g 3)) (eShl (e16 (g 4)) 8))]])]) 5)⟩
noncomputable def q00E279 : NBO := (263, false, q00O188)
noncomputable def q00O207 : Ob := .pr [[.fz [[wU 0], [wU 0], [wH 0]], .fz []]]
noncomputable def q00E280 : NBO := (1, true, q00O207)
noncomputable def q00O208 : Ob := mch 0 0 (wH 1) 264 (.row 262 2 0 1) 3
noncomputable def q00E281 : NBO := (5, true, q00O208)
noncomputable def q00O209 : Ob := .pmap [(.str [105], wU 0), (.str [106], wU 0), (.str [118], wH 5)]
noncomputable def q00E282 : NBO := (252, true, q00O209)
noncomputable def q00O210 : Ob := .pr [[wU 1, wH 6]]
noncomputable def q00E283 : NBO := (262, true, q00O210)
noncomputable def q00L8 : HObjs := (setN q00E282 (setN q00E281 (setN q00E280 (app [q00E279] (app (sls [(261,1), (260,1), (259,1), (257,1), (256,1), (254,2), (258,1), (253,1), (252,1), (251,1), (250,1), (12,1), (11,1), (249,1), (248,1), (13,235), (10,1), (9,1), (8,1), (7,1), (6,1), (5,1), (4,1), (3,1), (2,1), (1,1), (0,1)] q00L7) [q00E283])) 2) 6) 253)
noncomputable def q008 : EntH := ⟨107, 264, q00L8, [.ptr 5 0 0, .ptr 253 0 0, .ptr 26 0 0], fun g => sg0, 265, fun g => (setN (262, .dead) (setN (5, mch 0 0 (wU (g 1)) 256 (.row 264 2 0 2) 3) (app (sls [(1,263), (0,1)] (mp g q00L8)) [(264, .pr [[wU 1, wU (g 6)], [wU 1, wU (eOr (e16 (g 3)) (eShl (e16 (g 4)) 8))]])]) 5) 262)⟩
noncomputable def q00E284 : NBO := (265, false, q00O188)
noncomputable def q00O211 : Ob := mch 0 0 (wH 1) 256 (.row 264 2 0 2) 3
noncomputable def q00E285 : NBO := (5, true, q00O211)
noncomputable def q00O212 : Ob := .dead
noncomputable def q00E286 : NBO := (262, false, q00O212)
noncomputable def q00O213 : Ob := .pr [[wU 1, wH 6], [wU 1, wH 7]]
noncomputable def q00E287 : NBO := (264, true, q00O213)
noncomputable def q00L9 : HObjs := (setN q00E286 (setN q00E285 (app [q00E284] (app (sls [(1,263), (0,1)] q00L8) [q00E287])) 6) 263)
noncomputable def q009 : EntH := ⟨107, 266, q00L9, [.ptr 5 0 0, .ptr 253 0 0, .ptr 27 0 0], fun g => sg0, 267, fun g => (setN (264, .dead) (setN (5, mch 0 0 (wU (g 1)) 248 (.row 266 2 0 3) 3) (app (sls [(1,265), (0,1)] (mp g q00L9)) [(266, .pr [[wU 1, wU (g 6)], [wU 1, wU (g 7)], [wU 1, wU 16899]])]) 5) 264)⟩
noncomputable def q00E288 : NBO := (267, false, q00O188)
noncomputable def q00O214 : Ob := mch 0 0 (wH 1) 248 (.row 266 2 0 3) 3
noncomputable def q00E289 : NBO := (5, true, q00O214)
noncomputable def q00E290 : NBO := (264, false, q00O212)
noncomputable def q00O215 : Ob := .pr [[wU 1, wH 6], [wU 1, wH 7], [wU 1, wU 16899]]
noncomputable def q00E291 : NBO := (266, true, q00O215)
noncomputable def q00L10 : HObjs := (setN q00E290 (setN q00E289 (app [q00E288] (app (sls [(1,265), (0,1)] q00L9) [q00E291])) 6) 265)
noncomputable def q0010 : EntH := ⟨107, 268, q00L10, [.ptr 5 0 0, .ptr 253 0 0, .ptr 28 0 0], fun g => sg0, 269, fun g => (setN (266, .dead) (setN (5, mch 0 0 (wU (g 1)) 239 (.row 268 2 0 4) 3) (app (sls [(1,267), (0,1)] (mp g q00L10)) [(268, .pr [[wU 1, wU (g 6)], [wU 1, wU (g 7)], [wU 1, wU 16899], [wU 1, wU 1]])]) 5) 266)⟩
noncomputable def q00E292 : NBO := (269, false, q00O188)
noncomputable def q00O216 : Ob := mch 0 0 (wH 1) 239 (.row 268 2 0 4) 3
noncomputable def q00E293 : NBO := (5, true, q00O216)
noncomputable def q00E294 : NBO := (266, false, q00O212)
noncomputable def q00O217 : Ob := .pr [[wU 1, wH 6], [wU 1, wH 7], [wU 1, wU 16899], [wU 1, wU 1]]
noncomputable def q00E295 : NBO := (268, true, q00O217)
noncomputable def q00L11 : HObjs := (setN q00E294 (setN q00E293 (app [q00E292] (app (sls [(1,267), (0,1)] q00L10) [q00E295])) 6) 267)
noncomputable def q0011 : EntH := ⟨107, 270, q00L11, [.ptr 5 0 0, .ptr 253 0 0, .ptr 29 0 0], fun g => sg0, 271, fun g => (setN (268, .dead) (setN (5, mch 0 0 (wU (g 1)) 233 (.row 270 2 0 5) 3) (app (sls [(1,269), (0,1)] (mp g q00L11)) [(270, .pr [[wU 1, wU (g 6)], [wU 1, wU (g 7)], [wU 1, wU 16899], [wU 1, wU 1], [wU 1, wU 0]])]) 5) 268)⟩
noncomputable def q00E296 : NBO := (271, false, q00O188)
noncomputable def q00O218 : Ob := mch 0 0 (wH 1) 233 (.row 270 2 0 5) 3
noncomputable def q00E297 : NBO := (5, true, q00O218)
noncomputable def q00E298 : NBO := (268, false, q00O212)
noncomputable def q00O219 : Ob := .pr [[wU 1, wH 6], [wU 1, wH 7], [wU 1, wU 16899], [wU 1, wU 1], [wU 1, wU 0]]
noncomputable def q00E299 : NBO := (270, true, q00O219)
noncomputable def q00L12 : HObjs := (setN q00E298 (setN q00E297 (app [q00E296] (app (sls [(1,269), (0,1)] q00L11) [q00E299])) 6) 269)
noncomputable def q0012 : EntH := ⟨107, 272, q00L12, [.ptr 5 0 0, .ptr 253 0 0, .ptr 30 0 0], fun g => sg0, 273, fun g => (setN (270, .dead) (setN (5, mch 0 0 (wU (g 1)) 228 (.row 272 2 0 6) 3) (app (sls [(1,271), (0,1)] (mp g q00L12)) [(272, .pr [[wU 1, wU (g 6)], [wU 1, wU (g 7)], [wU 1, wU 16899], [wU 1, wU 1], [wU 1, wU 0], [wU 1, wU (e16 (g 2))]])]) 5) 270)⟩
noncomputable def q00L13 : HObjs := (setN qE250 (setN qE248 (setN qE244 (setN q00E254 (sls [(254,1), (253,1), (252,1), (14,1), (13,1), (17,235), (16,1), (15,1), (12,1), (11,1), (10,1), (9,1), (6,2), (5,1), (4,1), (8,1), (3,1), (2,1), (1,1)] q00L12) 1) 246) 250) 252)
noncomputable def q0013 : EntH := ⟨109, 254, q00L13, [.ptr 5 0 0, .ptr 253 0 0, .ptr 16 0 0], fun g => sg0, 255, fun g => (setN (252, .pmap [(.str [105], wU 0), (.str [106], wU 0), (.str [118], wU (g 0))]) (setN (7, .pr (setN [wB 66] (setN [wB 66] (setN [wB (e8 (g 0))] (setN [wB (e8 (g 0))] (setN [wB (e8 (eShr (g 0) 8))] (ramW []) 516) 515) 514) 513) 1)) (setN (5, mch 0 0 (wU (g 0)) 228 (.row 254 2 0 6) 3) (app (sls [(253,1), (252,1), (251,1), (249,1), (248,1), (246,2), (250,1), (245,1), (244,1), (243,1), (242,1), (4,1), (3,1), (241,1), (240,1), (5,235), (2,1), (1,1), (0,1)] (mp g q00L13)) [(254, .pr [[wU 1, wU (eOr (e16 (e8 (g 0))) (eShl (e16 (e8 (eShr (g 0) 8))) 8))], [wU 1, wU (eOr (e16 (e8 (g 0))) (eShl (e16 (e8 (eShr (g 0) 8))) 8))], [wU 1, wU 16899], [wU 1, wU 1], [wU 1, wU 0], [wU 1, wU (e16 (e8 (g 0)))]])]) 5) 7) 252)⟩
noncomputable def q00L14 : HObjs := (sls [(2,252)] q00L13)
noncomputable def q0014 : EntH := ⟨47, 252, q00L14, [.ptr 5 0 0, .ptr 11 0 0, .p (.fz [])], fun g => .p (wU 0), 253, fun g => (setN (7, .pr (setN [wB 66] (setN [wB 66] (setN [wB (e8 (g 0))] (setN [wB (e8 (g 0))] (setN [wB (e8 (eShr (g 0) 8))] (ramW []) 516) 515) 514) 513) 1)) (setN (5, mch 0 0 (wU (g 0)) 228 (.row 252 2 0 6) 3) (app (sls [(251,1), (250,1), (249,1), (247,1), (246,1), (244,2), (248,1), (243,1), (242,1), (241,1), (240,1), (2,1), (1,1), (239,1), (238,1), (3,235), (0,1)] (mp g q00L14)) [(252, .pr [[wU 1, wU (eOr (e16 (e8 (g 0))) (eShl (e16 (e8 (eShr (g 0) 8))) 8))], [wU 1, wU (eOr (e16 (e8 (g 0))) (eShl (e16 (e8 (eShr (g 0) 8))) 8))], [wU 1, wU 16899], [wU 1, wU 1], [wU 1, wU 0], [wU 1, wU (e16 (e8 (g 0)))]])]) 5) 7)⟩
noncomputable def q0015 : EntH := ⟨17, 0, [], [.p (.agg [qV0, qV1, qV11]), .p (.str [109,97,105,110]), .p (.fz []), .p (.str []), .p (.agg [.fz [[wU 0], [wU 0], [wH 0]], .fz []]), .p (wI 300)], fun g => .p (.agg [wU 0, .fz [[wU 1, wU (eOr (e16 (e8 (g 0))) (eShl (e16 (e8 (eShr (g 0) 8))) 8))], [wU 1, wU (eOr (e16 (e8 (g 0))) (eShl (e16 (e8 (eShr (g 0) 8))) 8))], [wU 1, wU 16899], [wU 1, wU 1], [wU 1, wU 0], [wU 1, wU (e16 (e8 (g 0)))]], wI 6, wU 0, .str (strW [(1,66), (513,66), (514, e8 (e8 (g 0))), (515, e8 (e8 (g 0))), (516, e8 (e8 (eShr (g 0) 8)))]), wI 3, wI 0]), 0, fun g => []⟩
noncomputable def q0016 : EntH := ⟨12, 0, [], [.p (.agg [qV0, qV1, qV11]), .p (.str [109,97,105,110]), .p (.fz []), .p (.str []), .p (.agg [.fz [[wU 0], [wU 0], [wH 0]], .fz []]), .p (wI 300)], fun g => .p (.agg [wU 0, .fz [[wU 1, wU (eOr (e16 (e8 (g 0))) (eShl (e16 (e8 (eShr (g 0) 8))) 8))], [wU 1, wU (eOr (e16 (e8 (g 0))) (eShl (e16 (e8 (eShr (g 0) 8))) 8))], [wU 1, wU 16899], [wU 1, wU 1], [wU 1, wU 0], [wU 1, wU (e16 (e8 (g 0)))]], wI 6, wU 0, .str (strW [(1,66), (513,66), (514, e8 (e8 (g 0))), (515, e8 (e8 (g 0))), (516, e8 (e8 (eShr (g 0) 8)))]), wI 3, wI 0]), 0, fun g => []⟩
noncomputable def q0017 : EntH := ⟨8, 0, [], [.p (.agg [qV0, qV1, qV11]), .p (.agg [.fz [[wU 0], [wU 0], [wH 0]], .fz []]), .p (wI 300)], fun g => .p (.agg [wU 0, .fz [[wU 1, wU (eOr (e16 (e8 (g 0))) (eShl (e16 (e8 (eShr (g 0) 8))) 8))], [wU 1, wU (eOr (e16 (e8 (g 0))) (eShl (e16 (e8 (eShr (g 0) 8))) 8))], [wU 1, wU 16899], [wU 1, wU 1], [wU 1, wU 0], [wU 1, wU (e16 (e8 (g 0)))]], wI 6, wU 0, .str (strW [(1,66), (513,66), (514, e8 (e8 (g 0))), (515, e8 (e8 (g 0))), (516, e8 (e8 (eShr (g 0) 8)))]), wI 3, wI 0]), 0, fun g => []⟩
theorem q000_ok : HOk q000 := h1_ok (fun g => by kernel_rfl)
theorem q001_ok : HOk q001 := h1_ok (fun g => by kernel_rfl)
theorem q002_ok : HOk q002 := h1_ok (fun g => by kernel_rfl)
theorem q003_ok : HOk q003 := h1_ok (fun g => by kernel_rfl)
theorem q004_ok : HOk q004 := h1_ok (fun g => by kernel_rfl)
theorem q005_ok : HOk q005 := h1_ok (fun g => by kernel_rfl)
theorem q006_ok : HOk q006 := h1_ok (fun g => by kernel_rfl)
theorem q007_ok : HOk q007 := h1_ok (fun g => by kernel_rfl)
theorem q008_ok : HOk q008 := h1_ok (fun g => by kernel_rfl)
theorem q009_ok : HOk q009 := h1_ok (fun g => by kernel_rfl)
theorem q0010_ok : HOk q0010 := h1_ok (fun g => by kernel_rfl)
theorem q0011_ok : HOk q0011 := h1_ok (fun g => by kernel_rfl)
theorem q0012_ok : HOk q0012 := h1_ok (fun g => by kernel_rfl)
theorem q0013_ok : HOk q0013 := h_ok (fs := []) (tab := []) (hs := [107]) (tah := [q000, q001, q002, q003, q004, q005, q006, q007, q008, q009, q0010, q0011, q0012]) (by simp) (by
    intro e he
    simp only [List.mem_cons, List.not_mem_nil, or_false] at he
    rcases he with rfl | rfl | rfl | rfl | rfl | rfl | rfl | rfl | rfl | rfl | rfl | rfl | rfl
    · exact q000_ok
    · exact q001_ok
    · exact q002_ok
    · exact q003_ok
    · exact q004_ok
    · exact q005_ok
    · exact q006_ok
    · exact q007_ok
    · exact q008_ok
    · exact q009_ok
    · exact q0010_ok
    · exact q0011_ok
    · exact q0012_ok
    ) (fuel := 100000) (n := 300) (me := 47) (fun g => by kernel_rfl)
theorem q0014_ok : HOk q0014 := h_ok (fs := []) (tab := []) (hs := [109]) (tah := [q0013]) (by simp) (by
    intro e he
    simp only [List.mem_cons, List.not_mem_nil, or_false] at he
    rcases he with rfl
    · exact q0013_ok
    ) (fuel := 100000) (n := 300) (me := 17) (fun g => by kernel_rfl)
theorem q0015_ok : HOk q0015 := h_ok (fs := [44]) (tab := [pC13]) (hs := [47]) (tah := [q0014]) (by
    intro e he
    simp only [List.mem_cons, List.not_mem_nil, or_false] at he
    rcases he with rfl
    · exact pC13_ok
    ) (by
    intro e he
    simp only [List.mem_cons, List.not_mem_nil, or_false] at he
    rcases he with rfl
    · exact q0014_ok
    ) (fuel := 100000) (n := 300) (me := 12) (fun g => by kernel_rfl)
theorem q0016_ok : HOk q0016 := h_ok (fs := [16]) (tab := [pV3]) (hs := [17]) (tah := [q0015]) (by
    intro e he
    simp only [List.mem_cons, List.not_mem_nil, or_false] at he
    rcases he with rfl
    · exact pV3_ok
    ) (by
    intro e he
    simp only [List.mem_cons, List.not_mem_nil, or_false] at he
    rcases he with rfl
    · exact q0015_ok
    ) (fuel := 100000) (n := 300) (me := 8) (fun g => by kernel_rfl)
theorem q0017_ok : HOk q0017 := h_ok (fs := []) (tab := []) (hs := [12]) (tah := [q0016]) (by simp) (by
    intro e he
    simp only [List.mem_cons, List.not_mem_nil, or_false] at he
    rcases he with rfl
    · exact q0016_ok
    ) (fuel := 100000) (n := 300) (me := 5) (fun g => by kernel_rfl)
end Go.Ab
