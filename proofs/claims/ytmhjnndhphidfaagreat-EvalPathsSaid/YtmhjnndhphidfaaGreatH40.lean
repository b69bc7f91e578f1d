/- Lemmas. -/
import Derived.Test.YtmhjnndhphidfaaGreatPH
import Derived.Test.YtmhjnndhphidfaaGreatPC5
import Derived.Test.YtmhjnndhphidfaaGreatPV3
namespace Go.Ab
set_option maxRecDepth 30000
set_option linter.unusedSimpArgs false
set_option linter.unusedVariables false
open Go.Proofs
noncomputable def q40O188 : Ob := .pr [[wI 0, .str []]]
noncomputable def q40E252 : NBO := (254, false, q40O188)
noncomputable def q40O189 : Ob := .cells [[.map 252, .p (wU 0)]]
noncomputable def q40E253 : NBO := (253, false, q40O189)
noncomputable def q40E254 : NBO := (252, false, qO182)
noncomputable def q40O190 : Ob := mch 4 0 (wH 0) 300 (.nils) 0
noncomputable def q40E255 : NBO := (5, true, q40O190)
noncomputable def q40O191 : Ob := .pr [[.fz [[wU 4], [wU 0], [wH 1]], .fz []]]
noncomputable def q40E256 : NBO := (1, true, q40O191)
noncomputable def q40L0 : HObjs := (setN q40E256 (setN q40E255 (app [q40E252, q40E253, q40E254] qL) 247) 253)
noncomputable def q400 : EntH := ⟨107, 255, q40L0, [.ptr 5 0 0, .ptr 253 0 0, .ptr 18 0 0], fun g => sg0, 255, fun g => (setN (5, mch 4 0 (wU (g 0)) 298 (.nils) 1) (setN (252, .pmap [(.str [105], wU 4)]) (mp g q40L0) 2) 247)⟩
noncomputable def q40E257 : NBO := (255, false, q40O188)
noncomputable def q40O192 : Ob := .pmap [(.str [105], wU 4)]
noncomputable def q40E258 : NBO := (252, false, q40O192)
noncomputable def q40O193 : Ob := mch 4 0 (wH 0) 298 (.nils) 1
noncomputable def q40E259 : NBO := (5, true, q40O193)
noncomputable def q40L1 : HObjs := (setN q40E259 (setN q40E258 (app [q40E257] q40L0) 3) 248)
noncomputable def q401 : EntH := ⟨107, 256, q40L1, [.ptr 5 0 0, .ptr 253 0 0, .ptr 19 0 0], fun g => sg0, 256, fun g => (setN (5, mch 4 0 (wU (g 0)) 296 (.nils) 2) (setN (252, .pmap [(.str [105], wU 4), (.str [106], wU 0)]) (mp g q40L1) 3) 248)⟩
noncomputable def q40E260 : NBO := (256, false, q40O188)
noncomputable def q40O194 : Ob := .pmap [(.str [105], wU 4), (.str [106], wU 0)]
noncomputable def q40E261 : NBO := (252, false, q40O194)
noncomputable def q40O195 : Ob := mch 4 0 (wH 0) 296 (.nils) 2
noncomputable def q40E262 : NBO := (5, true, q40O195)
noncomputable def q40L2 : HObjs := (setN q40E262 (setN q40E261 (app [q40E260] q40L1) 4) 249)
noncomputable def q402 : EntH := ⟨107, 257, q40L2, [.ptr 5 0 0, .ptr 253 0 0, .ptr 20 0 0], fun g => sg0, 257, fun g => (setN (5, mch 4 0 (wU (g 0)) 294 (.nils) 3) (setN (252, .pmap [(.str [105], wU 4), (.str [106], wU 0), (.str [118], wU (g 0))]) (mp g q40L2) 4) 249)⟩
noncomputable def q40E263 : NBO := (257, false, q40O188)
noncomputable def q40O196 : Ob := .pmap [(.str [105], wU 4), (.str [106], wU 0), (.str [118], wH 0)]
noncomputable def q40E264 : NBO := (252, true, q40O196)
noncomputable def q40O197 : Ob := mch 4 0 (wH 1) 294 (.nils) 3
noncomputable def q40E265 : NBO := (5, true, q40O197)
noncomputable def q40O198 : Ob := .pr [[.fz [[wU 4], [wU 0], [wH 2]], .fz []]]
noncomputable def q40E266 : NBO := (1, true, q40O198)
noncomputable def q40L3 : HObjs := (setN q40E266 (setN q40E265 (setN q40E264 (app [q40E263] q40L2) 5) 250) 256)
noncomputable def q403 : EntH := ⟨107, 258, q40L3, [.ptr 5 0 0, .ptr 253 0 0, .ptr 21 0 0], fun g => sg0, 258, fun g => (setN (7, .pr (setN [wB 36] (setN [wB 66] (ramW []) 1) 0)) (setN (5, mch 4 0 (wU (g 1)) 288 (.nils) 3) (mp g q40L3) 250) 254)⟩
noncomputable def q40E267 : NBO := (258, false, q40O188)
noncomputable def q40O199 : Ob := mch 4 0 (wH 1) 288 (.nils) 3
noncomputable def q40E268 : NBO := (5, true, q40O199)
noncomputable def q40O200 : Ob := .pr (ramW [(0, (.ofNat 36)), (1, (.ofNat 66))])
noncomputable def q40E269 : NBO := (7, false, q40O200)
noncomputable def q40L4 : HObjs := (setN q40E269 (setN q40E268 (app [q40E267] q40L3) 251) 255)
noncomputable def q404 : EntH := ⟨107, 259, q40L4, [.ptr 5 0 0, .ptr 253 0 0, .ptr 22 0 0], fun g => sg0, 259, fun g => (setN (7, .pr (setN [wB (e8 (g 0))] (setN [wB (e8 (eShr (g 0) 8))] (ramW [(0, (.ofNat 36)), (1, (.ofNat 66))]) 552) 551)) (setN (5, mch 4 0 (wU (g 1)) 281 (.nils) 3) (mp g q40L4) 251) 255)⟩
noncomputable def q40E270 : NBO := (259, false, q40O188)
noncomputable def q40O201 : Ob := mch 4 0 (wH 1) 281 (.nils) 3
noncomputable def q40E271 : NBO := (5, true, q40O201)
noncomputable def q40O202 : Ob := .pr (ramW [(0, (.ofNat 36)), (1, (.ofNat 66)), (551, (.negSucc 2)), (552, (.negSucc 3))])
noncomputable def q40E272 : NBO := (7, true, q40O202)
noncomputable def q40O203 : Ob := .pr [[.fz [[wU 4], [wU 0], [wH 4]], .fz []]]
noncomputable def q40E273 : NBO := (1, true, q40O203)
noncomputable def q40L5 : HObjs := (setN q40E273 (setN q40E272 (setN q40E271 (app [q40E270] q40L4) 252) 256) 258)
noncomputable def q405 : EntH := ⟨107, 260, q40L5, [.ptr 5 0 0, .ptr 253 0 0, .ptr 23 0 0], fun g => sg0, 260, fun g => (setN (7, .pr (setN [wB 36] (setN [wB 66] (mapL (mapL (inPV g 60)) (ramW [(0, (.ofNat 36)), (1, (.ofNat 66)), (551, (.negSucc 2)), (552, (.negSucc 3))])) 549) 548)) (setN (5, mch 4 0 (wU (g 1)) 276 (.nils) 3) (mp g q40L5) 252) 256)⟩
noncomputable def q40E274 : NBO := (260, false, q40O188)
noncomputable def q40O204 : Ob := mch 4 0 (wH 1) 276 (.nils) 3
noncomputable def q40E275 : NBO := (5, true, q40O204)
noncomputable def q40O205 : Ob := .pr (ramW [(0, (.ofNat 36)), (1, (.ofNat 66)), (548, (.ofNat 36)), (549, (.ofNat 66)), (551, (.negSucc 2)), (552, (.negSucc 3))])
noncomputable def q40E276 : NBO := (7, true, q40O205)
noncomputable def q40L6 : HObjs := (setN q40E276 (setN q40E275 (app [q40E274] q40L5) 253) 257)
noncomputable def q406 : EntH := ⟨107, 261, q40L6, [.ptr 5 0 0, .ptr 253 0 0, .ptr 24 0 0], fun g => sg0, 261, fun g => (setN (7, .pr (setN [wB (e8 (g 0))] (mapL (mapL (inPV g 60)) (ramW [(0, (.ofNat 36)), (1, (.ofNat 66)), (548, (.ofNat 36)), (549, (.ofNat 66)), (551, (.negSucc 2)), (552, (.negSucc 3))])) 550)) (setN (5, mch 4 0 (wU (g 1)) 271 (.nils) 3) (mp g q40L6) 253) 257)⟩
noncomputable def q40E277 : NBO := (261, false, q40O188)
noncomputable def q40O206 : Ob := mch 4 0 (wH 1) 271 (.nils) 3
noncomputable def q40E278 : NBO := (5, true, q40O206)
noncomputable def q40O207 : Ob := .pr (ramW [(0, (.ofNat 36)), (1, (.ofNat 66)), (548, (.ofNat 36)), (549, (.ofNat 66)), (550, (.negSucc 2)), (551, (.negSucc 3)), (552, (.negSucc 4))])
noncomputable def q40E279 : NBO := (7, true, q40O207)
noncomputable def q40O208 : Ob := .pr [[.fz [[wU 4], [wU 0], [wH 5]], .fz []]]
noncomputable def q40E280 : NBO := (1, true, q40O208)
noncomputable def q40L7 : HObjs := (setN q40E280 (setN q40E279 (setN q40E278 (app [q40E277] q40L6) 254) 258) 260)
noncomputable def q407 : EntH := ⟨107, 262, q40L7, [.ptr 5 0 0, .ptr 253 0 0, .ptr 25 0 0], fun g => sg0, 263, fun g => (setN (5, mch 4 0 (wU (g 1)) 264 (.row 262 2 0 1) 3) (app (sls [(261,1), (260,1), (259,1), (257,1), (256,1), (254,2), (258,1), (253,1), (252,1), (251,1), (250,1), (12,1), (11,1), (249,1), (248,1), (13,235), (10,1), (9,1), (8,1), (7,1), (6,1), (5,1), (4,1), (3,1), (2,1), (1,1), (0,1)] (mp g q40L7)) [(262, .pr [[wU 1, wU (eOr (e16 (g 3)) (eShl (e16 (g 4)) 8))]])]) 5)⟩
noncomputable def q40E281 : NBO := (263, false, q40O188)
noncomputable def q40O209 : Ob := .pr [[.fz [[wU 4], [wU 0], [wH 0]], .fz []]]
noncomputable def q40E282 : NBO := (1, true, q40O209)
noncomputable def q40O210 : Ob := mch 4 0 (wH 1) 264 (.row 262 2 0 1) 3
noncomputable def q40E283 : NBO := (5, true, q40O210)
noncomputable def q40O211 : Ob := .pmap [(.str [105], wU 4), (.str [106], wU 0), (.str [118], wH 5)]
noncomputable def q40E284 : NBO := (252, true, q40O211)
noncomputable def q40O212 : Ob := .pr [[wU 1, wH 6]]
noncomputable def q40E285 : NBO := (262, true, q40O212)
noncomputable def q40L8 : HObjs := (setN q40E284 (setN q40E283 (setN q40E282 (app [q40E281] (app (sls [(261,1), (260,1), (259,1), (257,1), (256,1), (254,2), (258,1), (253,1), (252,1), (251,1), (250,1), (12,1), (11,1), (249,1), (248,1), (13,235), (10,1), (9,1), (8,1), (7,1), (6,1), (5,1), (4,1), (3,1), (2,1), (1,1), (0,1)] q40L7) [q40E285])) 2) 6) 253)
noncomputable def q408 : EntH := ⟨107, 264, q40L8, [.ptr 5 0 0, .ptr 253 0 0, .ptr 26 0 0], fun g => sg0, 265, fun g => (setN (262, .dead) (setN (5, mch 4 0 (wU (g 1)) 256 (.row 264 2 0 2) 3) (app (sls [(1,263), (0,1)] (mp g q40L8)) [(264, .pr [[wU 1, wU (g 6)], [wU 1, wU (eOr (e16 (g 3)) (eShl (e16 (g 4)) 8))]])]) 5) 262)⟩
noncomputable def q40E286 : NBO := (265, false, q40O188)
noncomputable def q40O213 : Ob := mch 4 0 (wH 1) 256 (.row 264 2 0 2) 3
noncomputable def q40E287 : NBO := (5, true, q40O213)
noncomputable def q40O214 : Ob := .dead
noncomputable def q40E288 : NBO := (262, false, q40O214)
noncomputable def q40O215 : Ob := .pr [[wU 1, wH 6], [wU 1, wH 7]]
noncomputable def q40E289 : NBO := (264, true, q40O215)
noncomputable def q40L9 : HObjs := (setN q40E288 (setN q40E287 (app [q40E286] (app (sls [(1,263), (0,1)] q40L8) [q40E289])) 6) 263)
noncomputable def q409 : EntH := ⟨107, 266, q40L9, [.ptr 5 0 0, .ptr 253 0 0, .ptr 27 0 0], fun g => sg0, 267, fun g => (setN (264, .dead) (setN (5, mch 4 0 (wU (g 1)) 248 (.row 266 2 0 3) 3) (app (sls [(1,265), (0,1)] (mp g q40L9)) [(266, .pr [[wU 1, wU (g 6)], [wU 1, wU (g 7)], [wU 1, wU 16935]])]) 5) 264)⟩
noncomputable def q40E290 : NBO := (267, false, q40O188)
noncomputable def q40O216 : Ob := mch 4 0 (wH 1) 248 (.row 266 2 0 3) 3
noncomputable def q40E291 : NBO := (5, true, q40O216)
noncomputable def q40E292 : NBO := (264, false, q40O214)
noncomputable def q40O217 : Ob := .pr [[wU 1, wH 6], [wU 1, wH 7], [wU 1, wU 16935]]
noncomputable def q40E293 : NBO := (266, true, q40O217)
noncomputable def q40L10 : HObjs := (setN q40E292 (setN q40E291 (app [q40E290] (app (sls [(1,265), (0,1)] q40L9) [q40E293])) 6) 265)
noncomputable def q4010 : EntH := ⟨107, 268, q40L10, [.ptr 5 0 0, .ptr 253 0 0, .ptr 28 0 0], fun g => sg0, 269, fun g => (setN (266, .dead) (setN (5, mch 4 0 (wU (g 1)) 239 (.row 268 2 0 4) 3) (app (sls [(1,267), (0,1)] (mp g q40L10)) [(268, .pr [[wU 1, wU (g 6)], [wU 1, wU (g 7)], [wU 1, wU 16935], [wU 1, wU 1]])]) 5) 266)⟩
noncomputable def q40E294 : NBO := (269, false, q40O188)
noncomputable def q40O218 : Ob := mch 4 0 (wH 1) 239 (.row 268 2 0 4) 3
noncomputable def q40E295 : NBO := (5, true, q40O218)
noncomputable def q40E296 : NBO := (266, false, q40O214)
noncomputable def q40O219 : Ob := .pr [[wU 1, wH 6], [wU 1, wH 7], [wU 1, wU 16935], [wU 1, wU 1]]
noncomputable def q40E297 : NBO := (268, true, q40O219)
noncomputable def q40L11 : HObjs := (setN q40E296 (setN q40E295 (app [q40E294] (app (sls [(1,267), (0,1)] q40L10) [q40E297])) 6) 267)
noncomputable def q4011 : EntH := ⟨107, 270, q40L11, [.ptr 5 0 0, .ptr 253 0 0, .ptr 29 0 0], fun g => sg0, 271, fun g => (setN (268, .dead) (setN (5, mch 4 0 (wU (g 1)) 233 (.row 270 2 0 5) 3) (app (sls [(1,269), (0,1)] (mp g q40L11)) [(270, .pr [[wU 1, wU (g 6)], [wU 1, wU (g 7)], [wU 1, wU 16935], [wU 1, wU 1], [wU 1, wU 0]])]) 5) 268)⟩
noncomputable def q40E298 : NBO := (271, false, q40O188)
noncomputable def q40O220 : Ob := mch 4 0 (wH 1) 233 (.row 270 2 0 5) 3
noncomputable def q40E299 : NBO := (5, true, q40O220)
noncomputable def q40E300 : NBO := (268, false, q40O214)
noncomputable def q40O221 : Ob := .pr [[wU 1, wH 6], [wU 1, wH 7], [wU 1, wU 16935], [wU 1, wU 1], [wU 1, wU 0]]
noncomputable def q40E301 : NBO := (270, true, q40O221)
noncomputable def q40L12 : HObjs := (setN q40E300 (setN q40E299 (app [q40E298] (app (sls [(1,269), (0,1)] q40L11) [q40E301])) 6) 269)
noncomputable def q4012 : EntH := ⟨107, 272, q40L12, [.ptr 5 0 0, .ptr 253 0 0, .ptr 30 0 0], fun g => sg0, 273, fun g => (setN (270, .dead) (setN (5, mch 4 0 (wU (g 1)) 228 (.row 272 2 0 6) 3) (app (sls [(1,271), (0,1)] (mp g q40L12)) [(272, .pr [[wU 1, wU (g 6)], [wU 1, wU (g 7)], [wU 1, wU 16935], [wU 1, wU 1], [wU 1, wU 0], [wU 1, wU (e16 (g 2))]])]) 5) 270)⟩
noncomputable def q40L13 : HObjs := (setN q40E256 (setN qE248 (setN q40E255 (setN q40E254 (sls [(254,1), (253,1), (252,1), (14,1), (13,1), (17,235), (16,1), (15,1), (12,1), (11,1), (10,1), (9,1), (6,2), (5,1), (4,1), (8,1), (3,1), (2,1), (1,1)] q40L12) 1) 246) 250) 252)
noncomputable def q4013 : EntH := ⟨109, 254, q40L13, [.ptr 5 0 0, .ptr 253 0 0, .ptr 16 0 0], fun g => sg0, 255, fun g => (setN (252, .pmap [(.str [105], wU 4), (.str [106], wU 0), (.str [118], wU (g 0))]) (setN (7, .pr (setN [wB 36] (setN [wB 66] (setN [wB 36] (setN [wB 66] (setN [wB (e8 (g 0))] (setN [wB (e8 (g 0))] (setN [wB (e8 (eShr (g 0) 8))] (ramW []) 552) 551) 550) 549) 548) 1) 0)) (setN (5, mch 4 0 (wU (g 0)) 228 (.row 254 2 0 6) 3) (app (sls [(253,1), (252,1), (251,1), (249,1), (248,1), (246,2), (250,1), (245,1), (244,1), (243,1), (242,1), (4,1), (3,1), (241,1), (240,1), (5,235), (2,1), (1,1), (0,1)] (mp g q40L13)) [(254, .pr [[wU 1, wU (eOr (e16 (e8 (g 0))) (eShl (e16 (e8 (eShr (g 0) 8))) 8))], [wU 1, wU (eOr (e16 (e8 (g 0))) (eShl (e16 (e8 (eShr (g 0) 8))) 8))], [wU 1, wU 16935], [wU 1, wU 1], [wU 1, wU 0], [wU 1, wU (e16 (e8 (g 0)))]])]) 5) 7) 252)⟩
noncomputable def q40L14 : HObjs := (sls [(2,252)] q40L13)
noncomputable def q4014 : EntH := ⟨47, 252, q40L14, [.ptr 5 0 0, .ptr 11 0 0, .p (.fz [])], fun g => .p (wU 0), 253, fun g => (setN (7, .pr (setN [wB 36] (setN [wB 66] (setN [wB 36] (setN [wB 66] (setN [wB (e8 (g 0))] (setN [wB (e8 (g 0))] (setN [wB (e8 (eShr (g 0) 8))] (ramW []) 552) 551) 550) 549) 548) 1) 0)) (setN (5, mch 4 0 (wU (g 0)) 228 (.row 252 2 0 6) 3) (app (sls [(251,1), (250,1), (249,1), (247,1), (246,1), (244,2), (248,1), (243,1), (242,1), (241,1), (240,1), (2,1), (1,1), (239,1), (238,1), (3,235), (0,1)] (mp g q40L14)) [(252, .pr [[wU 1, wU (eOr (e16 (e8 (g 0))) (eShl (e16 (e8 (eShr (g 0) 8))) 8))], [wU 1, wU (eOr (e16 (e8 (g 0))) (eShl (e16 (e8 (eShr (g 0) 8))) 8))], [wU 1, wU 16935], [wU 1, wU 1], [wU 1, wU 0], [wU 1, wU (e16 (e8 (g 0)))]])]) 5) 7)⟩
noncomputable def q4015 : EntH := ⟨17, 0, [], [.p (.agg [qV0, qV1, qV11]), .p (.str [109,97,105,110]), .p (.fz []), .p (.str []), .p (.agg [.fz [[wU 4], [wU 0], [wH 0]], .fz []]), .p (wI 300)], fun g => .p (.agg [wU 0, .fz [[wU 1, wU (eOr (e16 (e8 (g 0))) (eShl (e16 (e8 (eShr (g 0) 8))) 8))], [wU 1, wU (eOr (e16 (e8 (g 0))) (eShl (e16 (e8 (eShr (g 0) 8))) 8))], [wU 1, wU 16935], [wU 1, wU 1], [wU 1, wU 0], [wU 1, wU (e16 (e8 (g 0)))]], wI 6, wU 0, .str (strW [(0,36), (1,66), (548,36), (549,66), (550, e8 (e8 (g 0))), (551, e8 (e8 (g 0))), (552, e8 (e8 (eShr (g 0) 8)))]), wI 3, wI 0]), 0, fun g => []⟩
noncomputable def q4016 : EntH := ⟨12, 0, [], [.p (.agg [qV0, qV1, qV11]), .p (.str [109,97,105,110]), .p (.fz []), .p (.str []), .p (.agg [.fz [[wU 4], [wU 0], [wH 0]], .fz []]), .p (wI 300)], fun g => .p (.agg [wU 0, .fz [[wU 1, wU (eOr (e16 (e8 (g 0))) (eShl (e16 (e8 (eShr (g 0) 8))) 8))], [wU 1, wU (eOr (e16 (e8 (g 0))) (eShl (e16 (e8 (eShr (g 0) 8))) 8))], [wU 1, wU 16935], [wU 1, wU 1], [wU 1, wU 0], [wU 1, wU (e16 (e8 (g 0)))]], wI 6, wU 0, .str (strW [(0,36), (1,66), (548,36), (549,66), (550, e8 (e8 (g 0))), (551, e8 (e8 (g 0))), (552, e8 (e8 (eShr (g 0) 8)))]), wI 3, wI 0]), 0, fun g => []⟩
noncomputable def q4017 : EntH := ⟨8, 0, [], [.p (.agg [qV0, qV1, qV11]), .p (.agg [.fz [[wU 4], [wU 0], [wH 0]], .fz []]), .p (wI 300)], fun g => .p (.agg [wU 0, .fz [[wU 1, wU (eOr (e16 (e8 (g 0))) (eShl (e16 (e8 (eShr (g 0) 8))) 8))], [wU 1, wU (eOr (e16 (e8 (g 0))) (eShl (e16 (e8 (eShr (g 0) 8))) 8))], [wU 1, wU 16935], [wU 1, wU 1], [wU 1, wU 0], [wU 1, wU (e16 (e8 (g 0)))]], wI 6, wU 0, .str (strW [(0,36), (1,66), (548,36), (549,66), (550, e8 (e8 (g 0))), (551, e8 (e8 (g 0))), (552, e8 (e8 (eShr (g 0) 8)))]), wI 3, wI 0]), 0, fun g => []⟩
theorem q400_ok : HOk q400 := h1_ok (fun g => by kernel_rfl)
theorem q401_ok : HOk q401 := h1_ok (fun g => by kernel_rfl)
theorem q402_ok : HOk q402 := h1_ok (fun g => by kernel_rfl)
theorem q403_ok : HOk q403 := h1_ok (fun g => by kernel_rfl)
theorem q404_ok : HOk q404 := h1_ok (fun g => by kernel_rfl)
theorem q405_ok : HOk q405 := h1_ok (fun g => by kernel_rfl)
theorem q406_ok : HOk q406 := h1_ok (fun g => by kernel_rfl)
theorem q407_ok : HOk q407 := h1_ok (fun g => by kernel_rfl)
theorem q408_ok : HOk q408 := h1_ok (fun g => by kernel_rfl)
theorem q409_ok : HOk q409 := h1_ok (fun g => by kernel_rfl)
theorem q4010_ok : HOk q4010 := h1_ok (fun g => by kernel_rfl)
theorem q4011_ok : HOk q4011 := h1_ok (fun g => by kernel_rfl)
theorem q4012_ok : HOk q4012 := h1_ok (fun g => by kernel_rfl)
theorem q4013_ok : HOk q4013 := h_ok (fs := []) (tab := []) (hs := [107]) (tah := [q400, q401, q402, q403, q404, q405, q406, q407, q408, q409, q4010, q4011, q4012]) (by simp) (by
    intro e he
    simp only [List.mem_cons, List.not_mem_nil, or_false] at he
    rcases he with rfl | rfl | rfl | rfl | rfl | rfl | rfl | rfl | rfl | rfl | rfl | rfl | rfl
    · exact q400_ok
    · exact q401_ok
    · exact q402_ok
    · exact q403_ok
    · exact q404_ok
    · exact q405_ok
    · exact q406_ok
    · exact q407_ok
    · exact q408_ok
    · exact q409_ok
    · exact q4010_ok
    · exact q4011_ok
    · exact q4012_ok
    ) (fuel := 100000) (n := 300) (me := 47) (fun g => by kernel_rfl)
theorem q4014_ok : HOk q4014 := h_ok (fs := []) (tab := []) (hs := [109]) (tah := [q4013]) (by simp) (by
    intro e he
    simp only [List.mem_cons, List.not_mem_nil, or_false] at he
    rcases he with rfl
    · exact q4013_ok
    ) (fuel := 100000) (n := 300) (me := 17) (fun g => by kernel_rfl)
theorem q4015_ok : HOk q4015 := h_ok (fs := [44]) (tab := [pC13]) (hs := [47]) (tah := [q4014]) (by
    intro e he
    simp only [List.mem_cons, List.not_mem_nil, or_false] at he
    rcases he with rfl
    · exact pC13_ok
    ) (by
    intro e he
    simp only [List.mem_cons, List.not_mem_nil, or_false] at he
    rcases he with rfl
    · exact q4014_ok
    ) (fuel := 100000) (n := 300) (me := 12) (fun g => by kernel_rfl)
theorem q4016_ok : HOk q4016 := h_ok (fs := [16]) (tab := [pV3]) (hs := [17]) (tah := [q4015]) (by
    intro e he
    simp only [List.mem_cons, List.not_mem_nil, or_false] at he
    rcases he with rfl
    · exact pV3_ok
    ) (by
    intro e he
    simp only [List.mem_cons, List.not_mem_nil, or_false] at he
    rcases he with rfl
    · exact q4015_ok
    ) (fuel := 100000) (n := 300) (me := 8) (fun g => by kernel_rfl)
theorem q4017_ok : HOk q4017 := h_ok (fs := []) (tab := []) (hs := [12]) (tah := [q4016]) (by simp) (by
    intro e he
    simp only [List.mem_cons, List.not_mem_nil, or_false] at he
    rcases he with rfl
    · exact q4016_ok
    ) (fuel := 100000) (n := 300) (me := 5) (fun g => by kernel_rfl)
end Go.Ab
