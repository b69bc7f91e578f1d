/- Lemmas. -/
import Derived.Test.YtmhjnndhphidfaaGreatPH
import Derived.Test.YtmhjnndhphidfaaGreatPC5
import Derived.Test.YtmhjnndhphidfaaGreatPV3
namespace Go.Ab
set_option maxRecDepth 30000
set_option linter.unusedSimpArgs false
set_option linter.unusedVariables false
open Go.Proofs
noncomputable def q01O188 : Ob := .pr [[wI 0, .str []]]
noncomputable def q01E252 : NBO := (254, false, q01O188)
noncomputable def q01O189 : Ob := .cells [[.map 252, .p (wU 0)]]
noncomputable def q01E253 : NBO := (253, false, q01O189)
noncomputable def q01E254 : NBO := (252, false, qO182)
noncomputable def q01O190 : Ob := mch 0 1 (wH 0) 300 (.nils) 0
noncomputable def q01E255 : NBO := (5, true, q01O190)
noncomputable def q01O191 : Ob := .pr [[.fz [[wU 0], [wU 1], [wH 1]], .fz []]]
noncomputable def q01E256 : NBO := (1, true, q01O191)
noncomputable def q01L0 : HObjs := (setN q01E256 (setN q01E255 (app [q01E252, q01E253, q01E254] qL) 247) 253)
noncomputable def q010 : EntH := ⟨107, 255, q01L0, [.ptr 5 0 0, .ptr 253 0 0, .ptr 18 0 0], fun g => sg0, 255, fun g => (setN (5, mch 0 1 (wU (g 0)) 298 (.nils) 1) (setN (252, .pmap [(.str [105], wU 0)]) (mp g q01L0) 2) 247)⟩
noncomputable def q01E257 : NBO := (255, false, q01O188)
noncomputable def q01O192 : Ob := .pmap [(.str [105], wU 0)]
noncomputable def q01E258 : NBO := (252, false, q01O192)
noncomputable def q01O193 : Ob := mch 0 1 (wH 0) 298 (.nils) 1
noncomputable def q01E259 : NBO := (5, true, q01O193)
noncomputable def q01L1 : HObjs := (setN q01E259 (setN q01E258 (app [q01E257] q01L0) 3) 248)
noncomputable def q011 : EntH := ⟨107, 256, q01L1, [.ptr 5 0 0, .ptr 253 0 0, .ptr 19 0 0], fun g => sg0, 256, fun g => (setN (5, mch 0 1 (wU (g 0)) 296 (.nils) 2) (setN (252, .pmap [(.str [105], wU 0), (.str [106], wU 1)]) (mp g q01L1) 3) 248)⟩
noncomputable def q01E260 : NBO := (256, false, q01O188)
noncomputable def q01O194 : Ob := .pmap [(.str [105], wU 0), (.str [106], wU 1)]
noncomputable def q01E261 : NBO := (252, false, q01O194)
noncomputable def q01O195 : Ob := mch 0 1 (wH 0) 296 (.nils) 2
noncomputable def q01E262 : NBO := (5, true, q01O195)
noncomputable def q01L2 : HObjs := (setN q01E262 (setN q01E261 (app [q01E260] q01L1) 4) 249)
noncomputable def q012 : EntH := ⟨107, 257, q01L2, [.ptr 5 0 0, .ptr 253 0 0, .ptr 20 0 0], fun g => sg0, 257, fun g => (setN (5, mch 0 1 (wU (g 0)) 294 (.nils) 3) (setN (252, .pmap [(.str [105], wU 0), (.str [106], wU 1), (.str [118], wU (g 0))]) (mp g q01L2) 4) 249)⟩
noncomputable def q01E263 : NBO := (257, false, q01O188)
noncomputable def q01O196 : Ob := .pmap [(.str [105], wU 0), (.str [106], wU 1), (.str [118], wH 0)]
noncomputable def q01E264 : NBO := (252, true, q01O196)
noncomputable def q01O197 : Ob := mch 0 1 (wH 1) 294 (.nils) 3
noncomputable def q01E265 : NBO := (5, true, q01O197)
noncomputable def q01O198 : Ob := .pr [[.fz [[wU 0], [wU 1], [wH 2]], .fz []]]
noncomputable def q01E266 : NBO := (1, true, q01O198)
noncomputable def q01L3 : HObjs := (setN q01E266 (setN q01E265 (setN q01E264 (app [q01E263] q01L2) 5) 250) 256)
noncomputable def q013 : EntH := ⟨107, 258, q01L3, [.ptr 5 0 0, .ptr 253 0 0, .ptr 21 0 0], fun g => sg0, 258, fun g => (setN (7, .pr (setN [wB 66] (ramW []) 1)) (setN (5, mch 0 1 (wU (g 1)) 288 (.nils) 3) (mp g q01L3) 250) 254)⟩
noncomputable def q01E267 : NBO := (258, false, q01O188)
noncomputable def q01O199 : Ob := mch 0 1 (wH 1) 288 (.nils) 3
noncomputable def q01E268 : NBO := (5, true, q01O199)
noncomputable def q01O200 : Ob := .pr (ramW [(1, (.ofNat 66))])
noncomputable def q01E269 : NBO := (7, false, q01O200)
noncomputable def q01L4 : HObjs := (setN q01E269 (setN q01E268 (app [q01E267] q01L3) 251) 255)
noncomputable def q014 : EntH := ⟨107, 259, q01L4, [.ptr 5 0 0, .ptr 253 0 0, .ptr 22 0 0], fun g => sg0, 259, fun g => (setN (7, .pr (setN [wB (e8 (g 0))] (setN [wB (e8 (eShr (g 0) 8))] (ramW [(1, (.ofNat 66))]) 518) 517)) (setN (5, mch 0 1 (wU (g 1)) 281 (.nils) 3) (mp g q01L4) 251) 255)⟩
noncomputable def q01E270 : NBO := (259, false, q01O188)
noncomputable def q01O201 : Ob := mch 0 1 (wH 1) 281 (.nils) 3
noncomputable def q01E271 : NBO := (5, true, q01O201)
noncomputable def q01O202 : Ob := .pr (ramW [(1, (.ofNat 66)), (517, (.negSucc 2)), (518, (.negSucc 3))])
noncomputable def q01E272 : NBO := (7, true, q01O202)
noncomputable def q01O203 : Ob := .pr [[.fz [[wU 0], [wU 1], [wH 4]], .fz []]]
noncomputable def q01E273 : NBO := (1, true, q01O203)
noncomputable def q01L5 : HObjs := (setN q01E273 (setN q01E272 (setN q01E271 (app [q01E270] q01L4) 252) 256) 258)
noncomputable def q015 : EntH := ⟨107, 260, q01L5, [.ptr 5 0 0, .ptr 253 0 0, .ptr 23 0 0], fun g => sg0, 260, fun g => (setN (7, .pr (setN [wB 66] (mapL (mapL (inPV g 60)) (ramW [(1, (.ofNat 66)), (517, (.negSucc 2)), (518, (.negSucc 3))])) 513)) (setN (5, mch 0 1 (wU (g 1)) 276 (.nils) 3) (mp g q01L5) 252) 256)⟩
noncomputable def q01E274 : NBO := (260, false, q01O188)
noncomputable def q01O204 : Ob := mch 0 1 (wH 1) 276 (.nils) 3
noncomputable def q01E275 : NBO := (5, true, q01O204)
noncomputable def q01O205 : Ob := .pr (ramW [(1, (.ofNat 66)), (513, (.ofNat 66)), (517, (.negSucc 2)), (518, (.negSucc 3))])
noncomputable def q01E276 : NBO := (7, true, q01O205)
noncomputable def q01L6 : HObjs := (setN q01E276 (setN q01E275 (app [q01E274] q01L5) 253) 257)
noncomputable def q016 : EntH := ⟨107, 261, q01L6, [.ptr 5 0 0, .ptr 253 0 0, .ptr 24 0 0], fun g => sg0, 261, fun g => (setN (7, .pr (setN [wB (e8 (g 0))] (mapL (mapL (inPV g 60)) (ramW [(1, (.ofNat 66)), (513, (.ofNat 66)), (517, (.negSucc 2)), (518, (.negSucc 3))])) 514)) (setN (5, mch 0 1 (wU (g 1)) 271 (.nils) 3) (mp g q01L6) 253) 257)⟩
noncomputable def q01E277 : NBO := (261, false, q01O188)
noncomputable def q01O206 : Ob := mch 0 1 (wH 1) 271 (.nils) 3
noncomputable def q01E278 : NBO := (5, true, q01O206)
noncomputable def q01O207 : Ob := .pr (ramW [(1, (.ofNat 66)), (513, (.ofNat 66)), (514, (.negSucc 2)), (517, (.negSucc 3)), (518, (.negSucc 4))])
noncomputable def q01E279 : NBO := (7, true, q01O207)
noncomputable def q01O208 : Ob := .pr [[.fz [[wU 0], [wU 1], [wH 5]], .fz []]]
noncomputable def q01E280 : NBO := (1, true, q01O208)
noncomputable def q01L7 : HObjs := (setN q01E280 (setN q01E279 (setN q01E278 (app [q01E277] q01L6) 254) 258) 260)
noncomputable def q017 : EntH := ⟨107, 262, q01L7, [.ptr 5 0 0, .ptr 253 0 0, .ptr 25 0 0], fun g => sg0, 263, fun g => (setN (5, mch 0 1 (wU (g 1)) 264 (.row 262 2 0 1) 3) (app (sls [(261,1), (260,1), (259,1), (257,1), (256,1), (254,2), (258,1), (253,1), (252,1), (251,1), (250,1), (12,1), (11,1), (249,1), (248,1), (13,235), (10,1), (9,1), (8,1), (7,1), (6,1), (5,1), (4,1), (3,1), (2,1), (1,1), (0,1)] (mp g q01L7)) [(262, .pr [[wU 1, wU (eOr (e16 (g 3)) (eShl (e16 (g 4)) 8))]])]) 5)⟩
noncomputable def q01E281 : NBO := (263, false, q01O188)
noncomputable def q01O209 : Ob := .pr [[.fz [[wU 0], [wU 1], [wH 0]], .fz []]]
noncomputable def q01E282 : NBO := (1, true, q01O209)
noncomputable def q01O210 : Ob := mch 0 1 (wH 1) 264 (.row 262 2 0 1) 3
noncomputable def q01E283 : NBO := (5, true, q01O210)
noncomputable def q01O211 : Ob := .pmap [(.str [105], wU 0), (.str [106], wU 1), (.str [118], wH 5)]
noncomputable def q01E284 : NBO := (252, true, q01O211)
noncomputable def q01O212 : Ob := .pr [[wU 1, wH 6]]
noncomputable def q01E285 : NBO := (262, true, q01O212)
noncomputable def q01L8 : HObjs := (setN q01E284 (setN q01E283 (setN q01E282 (app [q01E281] (app (sls [(261,1), (260,1), (259,1), (257,1), (256,1), (254,2), (258,1), (253,1), (252,1), (251,1), (250,1), (12,1), (11,1), (249,1), (248,1), (13,235), (10,1), (9,1), (8,1), (7,1), (6,1), (5,1), (4,1), (3,1), (2,1), (1,1), (0,1)] q01L7) [q01E285])) 2) 6) 253)
noncomputable def q018 : EntH := ⟨107, 264, q01L8, [.ptr 5 0 0, .ptr 253 0 0, .ptr 26 0 0], fun g => sg0, 265, fun g => (setN (262, .dead) (setN (5, mch 0 1 (wU (g 1)) 256 (.row 264 2 0 2) 3) (app (sls [(1,263), (0,1)] (mp g q01L8)) [(264, .pr [[wU 1, wU (g 6)], [wU 1, wU (eOr (e16 (g 3)) (eShl (e16 (g 4)) 8))]])]) 5) 262)⟩
noncomputable def q01E286 : NBO := (265, false, q01O188)
noncomputable def q01O213 : Ob := mch 0 1 (wH 1) 256 (.row 264 2 0 2) 3
noncomputable def q01E287 : NBO := (5, true, q01O213)
noncomputable def q01O214 : Ob := .dead
noncomputable def q01E288 : NBO := (262, false, q01O214)
noncomputable def q01O215 : Ob := .pr [[wU 1, wH 6], [wU 1, wH 7]]
noncomputable def q01E289 : NBO := (264, true, q01O215)
noncomputable def q01L9 : HObjs := (setN q01E288 (setN q01E287 (app [q01E286] (app (sls [(1,263), (0,1)] q01L8) [q01E289])) 6) 263)
noncomputable def q019 : EntH := ⟨107, 266, q01L9, [.ptr 5 0 0, .ptr 253 0 0, .ptr 27 0 0], fun g => sg0, 267, fun g => (setN (264, .dead) (setN (5, mch 0 1 (wU (g 1)) 248 (.row 266 2 0 3) 3) (app (sls [(1,265), (0,1)] (mp g q01L9)) [(266, .pr [[wU 1, wU (g 6)], [wU 1, wU (g 7)], [wU 1, wU 16901]])]) 5) 264)⟩
noncomputable def q01E290 : NBO := (267, false, q01O188)
noncomputable def q01O216 : Ob := mch 0 1 (wH 1) 248 (.row 266 2 0 3) 3
noncomputable def q01E291 : NBO := (5, true, q01O216)
noncomputable def q01E292 : NBO := (264, false, q01O214)
noncomputable def q01O217 : Ob := .pr [[wU 1, wH 6], [wU 1, wH 7], [wU 1, wU 16901]]
noncomputable def q01E293 : NBO := (266, true, q01O217)
noncomputable def q01L10 : HObjs := (setN q01E292 (setN q01E291 (app [q01E290] (app (sls [(1,265), (0,1)] q01L9) [q01E293])) 6) 265)
noncomputable def q0110 : EntH := ⟨107, 268, q01L10, [.ptr 5 0 0, .ptr 253 0 0, .ptr 28 0 0], fun g => sg0, 269, fun g => (setN (266, .dead) (setN (5, mch 0 1 (wU (g 1)) 239 (.row 268 2 0 4) 3) (app (sls [(1,267), (0,1)] (mp g q01L10)) [(268, .pr [[wU 1, wU (g 6)], [wU 1, wU (g 7)], [wU 1, wU 16901], [wU 1, wU 1]])]) 5) 266)⟩
noncomputable def q01E294 : NBO := (269, false, q01O188)
noncomputable def q01O218 : Ob := mch 0 1 (wH 1) 239 (.row 268 2 0 4) 3
noncomputable def q01E295 : NBO := (5, true, q01O218)
noncomputable def q01E296 : NBO := (266, false, q01O214)
noncomputable def q01O219 : Ob := .pr [[wU 1, wH 6], [wU 1, wH 7], [wU 1, wU 16901], [wU 1, wU 1]]
noncomputable def q01E297 : NBO := (268, true, q01O219)
noncomputable def q01L11 : HObjs := (setN q01E296 (setN q01E295 (app [q01E294] (app (sls [(1,267), (0,1)] q01L10) [q01E297])) 6) 267)
noncomputable def q0111 : EntH := ⟨107, 270, q01L11, [.ptr 5 0 0, .ptr 253 0 0, .ptr 29 0 0], fun g => sg0, 271, fun g => (setN (268, .dead) (setN (5, mch 0 1 (wU (g 1)) 233 (.row 270 2 0 5) 3) (app (sls [(1,269), (0,1)] (mp g q01L11)) [(270, .pr [[wU 1, wU (g 6)], [wU 1, wU (g 7)], [wU 1, wU 16901], [wU 1, wU 1], [wU 1, wU 0]])]) 5) 268)⟩
noncomputable def q01E298 : NBO := (271, false, q01O188)
noncomputable def q01O220 : Ob := mch 0 1 (wH 1) 233 (.row 270 2 0 5) 3
noncomputable def q01E299 : NBO := (5, true, q01O220)
noncomputable def q01E300 : NBO := (268, false, q01O214)
noncomputable def q01O221 : Ob := .pr [[wU 1, wH 6], [wU 1, wH 7], [wU 1, wU 16901], [wU 1, wU 1], [wU 1, wU 0]]
noncomputable def q01E301 : NBO := (270, true, q01O221)
noncomputable def q01L12 : HObjs := (setN q01E300 (setN q01E299 (app [q01E298] (app (sls [(1,269), (0,1)] q01L11) [q01E301])) 6) 269)
noncomputable def q0112 : EntH := ⟨107, 272, q01L12, [.ptr 5 0 0, .ptr 253 0 0, .ptr 30 0 0], fun g => sg0, 273, fun g => (setN (270, .dead) (setN (5, mch 0 1 (wU (g 1)) 228 (.row 272 2 0 6) 3) (app (sls [(1,271), (0,1)] (mp g q01L12)) [(272, .pr [[wU 1, wU (g 6)], [wU 1, wU (g 7)], [wU 1, wU 16901], [wU 1, wU 1], [wU 1, wU 0], [wU 1, wU (e16 (g 2))]])]) 5) 270)⟩
noncomputable def q01L13 : HObjs := (setN q01E256 (setN qE248 (setN q01E255 (setN q01E254 (sls [(254,1), (253,1), (252,1), (14,1), (13,1), (17,235), (16,1), (15,1), (12,1), (11,1), (10,1), (9,1), (6,2), (5,1), (4,1), (8,1), (3,1), (2,1), (1,1)] q01L12) 1) 246) 250) 252)
noncomputable def q0113 : EntH := ⟨109, 254, q01L13, [.ptr 5 0 0, .ptr 253 0 0, .ptr 16 0 0], fun g => sg0, 255, fun g => (setN (252, .pmap [(.str [105], wU 0), (.str [106], wU 1), (.str [118], wU (g 0))]) (setN (7, .pr (setN [wB 66] (setN [wB 66] (setN [wB (e8 (g 0))] (setN [wB (e8 (g 0))] (setN [wB (e8 (eShr (g 0) 8))] (ramW []) 518) 517) 514) 513) 1)) (setN (5, mch 0 1 (wU (g 0)) 228 (.row 254 2 0 6) 3) (app (sls [(253,1), (252,1), (251,1), (249,1), (248,1), (246,2), (250,1), (245,1), (244,1), (243,1), (242,1), (4,1), (3,1), (241,1), (240,1), (5,235), (2,1), (1,1), (0,1)] (mp g q01L13)) [(254, .pr [[wU 1, wU (eOr (e16 (e8 (g 0))) (eShl (e16 (e8 (eShr (g 0) 8))) 8))], [wU 1, wU (eOr (e16 (e8 (g 0))) (eShl (e16 (e8 (eShr (g 0) 8))) 8))], [wU 1, wU 16901], [wU 1, wU 1], [wU 1, wU 0], [wU 1, wU (e16 (e8 (g 0)))]])]) 5) 7) 252)⟩
noncomputable def q01L14 : HObjs := (sls [(2,252)] q01L13)
noncomputable def q0114 : EntH := ⟨47, 252, q01L14, [.ptr 5 0 0, .ptr 11 0 0, .p (.fz [])], fun g => .p (wU 0), 253, fun g => (setN (7, .pr (setN [wB 66] (setN [wB 66] (setN [wB (e8 (g 0))] (setN [wB (e8 (g 0))] (setN [wB (e8 (eShr (g 0) 8))] (ramW []) 518) 517) 514) 513) 1)) (setN (5, mch 0 1 (wU (g 0)) 228 (.row 252 2 0 6) 3) (app (sls [(251,1), (250,1), (249,1), (247,1), (246,1), (244,2), (248,1), (243,1), (242,1), (241,1), (240,1), (2,1), (1,1), (239,1), (238,1), (3,235), (0,1)] (mp g q01L14)) [(252, .pr [[wU 1, wU (eOr (e16 (e8 (g 0))) (eShl (e16 (e8 (eShr (g 0) 8))) 8))], [wU 1, wU (eOr (e16 (e8 (g 0))) (eShl (e16 (e8 (eShr (g 0) 8))) 8))], [wU 1, wU 16901], [wU 1, wU 1], [wU 1, wU 0], [wU 1, wU (e16 (e8 (g 0)))]])]) 5) 7)⟩
noncomputable def q0115 : EntH := ⟨17, 0, [], [.p (.agg [qV0, qV1, qV11]), .p (.str [109,97,105,110]), .p (.fz []), .p (.str []), .p (.agg [.fz [[wU 0], [wU 1], [wH 0]], .fz []]), .p (wI 300)], fun g => .p (.agg [wU 0, .fz [[wU 1, wU (eOr (e16 (e8 (g 0))) (eShl (e16 (e8 (eShr (g 0) 8))) 8))], [wU 1, wU (eOr (e16 (e8 (g 0))) (eShl (e16 (e8 (eShr (g 0) 8))) 8))], [wU 1, wU 16901], [wU 1, wU 1], [wU 1, wU 0], [wU 1, wU (e16 (e8 (g 0)))]], wI 6, wU 0, .str (strW [(1,66), (513,66), (514, e8 (e8 (g 0))), (517, e8 (e8 (g 0))), (518, e8 (e8 (eShr (g 0) 8)))]), wI 3, wI 0]), 0, fun g => []⟩
noncomputable def q0116 : EntH := ⟨12, 0, [], [.p (.agg [qV0, qV1, qV11]), .p (.str [109,97,105,110]), .p (.fz []), .p (.str []), .p (.agg [.fz [[wU 0], [wU 1], [wH 0]], .fz []]), .p (wI 300)], fun g => .p (.agg [wU 0, .fz [[wU 1, wU (eOr (e16 (e8 (g 0))) (eShl (e16 (e8 (eShr (g 0) 8))) 8))], [wU 1, wU (eOr (e16 (e8 (g 0))) (eShl (e16 (e8 (eShr (g 0) 8))) 8))], [wU 1, wU 16901], [wU 1, wU 1], [wU 1, wU 0], [wU 1, wU (e16 (e8 (g 0)))]], wI 6, wU 0, .str (strW [(1,66), (513,66), (514, e8 (e8 (g 0))), (517, e8 (e8 (g 0))), (518, e8 (e8 (eShr (g 0) 8)))]), wI 3, wI 0]), 0, fun g => []⟩
noncomputable def q0117 : EntH := ⟨8, 0, [], [.p (.agg [qV0, qV1, qV11]), .p (.agg [.fz [[wU 0], [wU 1], [wH 0]], .fz []]), .p (wI 300)], fun g => .p (.agg [wU 0, .fz [[wU 1, wU (eOr (e16 (e8 (g 0))) (eShl (e16 (e8 (eShr (g 0) 8))) 8))], [wU 1, wU (eOr (e16 (e8 (g 0))) (eShl (e16 (e8 (eShr (g 0) 8))) 8))], [wU 1, wU 16901], [wU 1, wU 1], [wU 1, wU 0], [wU 1, wU (e16 (e8 (g 0)))]], wI 6, wU 0, .str (strW [(1,66), (513,66), (514, e8 (e8 (g 0))), (517, e8 (e8 (g 0))), (518, e8 (e8 (eShr (g 0) 8)))]), wI 3, wI 0]), 0, fun g => []⟩
theorem q010_ok : HOk q010 := h1_ok (fun g => by kernel_rfl)
theorem q011_ok : HOk q011 := h1_ok (fun g => by kernel_rfl)
theorem q012_ok : HOk q012 := h1_ok (fun g => by kernel_rfl)
theorem q013_ok : HOk q013 := h1_ok (fun g => by kernel_rfl)
theorem q014_ok : HOk q014 := h1_ok (fun g => by kernel_rfl)
theorem q015_ok : HOk q015 := h1_ok (fun g => by kernel_rfl)
theorem q016_ok : HOk q016 := h1_ok (fun g => by kernel_rfl)
theorem q017_ok : HOk q017 := h1_ok (fun g => by kernel_rfl)
theorem q018_ok : HOk q018 := h1_ok (fun g => by kernel_rfl)
theorem q019_ok : HOk q019 := h1_ok (fun g => by kernel_rfl)
theorem q0110_ok : HOk q0110 := h1_ok (fun g => by kernel_rfl)
theorem q0111_ok : HOk q0111 := h1_ok (fun g => by kernel_rfl)
theorem q0112_ok : HOk q0112 := h1_ok (fun g => by kernel_rfl)
theorem q0113_ok : HOk q0113 := h_ok (fs := []) (tab := []) (hs := [107]) (tah := [q010, q011, q012, q013, q014, q015, q016, q017, q018, q019, q0110, q0111, q0112]) (by simp) (by
    intro e he
    simp only [List.mem_cons, List.not_mem_nil, or_false] at he
    rcases he with rfl | rfl | rfl | rfl | rfl | rfl | rfl | rfl | rfl | rfl | rfl | rfl | rfl
    · exact q010_ok
    · exact q011_ok
    · exact q012_ok
    · exact q013_ok
    · exact q014_ok
    · exact q015_ok
    · exact q016_ok
    · exact q017_ok
    · exact q018_ok
    · exact q019_ok
    · exact q0110_ok
    · exact q0111_ok
    · exact q0112_ok
    ) (fuel := 100000) (n := 300) (me := 47) (fun g => by kernel_rfl)
theorem q0114_ok : HOk q0114 := h_ok (fs := []) (tab := []) (hs := [109]) (tah := [q0113]) (by simp) (by
    intro e he
    simp only [List.mem_cons, List.not_mem_nil, or_false] at he
    rcases he with rfl
    · exact q0113_ok
    ) (fuel := 100000) (n := 300) (me := 17) (fun g => by kernel_rfl)
theorem q0115_ok : HOk q0115 := h_ok (fs := [44]) (tab := [pC13]) (hs := [47]) (tah := [q0114]) (by
    intro e he
    simp only [List.mem_cons, List.not_mem_nil, or_false] at he
    rcases he with rfl
    · exact pC13_ok
    ) (by
    intro e he
    simp only [List.mem_cons, List.not_mem_nil, or_false] at he
    rcases he with rfl
    · exact q0114_ok
    ) (fuel := 100000) (n := 300) (me := 12) (fun g => by kernel_rfl)
theorem q0116_ok : HOk q0116 := h_ok (fs := [16]) (tab := [pV3]) (hs := [17]) (tah := [q0115]) (by
    intro e he
    simp only [List.mem_cons, List.not_mem_nil, or_false] at he
    rcases he with rfl
    · exact pV3_ok
    ) (by
    intro e he
    simp only [List.mem_cons, List.not_mem_nil, or_false] at he
    rcases he with rfl
    · exact q0115_ok
    ) (fuel := 100000) (n := 300) (me := 8) (fun g => by kernel_rfl)
theorem q0117_ok : HOk q0117 := h_ok (fs := []) (tab := []) (hs := [12]) (tah := [q0116]) (by simp) (by
    intro e he
    simp only [List.mem_cons, List.not_mem_nil, or_false] at he
    rcases he with rfl
    · exact q0116_ok
    ) (fuel := 100000) (n := 300) (me := 5) (fun g => by kernel_rfl)
end Go.Ab
