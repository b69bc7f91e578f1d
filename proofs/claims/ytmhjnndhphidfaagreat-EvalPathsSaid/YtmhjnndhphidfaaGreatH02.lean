/- Lemmas. -/
import Derived.Test.YtmhjnndhphidfaaGreatPH
import Derived.Test.YtmhjnndhphidfaaGreatPC5
import Derived.Test.YtmhjnndhphidfaaGreatPV3
namespace Go.Ab
set_option maxRecDepth 30000
set_option linter.unusedSimpArgs false
set_option linter.unusedVariables false
open Go.Proofs
noncomputable def q02O188 : Ob := .pr [[wI 0, .str []]]
noncomputable def q02E252 : NBO := (254, false, q02O188)
noncomputable def q02O189 : Ob := .cells [[.map 252, .p (wU 0)]]
noncomputable def q02E253 : NBO := (253, false, q02O189)
noncomputable def q02E254 : NBO := (252, false, qO182)
noncomputable def q02O190 : Ob := mch 0 2 (wH 0) 300 (.nils) 0
noncomputable def q02E255 : NBO := (5, true, q02O190)
noncomputable def q02O191 : Ob := .pr [[.fz [[wU 0], [wU 2], [wH 1]], .fz []]]
noncomputable def q02E256 : NBO := (1, true, q02O191)
noncomputable def q02L0 : HObjs := (setN q02E256 (setN q02E255 (app [q02E252, q02E253, q02E254] qL) 247) 253)
noncomputable def q020 : EntH := ⟨107, 255, q02L0, [.ptr 5 0 0, .ptr 253 0 0, .ptr 18 0 0], fun g => sg0, 255, fun g => (setN (5, mch 0 2 (wU (g 0)) 298 (.nils) 1) (setN (252, .pmap [(.str [105], wU 0)]) (mp g q02L0) 2) 247)⟩
noncomputable def q02E257 : NBO := (255, false, q02O188)
noncomputable def q02O192 : Ob := .pmap [(.str [105], wU 0)]
noncomputable def q02E258 : NBO := (252, false, q02O192)
noncomputable def q02O193 : Ob := mch 0 2 (wH 0) 298 (.nils) 1
noncomputable def q02E259 : NBO := (5, true, q02O193)
noncomputable def q02L1 : HObjs := (setN q02E259 (setN q02E258 (app [q02E257] q02L0) 3) 248)
noncomputable def q021 : EntH := ⟨107, 256, q02L1, [.ptr 5 0 0, .ptr 253 0 0, .ptr 19 0 0], fun g => sg0, 256, fun g => (setN (5, mch 0 2 (wU (g 0)) 296 (.nils) 2) (setN (252, .pmap [(.str [105], wU 0), (.str [106], wU 2)]) (mp g q02L1) 3) 248)⟩
noncomputable def q02E260 : NBO := (256, false, q02O188)
noncomputable def q02O194 : Ob := .pmap [(.str [105], wU 0), (.str [106], wU 2)]
noncomputable def q02E261 : NBO := (252, false, q02O194)
noncomputable def q02O195 : Ob := mch 0 2 (wH 0) 296 (.nils) 2
noncomputable def q02E262 : NBO := (5, true, q02O195)
noncomputable def q02L2 : HObjs := (setN q02E262 (setN q02E261 (app [q02E260] q02L1) 4) 249)
noncomputable def q022 : EntH := ⟨107, 257, q02L2, [.ptr 5 0 0, .ptr 253 0 0, .ptr 20 0 0], fun g => sg0, 257, fun g => (setN (5, mch 0 2 (wU (g 0)) 294 (.nils) 3) (setN (252, .pmap [(.str [105], wU 0), (.str [106], wU 2), (.str [118], wU (g 0))]) (mp g q02L2) 4) 249)⟩
noncomputable def q02E263 : NBO := (257, false, q02O188)
noncomputable def q02O196 : Ob := .pmap [(.str [105], wU 0), (.str [106], wU 2), (.str [118], wH 0)]
noncomputable def q02E264 : NBO := (252, true, q02O196)
noncomputable def q02O197 : Ob := mch 0 2 (wH 1) 294 (.nils) 3
noncomputable def q02E265 : NBO := (5, true, q02O197)
noncomputable def q02O198 : Ob := .pr [[.fz [[wU 0], [wU 2], [wH 2]], .fz []]]
noncomputable def q02E266 : NBO := (1, true, q02O198)
noncomputable def q02L3 : HObjs := (setN q02E266 (setN q02E265 (setN q02E264 (app [q02E263] q02L2) 5) 250) 256)
noncomputable def q023 : EntH := ⟨107, 258, q02L3, [.ptr 5 0 0, .ptr 253 0 0, .ptr 21 0 0], fun g => sg0, 258, fun g => (setN (7, .pr (setN [wB 66] (ramW []) 1)) (setN (5, mch 0 2 (wU (g 1)) 288 (.nils) 3) (mp g q02L3) 250) 254)⟩
noncomputable def q02E267 : NBO := (258, false, q02O188)
noncomputable def q02O199 : Ob := mch 0 2 (wH 1) 288 (.nils) 3
noncomputable def q02E268 : NBO := (5, true, q02O199)
noncomputable def q02O200 : Ob := .pr (ramW [(1, (.ofNat 66))])
noncomputable def q02E269 : NBO := (7, false, q02O200)
noncomputable def q02L4 : HObjs := (setN q02E269 (setN q02E268 (app [q02E267] q02L3) 251) 255)
noncomputable def q024 : EntH := ⟨107, 259, q02L4, [.ptr 5 0 0, .ptr 253 0 0, .ptr 22 0 0], fun g => sg0, 259, fun g => (setN (7, .pr (setN [wB (e8 (g 0))] (setN [wB (e8 (eShr (g 0) 8))] (ramW [(1, (.ofNat 66))]) 520) 519)) (setN (5, mch 0 2 (wU (g 1)) 281 (.nils) 3) (mp g q02L4) 251) 255)⟩
noncomputable def q02E270 : NBO := (259, false, q02O188)
noncomputable def q02O201 : Ob := mch 0 2 (wH 1) 281 (.nils) 3
noncomputable def q02E271 : NBO := (5, true, q02O201)
noncomputable def q02O202 : Ob := .pr (ramW [(1, (.ofNat 66)), (519, (.negSucc 2)), (520, (.negSucc 3))])
noncomputable def q02E272 : NBO := (7, true, q02O202)
noncomputable def q02O203 : Ob := .pr [[.fz [[wU 0], [wU 2], [wH 4]], .fz []]]
noncomputable def q02E273 : NBO := (1, true, q02O203)
noncomputable def q02L5 : HObjs := (setN q02E273 (setN q02E272 (setN q02E271 (app [q02E270] q02L4) 252) 256) 258)
noncomputable def q025 : EntH := ⟨107, 260, q02L5, [.ptr 5 0 0, .ptr 253 0 0, .ptr 23 0 0], fun g => sg0, 260, fun g => (setN (7, .pr (setN [wB 66] (mapL (mapL (inPV g 60)) (ramW [(1, (.ofNat 66)), (519, (.negSucc 2)), (520, (.negSucc 3))])) 513)) (setN (5, mch 0 2 (wU (g 1)) 276 (.nils) 3) (mp g q02L5) 252) 256)⟩
noncomputable def q02E274 : NBO := (260, false, q02O188)
noncomputable def q02O204 : Ob := mch 0 2 (wH 1) 276 (.nils) 3
noncomputable def q02E275 : NBO := (5, true, q02O204)
noncomputable def q02O205 : Ob := .pr (ramW [(1, (.ofNat 66)), (513, (.ofNat 66)), (519, (.negSucc 2)), (520, (.negSucc 3))])
noncomputable def q02E276 : NBO := (7, true, q02O205)
noncomputable def q02L6 : HObjs := (setN q02E276 (setN q02E275 (app [q02E274] q02L5) 253) 257)
noncomputable def q026 : EntH := ⟨107, 261, q02L6, [.ptr 5 0 0, .ptr 253 0 0, .ptr 24 0 0], fun g => sg0, 261, fun g => (setN (7, .pr (setN [wB (e8 (g 0))] (mapL (mapL (inPV g 60)) (ramW [(1, (.ofNat 66)), (513, (.ofNat 66)), (519, (.negSucc 2)), (520, (.negSucc 3))])) 514)) (setN (5, mch 0 2 (wU (g 1)) 271 (.nils) 3) (mp g q02L6) 253) 257)⟩
noncomputable def q02E277 : NBO := (261, false, q02O188)
noncomputable def q02O206 : Ob := mch 0 2 (wH 1) 271 (.nils) 3
noncomputable def q02E278 : NBO := (5, true, q02O206)
noncomputable def q02O207 : Ob := .pr (ramW [(1, (.ofNat 66)), (513, (.ofNat 66)), (514, (.negSucc 2)), (519, (.negSucc 3)), (520, (.negSucc 4))])
noncomputable def q02E279 : NBO := (7, true, q02O207)
noncomputable def q02O208 : Ob := .pr [[.fz [[wU 0], [wU 2], [wH 5]], .fz []]]
noncomputable def q02E280 : NBO := (1, true, q02O208)
noncomputable def q02L7 : HObjs := (setN q02E280 (setN q02E279 (setN q02E278 (app [q02E277] q02L6) 254) 258) 260)
noncomputable def q027 : EntH := ⟨107, 262, q02L7, [.ptr 5 0 0, .ptr 253 0 0, .ptr 25 0 0], fun g => sg0, 263, fun g => (setN (5, mch 0 2 (wU (g 1)) 264 (.row 262 2 0 1) 3) (app (sls [(261,1), (260,1), (259,1), (257,1), (256,1), (254,2), (258,1), (253,1), (252,1), (251,1), (250,1), (12,1), (11,1), (249,1), (248,1), (13,235), (10,1), (9,1), (8,1), (7,1), (6,1), (5,1), (4,1), (3,1), (2,1), (1,1), (0,1)] (mp g q02L7)) [(262, .pr [[wU 1, wU (eOr (e16 (g 3)) (eShl (e16 (g 4)) 8))]])]) 5)⟩
noncomputable def q02E281 : NBO := (263, false, q02O188)
noncomputable def q02O209 : Ob := .pr [[.fz [[wU 0], [wU 2], [wH 0]], .fz []]]
noncomputable def q02E282 : NBO := (1, true, q02O209)
noncomputable def q02O210 : Ob := mch 0 2 (wH 1) 264 (.row 262 2 0 1) 3
noncomputable def q02E283 : NBO := (5, true, q02O210)
noncomputable def q02O211 : Ob := .pmap [(.str [105], wU 0), (.str [106], wU 2), (.str [118], wH 5)]
noncomputable def q02E284 : NBO := (252, true, q02O211)
noncomputable def q02O212 : Ob := .pr [[wU 1, wH 6]]
noncomputable def q02E285 : NBO := (262, true, q02O212)
noncomputable def q02L8 : HObjs := (setN q02E284 (setN q02E283 (setN q02E282 (app [q02E281] (app (sls [(261,1), (260,1), (259,1), (257,1), (256,1), (254,2), (258,1), (253,1), (252,1), (251,1), (250,1), (12,1), (11,1), (249,1), (248,1), (13,235), (10,1), (9,1), (8,1), (7,1), (6,1), (5,1), (4,1), (3,1), (2,1), (1,1), (0,1)] q02L7) [q02E285])) 2) 6) 253)
noncomputable def q028 : EntH := ⟨107, 264, q02L8, [.ptr 5 0 0, .ptr 253 0 0, .ptr 26 0 0], fun g => sg0, 265, fun g => (setN (262, .dead) (setN (5, mch 0 2 (wU (g 1)) 256 (.row 264 2 0 2) 3) (app (sls [(1,263), (0,1)] (mp g q02L8)) [(264, .pr [[wU 1, wU (g 6)], [wU 1, wU (eOr (e16 (g 3)) (eShl (e16 (g 4)) 8))]])]) 5) 262)⟩
noncomputable def q02E286 : NBO := (265, false, q02O188)
noncomputable def q02O213 : Ob := mch 0 2 (wH 1) 256 (.row 264 2 0 2) 3
noncomputable def q02E287 : NBO := (5, true, q02O213)
noncomputable def q02O214 : Ob := .dead
noncomputable def q02E288 : NBO := (262, false, q02O214)
noncomputable def q02O215 : Ob := .pr [[wU 1, wH 6], [wU 1, wH 7]]
noncomputable def q02E289 : NBO := (264, true, q02O215)
noncomputable def q02L9 : HObjs := (setN q02E288 (setN q02E287 (app [q02E286] (app (sls [(1,263), (0,1)] q02L8) [q02E289])) 6) 263)
noncomputable def q029 : EntH := ⟨107, 266, q02L9, [.ptr 5 0 0, .ptr 253 0 0, .ptr 27 0 0], fun g => sg0, 267, fun g => (setN (264, .dead) (setN (5, mch 0 2 (wU (g 1)) 248 (.row 266 2 0 3) 3) (app (sls [(1,265), (0,1)] (mp g q02L9)) [(266, .pr [[wU 1, wU (g 6)], [wU 1, wU (g 7)], [wU 1, wU 16903]])]) 5) 264)⟩
noncomputable def q02E290 : NBO := (267, false, q02O188)
noncomputable def q02O216 : Ob := mch 0 2 (wH 1) 248 (.row 266 2 0 3) 3
noncomputable def q02E291 : NBO := (5, true, q02O216)
noncomputable def q02E292 : NBO := (264, false, q02O214)
noncomputable def q02O217 : Ob := .pr [[wU 1, wH 6], [wU 1, wH 7], [wU 1, wU 16903]]
noncomputable def q02E293 : NBO := (266, true, q02O217)
noncomputable def q02L10 : HObjs := (setN q02E292 (setN q02E291 (app [q02E290] (app (sls [(1,265), (0,1)] q02L9) [q02E293])) 6) 265)
noncomputable def q0210 : EntH := ⟨107, 268, q02L10, [.ptr 5 0 0, .ptr 253 0 0, .ptr 28 0 0], fun g => sg0, 269, fun g => (setN (266, .dead) (setN (5, mch 0 2 (wU (g 1)) 239 (.row 268 2 0 4) 3) (app (sls [(1,267), (0,1)] (mp g q02L10)) [(268, .pr [[wU 1, wU (g 6)], [wU 1, wU (g 7)], [wU 1, wU 16903], [wU 1, wU 1]])]) 5) 266)⟩
noncomputable def q02E294 : NBO := (269, false, q02O188)
noncomputable def q02O218 : Ob := mch 0 2 (wH 1) 239 (.row 268 2 0 4) 3
noncomputable def q02E295 : NBO := (5, true, q02O218)
noncomputable def q02E296 : NBO := (266, false, q02O214)
noncomputable def q02O219 : Ob := .pr [[wU 1, wH 6], [wU 1, wH 7], [wU 1, wU 16903], [wU 1, wU 1]]
noncomputable def q02E297 : NBO := (268, true, q02O219)
noncomputable def q02L11 : HObjs := (setN q02E296 (setN q02E295 (app [q02E294] (app (sls [(1,267), (0,1)] q02L10) [q02E297])) 6) 267)
noncomputable def q0211 : EntH := ⟨107, 270, q02L11, [.ptr 5 0 0, .ptr 253 0 0, .ptr 29 0 0], fun g => sg0, 271, fun g => (setN (268, .dead) (setN (5, mch 0 2 (wU (g 1)) 233 (.row 270 2 0 5) 3) (app (sls [(1,269), (0,1)] (mp g q02L11)) [(270, .pr [[wU 1, wU (g 6)], [wU 1, wU (g 7)], [wU 1, wU 16903], [wU 1, wU 1], [wU 1, wU 0]])]) 5) 268)⟩
noncomputable def q02E298 : NBO := (271, false, q02O188)
noncomputable def q02O220 : Ob := mch 0 2 (wH 1) 233 (.row 270 2 0 5) 3
noncomputable def q02E299 : NBO := (5, true, q02O220)
noncomputable def q02E300 : NBO := (268, false, q02O214)
noncomputable def q02O221 : Ob := .pr [[wU 1, wH 6], [wU 1, wH 7], [wU 1, wU 16903], [wU 1, wU 1], [wU 1, wU 0]]
noncomputable def q02E301 : NBO := (270, true, q02O221)
noncomputable def q02L12 : HObjs := (setN q02E300 (setN q02E299 (app [q02E298] (app (sls [(1,269), (0,1)] q02L11) [q02E301])) 6) 269)
noncomputable def q0212 : EntH := ⟨107, 272, q02L12, [.ptr 5 0 0, .ptr 253 0 0, .ptr 30 0 0], fun g => sg0, 273, fun g => (setN (270, .dead) (setN (5, mch 0 2 (wU (g 1)) 228 (.row 272 2 0 6) 3) (app (sls [(1,271), (0,1)] (mp g q02L12)) [(272, .pr [[wU 1, wU (g 6)], [wU 1, wU (g 7)], [wU 1, wU 16903], [wU 1, wU 1], [wU 1, wU 0], [wU 1, wU (e16 (g 2))]])]) 5) 270)⟩
noncomputable def q02L13 : HObjs := (setN q02E256 (setN qE248 (setN q02E255 (setN q02E254 (sls [(254,1), (253,1), (252,1), (14,1), (13,1), (17,235), (16,1), (15,1), (12,1), (11,1), (10,1), (9,1), (6,2), (5,1), (4,1), (8,1), (3,1), (2,1), (1,1)] q02L12) 1) 246) 250) 252)
noncomputable def q0213 : EntH := ⟨109, 254, q02L13, [.ptr 5 0 0, .ptr 253 0 0, .ptr 16 0 0], fun g => sg0, 255, fun g => (setN (252, .pmap [(.str [105], wU 0), (.str [106], wU 2), (.str [118], wU (g 0))]) (setN (7, .pr (setN [wB 66] (setN [wB 66] (setN [wB (e8 (g 0))] (setN [wB (e8 (g 0))] (setN [wB (e8 (eShr (g 0) 8))] (ramW []) 520) 519) 514) 513) 1)) (setN (5, mch 0 2 (wU (g 0)) 228 (.row 254 2 0 6) 3) (app (sls [(253,1), (252,1), (251,1), (249,1), (248,1), (246,2), (250,1), (245,1), (244,1), (243,1), (242,1), (4,1), (3,1), (241,1), (240,1), (5,235), (2,1), (1,1), (0,1)] (mp g q02L13)) [(254, .pr [[wU 1, wU (eOr (e16 (e8 (g 0))) (eShl (e16 (e8 (eShr (g 0) 8))) 8))], [wU 1, wU (eOr (e16 (e8 (g 0))) (eShl (e16 (e8 (eShr (g 0) 8))) 8))], [wU 1, wU 16903], [wU 1, wU 1], [wU 1, wU 0], [wU 1, wU (e16 (e8 (g 0)))]])]) 5) 7) 252)⟩
noncomputable def q02L14 : HObjs := (sls [(2,252)] q02L13)
noncomputable def q0214 : EntH := ⟨47, 252, q02L14, [.ptr 5 0 0, .ptr 11 0 0, .p (.fz [])], fun g => .p (wU 0), 253, fun g => (setN (7, .pr (setN [wB 66] (setN [wB 66] (setN [wB (e8 (g 0))] (setN [wB (e8 (g 0))] (setN [wB (e8 (eShr (g 0) 8))] (ramW []) 520) 519) 514) 513) 1)) (setN (5, mch 0 2 (wU (g 0)) 228 (.row 252 2 0 6) 3) (app (sls [(251,1), (250,1), (249,1), (247,1), (246,1), (244,2), (248,1), (243,1), (242,1), (241,1), (240,1), (2,1), (1,1), (239,1), (238,1), (3,235), (0,1)] (mp g q02L14)) [(252, .pr [[wU 1, wU (eOr (e16 (e8 (g 0))) (eShl (e16 (e8 (eShr (g 0) 8))) 8))], [wU 1, wU (eOr (e16 (e8 (g 0))) (eShl (e16 (e8 (eShr (g 0) 8))) 8))], [wU 1, wU 16903], [wU 1, wU 1], [wU 1, wU 0], [wU 1, wU (e16 (e8 (g 0)))]])]) 5) 7)⟩
noncomputable def q0215 : EntH := ⟨17, 0, [], [.p (.agg [qV0, qV1, qV11]), .p (.str [109,97,105,110]), .p (.fz []), .p (.str []), .p (.agg [.fz [[wU 0], [wU 2], [wH 0]], .fz []]), .p (wI 300)], fun g => .p (.agg [wU 0, .fz [[wU 1, wU (eOr (e16 (e8 (g 0))) (eShl (e16 (e8 (eShr (g 0) 8))) 8))], [wU 1, wU (eOr (e16 (e8 (g 0))) (eShl (e16 (e8 (eShr (g 0) 8))) 8))], [wU 1, wU 16903], [wU 1, wU 1], [wU 1, wU 0], [wU 1, wU (e16 (e8 (g 0)))]], wI 6, wU 0, .str (strW [(1,66), (513,66), (514, e8 (e8 (g 0))), (519, e8 (e8 (g 0))), (520, e8 (e8 (eShr (g 0) 8)))]), wI 3, wI 0]), 0, fun g => []⟩
noncomputable def q0216 : EntH := ⟨12, 0, [], [.p (.agg [qV0, qV1, qV11]), .p (.str [109,97,105,110]), .p (.fz []), .p (.str []), .p (.agg [.fz [[wU 0], [wU 2], [wH 0]], .fz []]), .p (wI 300)], fun g => .p (.agg [wU 0, .fz [[wU 1, wU (eOr (e16 (e8 (g 0))) (eShl (e16 (e8 (eShr (g 0) 8))) 8))], [wU 1, wU (eOr (e16 (e8 (g 0))) (eShl (e16 (e8 (eShr (g 0) 8))) 8))], [wU 1, wU 16903], [wU 1, wU 1], [wU 1, wU 0], [wU 1, wU (e16 (e8 (g 0)))]], wI 6, wU 0, .str (strW [(1,66), (513,66), (514, e8 (e8 (g 0))), (519, e8 (e8 (g 0))), (520, e8 (e8 (eShr (g 0) 8)))]), wI 3, wI 0]), 0, fun g => []⟩
noncomputable def q0217 : EntH := ⟨8, 0, [], [.p (.agg [qV0, qV1, qV11]), .p (.agg [.fz [[wU 0], [wU 2], [wH 0]], .fz []]), .p (wI 300)], fun g => .p (.agg [wU 0, .fz [[wU 1, wU (eOr (e16 (e8 (g 0))) (eShl (e16 (e8 (eShr (g 0) 8))) 8))], [wU 1, wU (eOr (e16 (e8 (g 0))) (eShl (e16 (e8 (eShr (g 0) 8))) 8))], [wU 1, wU 16903], [wU 1, wU 1], [wU 1, wU 0], [wU 1, wU (e16 (e8 (g 0)))]], wI 6, wU 0, .str (strW [(1,66), (513,66), (514, e8 (e8 (g 0))), (519, e8 (e8 (g 0))), (520, e8 (e8 (eShr (g 0) 8)))]), wI 3, wI 0]), 0, fun g => []⟩
theorem q020_ok : HOk q020 := h1_ok (fun g => by kernel_rfl)
theorem q021_ok : HOk q021 := h1_ok (fun g => by kernel_rfl)
theorem q022_ok : HOk q022 := h1_ok (fun g => by kernel_rfl)
theorem q023_ok : HOk q023 := h1_ok (fun g => by kernel_rfl)
theorem q024_ok : HOk q024 := h1_ok (fun g => by kernel_rfl)
theorem q025_ok : HOk q025 := h1_ok (fun g => by kernel_rfl)
theorem q026_ok : HOk q026 := h1_ok (fun g => by kernel_rfl)
theorem q027_ok : HOk q027 := h1_ok (fun g => by kernel_rfl)
theorem q028_ok : HOk q028 := h1_ok (fun g => by kernel_rfl)
theorem q029_ok : HOk q029 := h1_ok (fun g => by kernel_rfl)
theorem q0210_ok : HOk q0210 := h1_ok (fun g => by kernel_rfl)
theorem q0211_ok : HOk q0211 := h1_ok (fun g => by kernel_rfl)
theorem q0212_ok : HOk q0212 := h1_ok (fun g => by kernel_rfl)
theorem q0213_ok : HOk q0213 := h_ok (fs := []) (tab := []) (hs := [107]) (tah := [q020, q021, q022, q023, q024, q025, q026, q027, q028, q029, q0210, q0211, q0212]) (by simp) (by
    intro e he
    simp only [List.mem_cons, List.not_mem_nil, or_false] at he
    rcases he with rfl | rfl | rfl | rfl | rfl | rfl | rfl | rfl | rfl | rfl | rfl | rfl | rfl
    · exact q020_ok
    · exact q021_ok
    · exact q022_ok
    · exact q023_ok
    · exact q024_ok
    · exact q025_ok
    · exact q026_ok
    · exact q027_ok
    · exact q028_ok
    · exact q029_ok
    · exact q0210_ok
    · exact q0211_ok
    · exact q0212_ok
    ) (fuel := 100000) (n := 300) (me := 47) (fun g => by kernel_rfl)
theorem q0214_ok : HOk q0214 := h_ok (fs := []) (tab := []) (hs := [109]) (tah := [q0213]) (by simp) (by
    intro e he
    simp only [List.mem_cons, List.not_mem_nil, or_false] at he
    rcases he with rfl
    · exact q0213_ok
    ) (fuel := 100000) (n := 300) (me := 17) (fun g => by kernel_rfl)
theorem q0215_ok : HOk q0215 := h_ok (fs := [44]) (tab := [pC13]) (hs := [47]) (tah := [q0214]) (by
    intro e he
    simp only [List.mem_cons, List.not_mem_nil, or_false] at he
    rcases he with rfl
    · exact pC13_ok
    ) (by
    intro e he
    simp only [List.mem_cons, List.not_mem_nil, or_false] at he
    rcases he with rfl
    · exact q0214_ok
    ) (fuel := 100000) (n := 300) (me := 12) (fun g => by kernel_rfl)
theorem q0216_ok : HOk q0216 := h_ok (fs := [16]) (tab := [pV3]) (hs := [17]) (tah := [q0215]) (by
    intro e he
    simp only [List.mem_cons, List.not_mem_nil, or_false] at he
    rcases he with rfl
    · exact pV3_ok
    ) (by
    intro e he
    simp only [List.mem_cons, List.not_mem_nil, or_false] at he
    rcases he with rfl
    · exact q0215_ok
    ) (fuel := 100000) (n := 300) (me := 8) (fun g => by kernel_rfl)
theorem q0217_ok : HOk q0217 := h_ok (fs := []) (tab := []) (hs := [12]) (tah := [q0216]) (by simp) (by
    intro e he
    simp only [List.mem_cons, List.not_mem_nil, or_false] at he
    rcases he with rfl
    · exact q0216_ok
    ) (fuel := 100000) (n := 300) (me := 5) (fun g => by kernel_rfl)
end Go.Ab
