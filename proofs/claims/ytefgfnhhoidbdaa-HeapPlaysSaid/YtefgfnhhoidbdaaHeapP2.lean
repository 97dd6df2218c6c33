/- HeapPlays: an object for which there is room. -/
import Derived.Test.YtefgfnhhoidbdaaHeapP0
import Derived.Test.YtefgfnhhoidbdaaHE61
namespace Go.Proofs.Ytefgfnhhoidbdaa.HpW
open Go.RowKit Go.Proofs.YtefgfnhhoidbdaaW.PrintWords Go.Proofs.YtefgfnhhoidbdaaW.PrintLast Go.Proofs.Ytefgfnhhoidbdaa.H
attribute [local go_sem high] eqA61
set_option linter.unusedVariables false
set_option linter.unusedSimpArgs false
set_option maxHeartbeats 32000000 in
set_option maxRecDepth 100000 in
theorem c0y (u1 u2 u6 u8 u9 u11 u12 u13 u14 u15 u16 u17 u18 u19 u20 u21 u22 u23 u24 u25 u26 u27 u28 u29 u30 u31 u32 u33 u34 u35 u36 u37 u38 u39 u41 u42 u43 u44 u45 u46 u47 u48 u49 u50 u51 u52 u53 u54 u55 u56 u57 u58 u59 u60 u61 u62 u63 u64 u65 u66 u67 u68 u69 u70 u71 u72 u73 u74 u75 u76 u77 u78 u79 u80 u81 u82 u83 u84 u85 u86 u87 u88 u89 u90 u91 u93 u94 u95 u96 u97 u98 u99 u100 u101 u102 u103 u104 u105 u106 u107 u108 u109 u110 u111 u112 u113 u114 u115 u116 u117 u118 u119 u120 u121 u122 u123 u124 u125 u126 u127 u128 u129 u130 u131 u132 u133 u134 u135 u136 u137 u138 u139 u140 u141 u142 u143 u144 u145 u146 u147 u148 u149 u150 u151 u152 u153 u154 u155 u156 u157 u158 u159 u160 u161 u162 u163 u164 u165 u166 u167 u168 u169 u170 u171 u172 u173 u174 u175 u176 u177 u178 u179 u180 u181 u182 u183 u184 u185 u186 u187 u188 u189 u190 u191 u192 u193 u194 u195 u196 u197 u198 u199 u200 u201 u202 u203 u204 u205 u206 u207 u208 u209 u210 u211 u212 u213 u214 u215 u216 u217 u218 u219 u220 u221 u222 u223 u224 u225 u226 u227 u228 u229 u230 u231 u232 u233 u234 u235 u236 u237 u238 u239 u240 u241 u242 u243 u244 u245 u246 u247 u248 u249 u250 u251 u252 u253 u254 u255 u256 u257 u258 u259 u260 u261 u262 u263 u264 u265 u266 u267 u268 u269 u270 u271 u272 u273 u274 u275 u276 u277 u278 u279 u280 u281 u282 u283 u284 u285 u286 u287 u288 u289 u290 u291 u292 u293 u294 u295 u296 u297 u298 u299 u300 u301 u302 u303 u304 u305 u306 u307 u308 u309 u310 u311 u312 u313 u314 u315 u316 u317 u318 u319 u320 u321 u322 u323 u324 u325 u326 u327 u328 u329 u330 u331 u332 u333 u334 u335 u336 u337 u338 u339 u340 u341 u342 u343 u344 u345 u346 u347 u348 u349 u350 u351 u352 u353 u354 u355 u356 u357 u358 u359 u360 u361 u362 u363 u364 u365 u366 u367 u368 u369 u370 u371 u372 u373 u374 u375 u376 u377 u378 u379 u380 u381 u382 u383 u384 u385 u386 u387 u388 u389 u390 u391 u392 u393 u394 u395 u396 u397 u398 u399 u400 u401 u402 u403 u404 u405 u406 u407 u408 u409 u410 u411 u412 u413 u414 u415 u416 u417 v0 : Value) (K K5 K6 : Act → World → Prop) (w0 wc : World) (g go : Nat) (O P : Nat → Prop) (lv : Value) (Aa : Option Addr) (ca : Nat) (cs : List S105) (n : Int) (x : S63) (A2 : Option Addr) (c2 i : Nat) (bt : Bool)
    (hlen : cs.length ≤ 40) (hn : 0 ≤ n ∧ n ≤ 65536) (hg : w0.heap.size ≤ g) (hgo : w0.heap.size ≤ go) (hb : Below w0.heap.size w0 wc) (hp : LP g w0.heap.size O P lv (.slice Aa cs.length ca) cs n wc) (hpo : ∀ k, O k ∨ P k → k ≠ go)
    (hob : wc.heap[go]? = some (.cells #[.int .i64 x.f0, .string x.f1, .slice A2 x.f2.length c2, .int .i64 x.f3.f0, .string x.f3.f1, .int .i64 x.f3.f2, .string x.f3.f3, .int .i64 x.f4, .int .i64 x.f5.f0, .int .i64 x.f5.f1, .string x.f5.f2, .int .i64 x.f6.f0, .int .i64 x.f6.f1, .string x.f6.f2] 63 (0, 0))) (hT : Kd.C k59 w0 A2 x.f2.length x.f2) (htl : x.f2.length ≤ 20) (hM : ∀ t ∈ x.f2, t.f3.size ≤ 1000000000) (hmk : x.f3.f3.size ≤ 50) (hbt : decide (isAt cs x.f5) = bt) (hr : n + (x.f2.length : Int) ≤ 65536)
    (hK : ∀ (z7 z9 z10 z11 z12 z13 z15 z16 z17 z18 z19 z20 z21 z41 z42 z43 z44 z45 z46 z47 z48 z49 z50 z51 z52 z53 z54 z55 z56 z57 z58 z59 z60 z61 z62 z63 z64 z65 z66 z67 z68 z69 z70 z71 z72 z73 z74 z75 z76 z77 z78 z79 z80 z81 z82 z83 z84 z85 z86 z87 z88 z89 z90 z91 z92 z93 z94 z95 z96 z97 z98 z99 z100 z101 z102 z103 z104 z105 z106 z107 z108 z109 z110 z111 z112 z113 z114 z115 z116 z117 z118 z119 z120 z121 z122 z123 z124 z125 z126 z127 z128 z129 z130 z131 z132 z133 z134 z135 z136 z137 z138 z139 z140 z141 z142 z143 z144 z145 z146 z147 z148 z149 z150 z151 z152 z153 z154 z155 z156 z157 z158 z159 z160 z161 z162 z163 z164 z165 z166 z167 z168 z169 z170 z171 z172 z173 z174 z175 z176 z177 z178 z179 z180 z181 z182 z183 z184 z185 z186 z187 z188 z189 z190 z191 z192 z193 z194 z195 z196 z197 z198 z199 z200 z201 z202 z203 z204 z205 z206 z207 z208 z209 z210 z211 z212 z213 z214 z215 z216 z217 z218 z219 z220 z221 z222 z223 z224 z225 z226 z227 z228 z229 z230 z231 z232 z233 z234 z235 z236 z237 z238 z239 z240 z241 z242 z243 z244 z245 z246 z247 z248 z249 z250 z251 z252 z253 z254 z255 z256 z257 z258 z259 z260 z261 z262 z263 z264 z265 z266 z267 z268 z269 z270 z271 z272 z273 z274 z275 z276 z277 z278 z279 z280 z281 z282 z283 z284 z285 z286 z287 z288 z289 z290 z291 z292 z293 z294 z295 z296 z297 z298 z299 z300 z301 z302 z303 z304 z305 z306 z307 z308 z309 z310 z311 z312 z313 z314 z315 z316 z317 z318 z319 z320 z321 z322 z323 z324 z325 z326 z327 z328 z329 z330 z331 : Value) (O1 P1 : Nat → Prop) (lv1 av : Value) (cs1 : List S105) (n1 : Int) (w' : World), Hid (cs1.length ≤ cs.length + 1 ∧ 0 ≤ n1 ∧ n1 ≤ 65536) → Aside0 (Below w0.heap.size w0 w') → Aside0 (LP g w0.heap.size O1 P1 lv1 av cs1 n1 w') → K ⟨#[v0, u1, u2, .pointer (some ⟨g, 0, none⟩), av, .int .i64 n1, u6, z7, u8, z9, z10, z11, z12, z13, u14, z15, z16, z17, z18, z19, z20, z21, u22, u23, u24, u25, u26, u27, u28, u29, u30, u31, u32, u33, u34, u35, u36, u37, u38, u39, .int .i64 (i : Int), z41, z42, z43, z44, z45, z46, z47, z48, z49, z50, z51, z52, z53, z54, z55, z56, z57, z58, z59, z60, z61, z62, z63, z64, z65, z66, z67, z68, z69, z70, z71, z72, z73, z74, z75, z76, z77, z78, z79, z80, z81, z82, z83, z84, z85, z86, z87, z88, z89, z90, z91, z92, z93, z94, z95, z96, z97, z98, z99, z100, z101, z102, z103, z104, z105, z106, z107, z108, z109, z110, z111, z112, z113, z114, z115, z116, z117, z118, z119, z120, z121, z122, z123, z124, z125, z126, z127, z128, z129, z130, z131, z132, z133, z134, z135, z136, z137, z138, z139, z140, z141, z142, z143, z144, z145, z146, z147, z148, z149, z150, z151, z152, z153, z154, z155, z156, z157, z158, z159, z160, z161, z162, z163, z164, z165, z166, z167, z168, z169, z170, z171, z172, z173, z174, z175, z176, z177, z178, z179, z180, z181, z182, z183, z184, z185, z186, z187, z188, z189, z190, z191, z192, z193, z194, z195, z196, z197, z198, z199, z200, z201, z202, z203, z204, z205, z206, z207, z208, z209, z210, z211, z212, z213, z214, z215, z216, z217, z218, z219, z220, z221, z222, z223, z224, z225, z226, z227, z228, z229, z230, z231, z232, z233, z234, z235, z236, z237, z238, z239, z240, z241, z242, z243, z244, z245, z246, z247, z248, z249, z250, z251, z252, z253, z254, z255, z256, z257, z258, z259, z260, z261, z262, z263, z264, z265, z266, z267, z268, z269, z270, z271, z272, z273, z274, z275, z276, z277, z278, z279, z280, z281, z282, z283, z284, z285, z286, z287, z288, z289, z290, z291, z292, z293, z294, z295, z296, z297, z298, z299, z300, z301, z302, z303, z304, z305, z306, z307, z308, z309, z310, z311, z312, z313, z314, z315, z316, z317, z318, z319, z320, z321, z322, z323, z324, z325, z326, z327, z328, z329, z330, z331, u332, u333, u334, u335, u336, u337, u338, u339, u340, u341, u342, u343, u344, u345, u346, u347, u348, u349, u350, u351, u352, u353, u354, u355, u356, u357, u358, u359, u360, u361, u362, u363, u364, u365, u366, u367, u368, u369, u370, u371, u372, u373, u374, u375, u376, u377, u378, u379, u380, u381, u382, u383, u384, u385, u386, u387, u388, u389, u390, u391, u392, u393, u394, u395, u396, u397, u398, u399, u400, u401, u402, u403, u404, u405, u406, u407, u408, u409, u410, u411, u412, u413, u414, u415, u416, u417], []⟩ w') :
    Code.wp Try.prog (cL (cR (cL (cR (cR (cR (cR (cR (cL (cL (cR (cR (cL (cL (cR (cL (cR (cR (cR (cR (cR (cR play)))))))))))))))))))))) (Exit.inBlock 4 (Exit.inBlock 1 (Exit.then K (Exit.then K5 (Exit.inBlock 0 (Exit.then K6 (bodyPost Try.prog Try.f7 fun e w' => e = .returned (.bool true) ∧ Below w0.heap.size w0 w'))))))) ⟨#[v0, u1, u2, .pointer (some ⟨g, 0, none⟩), .slice Aa cs.length ca, .int .i64 n, u6, .pointer (some ⟨go, 0, none⟩), u8, u9, .bool bt, u11, u12, u13, u14, u15, u16, u17, u18, u19, u20, u21, u22, u23, u24, u25, u26, u27, u28, u29, u30, u31, u32, u33, u34, u35, u36, u37, u38, u39, .int .i64 (i : Int), u41, u42, u43, u44, u45, u46, u47, u48, u49, u50, u51, u52, u53, u54, u55, u56, u57, u58, u59, u60, u61, u62, u63, u64, u65, u66, u67, u68, u69, u70, u71, u72, u73, u74, u75, u76, u77, u78, u79, u80, u81, u82, u83, u84, u85, u86, u87, u88, u89, u90, u91, .int .i64 x.f0, u93, u94, u95, u96, u97, u98, u99, u100, u101, u102, u103, u104, u105, u106, u107, u108, u109, u110, u111, u112, u113, u114, u115, u116, u117, u118, u119, u120, u121, u122, u123, u124, u125, u126, u127, u128, u129, u130, u131, u132, u133, u134, u135, u136, u137, u138, u139, u140, u141, u142, u143, u144, u145, u146, u147, u148, u149, u150, u151, u152, u153, u154, u155, u156, u157, u158, u159, u160, u161, u162, u163, u164, u165, u166, u167, u168, u169, u170, u171, u172, u173, u174, u175, u176, u177, u178, u179, u180, u181, u182, u183, u184, u185, u186, u187, u188, u189, u190, u191, u192, u193, u194, u195, u196, u197, u198, u199, u200, u201, u202, u203, u204, u205, u206, u207, u208, u209, u210, u211, u212, u213, u214, u215, u216, u217, u218, u219, u220, u221, u222, u223, u224, u225, u226, u227, u228, u229, u230, u231, u232, u233, u234, u235, u236, u237, u238, u239, u240, u241, u242, u243, u244, u245, u246, u247, u248, u249, u250, u251, u252, u253, u254, u255, u256, u257, u258, u259, u260, u261, u262, u263, u264, u265, u266, u267, u268, u269, u270, u271, u272, u273, u274, u275, u276, u277, u278, u279, u280, u281, u282, u283, u284, u285, u286, u287, u288, u289, u290, u291, u292, u293, u294, u295, u296, u297, u298, u299, u300, u301, u302, u303, u304, u305, u306, u307, u308, u309, u310, u311, u312, u313, u314, u315, u316, u317, u318, u319, u320, u321, u322, u323, u324, u325, u326, u327, u328, u329, u330, u331, u332, u333, u334, u335, u336, u337, u338, u339, u340, u341, u342, u343, u344, u345, u346, u347, u348, u349, u350, u351, u352, u353, u354, u355, u356, u357, u358, u359, u360, u361, u362, u363, u364, u365, u366, u367, u368, u369, u370, u371, u372, u373, u374, u375, u376, u377, u378, u379, u380, u381, u382, u383, u384, u385, u386, u387, u388, u389, u390, u391, u392, u393, u394, u395, u396, u397, u398, u399, u400, u401, u402, u403, u404, u405, u406, u407, u408, u409, u410, u411, u412, u413, u414, u415, u416, u417], []⟩ wc := by
  have HLEN := Lib.hid hlen
  have HN := Lib.hid hn
  have HB := Aside0.mk hb
  have HP := Aside0.mk hp
  have HPO := Aside0.mk hpo
  have OB := Aside0.mk hob
  have HT := Aside0.mk hT
  have HTL := Lib.hid htl
  have HM := Aside0.mk hM
  have HMK := Lib.hid hmk
  have HBT := Aside0.mk hbt
  have HK := Aside0.mk hK
  have HX := Aside0.mk (Below.refl wc.heap.size wc)
  have HGOX := Lib.hid (blk_lt hob)
  clear hlen hn hb hp hpo hob hT htl hM hmk hbt hK
  obtain ⟨xOB0, xOB1, xOB2, xOB3, xOB4, xOB5, xOB6, xOB7, xOB8, xOB9, xOB10, xOB11, xOB12, xOB13, yOB0, yOB1, yOB2, yOB3, yOB4, yOB5, yOB6, yOB7, yOB8, yOB9, yOB10, yOB11, yOB12, yOB13⟩ := pxf14 OB
  conv => arg 2; whnf
  have HR := Aside0.mk (show roomB cs n (x.f2.length : Int) = true by unfold roomB; have := HN.out; have := HLEN.out; simp; omega)
  have hw : wrap64 (n + (x.f2.length : Int)) = n + (x.f2.length : Int) := wrap_id (by have := HN.out; omega) (by have := HN.out; have := HTL.out; omega)
  have k1 : decide (65536 < n + (x.f2.length : Int)) = false := decide_eq_false (by omega)
  have HRR := Lib.hid hr
  clear hr
  have tok_o : True := trivial
  go_upto_region 33 with (first | (clear tok_o; go_at_call 25; (with_reducible refine (object_ok x.f1 A2 c2 x.f2 _ HP.out.hp (Kd.C_below HT.out (pxb HB)) HM.out (by have := HTL.out; omega) (by have := HN.out; omega) (by have := HLEN.out; omega) HR.out).mono ?_); rintro e w4 ⟨rfl, lv1, O1, hp1, hk1, hs1⟩; dsimp only; have nOB := Aside0.mk (show w4.heap[go]? = some (.cells #[.int .i64 x.f0, .string x.f1, .slice A2 x.f2.length c2, .int .i64 x.f3.f0, .string x.f3.f1, .int .i64 x.f3.f2, .string x.f3.f3, .int .i64 x.f4, .int .i64 x.f5.f0, .int .i64 x.f5.f1, .string x.f5.f2, .int .i64 x.f6.f0, .int .i64 x.f6.f1, .string x.f6.f2] 63 (0, 0)) from (hk1.2 go HGOX.out (fun h => HPO.out go (.inl h) rfl)).trans OB.out); have nHB := Aside0.mk (HB.out.trans hk1.1); have HR4 := Aside0.mk (HP.out.turned hp1 hk1 hs1); have HP4 := Aside0.mk hp1; have HS4 := Aside0.mk hs1; have HZ4 := Aside0.mk hk1.1.size; clear HB OB xOB0 yOB0 xOB1 yOB1 xOB2 yOB2 xOB3 yOB3 xOB4 yOB4 xOB5 yOB5 xOB6 yOB6 xOB7 yOB7 xOB8 yOB8 xOB9 yOB9 xOB10 yOB10 xOB11 yOB11 xOB12 yOB12 xOB13 yOB13 hp1 hk1 hs1 HX; have HB := nHB; have OB := nOB; clear nHB nOB; have HX := Aside0.mk (Below.refl w4.heap.size w4); obtain ⟨xOB0, xOB1, xOB2, xOB3, xOB4, xOB5, xOB6, xOB7, xOB8, xOB9, xOB10, xOB11, xOB12, xOB13, yOB0, yOB1, yOB2, yOB3, yOB4, yOB5, yOB6, yOB7, yOB8, yOB9, yOB10, yOB11, yOB12, yOB13⟩ := pxf14 OB))
  generalize hW_ : World.alloc w4 _ = w5
  generalize hg_ : w4.heap.size = gv
  have VB : Aside0 (w5.heap[gv]? = some (.cells #[.int .i64 5, .int .i64 (cs.length : Int), .string ⟨#[]⟩] 61 (0, 0))) := ⟨by rw [← hW_, ← hg_]; exact blk_new _ _⟩
  have nHB_ : Aside0 (Below w0.heap.size w0 w5) := ⟨by rw [← hW_]; exact below_alloc HB.out _⟩
  have GHBVB : Aside0 (w0.heap.size ≤ gv) := ⟨by rw [← hg_]; exact HB.out.size⟩
  have nHX_ : Aside0 (Below w4.heap.size w4 w5) := ⟨by rw [← hW_]; exact below_alloc HX.out _⟩
  have GHXVB : Aside0 (w4.heap.size ≤ gv) := ⟨by rw [← hg_]; exact HX.out.size⟩
  have nOB_ : Aside0 (w5.heap[go]? = some (.cells #[.int .i64 x.f0, .string x.f1, .slice A2 x.f2.length c2, .int .i64 x.f3.f0, .string x.f3.f1, .int .i64 x.f3.f2, .string x.f3.f3, .int .i64 x.f4, .int .i64 x.f5.f0, .int .i64 x.f5.f1, .string x.f5.f2, .int .i64 x.f6.f0, .int .i64 x.f6.f1, .string x.f6.f2] 63 (0, 0))) := ⟨by rw [← hW_]; exact blk_alloc OB.out _⟩
  have eOBVB : go ≠ gv := by rw [← hg_]; exact Nat.ne_of_lt (blk_lt OB.out)
  have eVBOB : gv ≠ go := Ne.symm eOBVB
  clear hW_ hg_ HB HX
  clear xOB0 yOB0 xOB1 yOB1 xOB2 yOB2 xOB3 yOB3 xOB4 yOB4 xOB5 yOB5 xOB6 yOB6 xOB7 yOB7 xOB8 yOB8 xOB9 yOB9 xOB10 yOB10 xOB11 yOB11 xOB12 yOB12 xOB13 yOB13
  clear OB
  have HB := nHB_
  clear nHB_
  have HX := nHX_
  clear nHX_
  have OB := nOB_
  clear nOB_
  obtain ⟨xOB0, xOB1, xOB2, xOB3, xOB4, xOB5, xOB6, xOB7, xOB8, xOB9, xOB10, xOB11, xOB12, xOB13, yOB0, yOB1, yOB2, yOB3, yOB4, yOB5, yOB6, yOB7, yOB8, yOB9, yOB10, yOB11, yOB12, yOB13⟩ := pxf14 OB
  obtain ⟨xVB0, xVB1, xVB2, yVB0, yVB1, yVB2⟩ := pxf3 VB
  have HY := Aside0.mk (Below.refl w5.heap.size w5)
  have HB5 := HB
  have HX5 := HX
  have OB5 := OB
  have VB5 := VB
  go_upto_region 37 with (fail)
  generalize hW_ : World.alloc w5 _ = w6
  generalize hg_ : w5.heap.size = gc
  have CB : Aside0 (w6.heap[gc]? = some (.cells #[.string x.f1, .int .i64 0, .string ⟨#[]⟩, .int .i64 0, .string ⟨#[]⟩, .bool false, .slice none 0 0] 68 (0, 0))) := ⟨by rw [← hW_, ← hg_]; exact blk_new _ _⟩
  have nHB_ : Aside0 (Below w0.heap.size w0 w6) := ⟨by rw [← hW_]; exact below_alloc HB.out _⟩
  have GHBCB : Aside0 (w0.heap.size ≤ gc) := ⟨by rw [← hg_]; exact HB.out.size⟩
  have nHX_ : Aside0 (Below w4.heap.size w4 w6) := ⟨by rw [← hW_]; exact below_alloc HX.out _⟩
  have GHXCB : Aside0 (w4.heap.size ≤ gc) := ⟨by rw [← hg_]; exact HX.out.size⟩
  have nHY_ : Aside0 (Below w5.heap.size w5 w6) := ⟨by rw [← hW_]; exact below_alloc HY.out _⟩
  have GHYCB : Aside0 (w5.heap.size ≤ gc) := ⟨by rw [← hg_]; exact HY.out.size⟩
  have nOB_ : Aside0 (w6.heap[go]? = some (.cells #[.int .i64 x.f0, .string x.f1, .slice A2 x.f2.length c2, .int .i64 x.f3.f0, .string x.f3.f1, .int .i64 x.f3.f2, .string x.f3.f3, .int .i64 x.f4, .int .i64 x.f5.f0, .int .i64 x.f5.f1, .string x.f5.f2, .int .i64 x.f6.f0, .int .i64 x.f6.f1, .string x.f6.f2] 63 (0, 0))) := ⟨by rw [← hW_]; exact blk_alloc OB.out _⟩
  have eOBCB : go ≠ gc := by rw [← hg_]; exact Nat.ne_of_lt (blk_lt OB.out)
  have eCBOB : gc ≠ go := Ne.symm eOBCB
  have nVB_ : Aside0 (w6.heap[gv]? = some (.cells #[.int .i64 5, .int .i64 (cs.length : Int), .string ⟨#[]⟩] 61 (0, 0))) := ⟨by rw [← hW_]; exact blk_alloc VB.out _⟩
  have eVBCB : gv ≠ gc := by rw [← hg_]; exact Nat.ne_of_lt (blk_lt VB.out)
  have eCBVB : gc ≠ gv := Ne.symm eVBCB
  clear hW_ hg_ HB HX HY
  clear xOB0 yOB0 xOB1 yOB1 xOB2 yOB2 xOB3 yOB3 xOB4 yOB4 xOB5 yOB5 xOB6 yOB6 xOB7 yOB7 xOB8 yOB8 xOB9 yOB9 xOB10 yOB10 xOB11 yOB11 xOB12 yOB12 xOB13 yOB13
  clear OB
  clear xVB0 yVB0 xVB1 yVB1 xVB2 yVB2
  clear VB
  have HB := nHB_
  clear nHB_
  have HX := nHX_
  clear nHX_
  have HY := nHY_
  clear nHY_
  have OB := nOB_
  clear nOB_
  obtain ⟨xOB0, xOB1, xOB2, xOB3, xOB4, xOB5, xOB6, xOB7, xOB8, xOB9, xOB10, xOB11, xOB12, xOB13, yOB0, yOB1, yOB2, yOB3, yOB4, yOB5, yOB6, yOB7, yOB8, yOB9, yOB10, yOB11, yOB12, yOB13⟩ := pxf14 OB
  have VB := nVB_
  clear nVB_
  obtain ⟨xVB0, xVB1, xVB2, yVB0, yVB1, yVB2⟩ := pxf3 VB
  obtain ⟨xCB0, xCB1, xCB2, xCB3, xCB4, xCB5, xCB6, yCB0, yCB1, yCB2, yCB3, yCB4, yCB5, yCB6⟩ := pxf7 CB
  have hgc := GHYCB.out
  have hgc0 := GHBCB.out
  go_upto_region 38 with (fail)
  go_loopg [162] x.f2.length (fun kq v162 w' => ∃ (q : Nat) (vv : Value), v162 = .int .i64 q ∧ Hid (q ≤ x.f2.length ∧ kq = x.f2.length - q) ∧ Aside0 (Below w0.heap.size w0 w') ∧ Aside0 (Below w5.heap.size w5 w') ∧ Aside0 (w'.heap[gc]? = some (.cells #[.string x.f1, .int .i64 0, .string ⟨#[]⟩, .int .i64 0, .string ⟨#[]⟩, .bool false, vv] 68 (0, 0))) ∧ Aside0 (Kd.R k61 61 w' w5.heap.size (fun k => k ≠ gc) vv ((x.f2.take q).map emV)))
  case atStart => exact ⟨0, _, rfl, ⟨Nat.zero_le _, rfl⟩, ⟨pxb HB⟩, ⟨pxb HY⟩, ⟨pxp CB⟩, ⟨by rw [List.take_zero]; exact Kd.R_nil _ _ _ _ _⟩⟩
  case round =>
    clear HB HX HY CB OB VB
    clear xOB0 yOB0 xOB1 yOB1 xOB2 yOB2 xOB3 yOB3 xOB4 yOB4 xOB5 yOB5 xOB6 yOB6 xOB7 yOB7 xOB8 yOB8 xOB9 yOB9 xOB10 yOB10 xOB11 yOB11 xOB12 yOB12 xOB13 yOB13
    clear xVB0 yVB0 xVB1 yVB1 xVB2 yVB2
    clear xCB0 yCB0 xCB1 yCB1 xCB2 yCB2 xCB3 yCB3 xCB4 yCB4 xCB5 yCB5 xCB6 yCB6
    obtain ⟨q, vv, rfl, HI, HB, HY, CB, HRV⟩ := hrel
    have hll : ((x.f2.take q).map emV).length = q := by rw [List.length_map, List.length_take]; have := HI.out; omega
    obtain ⟨L0, hL0⟩ : ∃ L0, (x.f2.take q).map emV = L0 := ⟨_, rfl⟩
    rw [hL0] at HRV hll
    have HL0 := Aside0.mk hL0
    have HLL := Lib.hid hll
    clear hL0 hll
    obtain ⟨A6, c6, rfl⟩ := Kd.R_slice HRV.out
    obtain ⟨xCB0, xCB1, xCB2, xCB3, xCB4, xCB5, xCB6, yCB0, yCB1, yCB2, yCB3, yCB4, yCB5, yCB6⟩ := pxf7 CB
    by_cases hi : q < x.f2.length
    · have HLT := Lib.hid hi
      have k4 : decide ((q : Int) < (x.f2.length : Int)) = true := decide_eq_true (by omega)
      have k5 : decide (q < x.f2.length) = true := decide_eq_true (by omega)
      have p2 : (q < x.f2.length) = True := eq_true (by omega)
      have p0 : (0 ≤ (q : Int)) = True := eq_true (by omega)
      have p1 : ((q : Int) < (x.f2.length : Int)) = True := eq_true (by omega)
      obtain ⟨ad, rfl, t0, t1, t2, t3⟩ := at_T59 (Kd.C_below HT.out HB.out) (q : Int) (by omega) (by omega)
      rw [Int.toNat_natCast] at t0 t1 t2 t3
      have hlt6 := Kd.R_lt HRV.out
      have HLT6 := Aside0.mk hlt6
      clear hlt6
      have hsz : (rd_T59 x.f2 (q : Int)).f3.size ≤ 1000000000 := by
        unfold rd_T59
        rw [Int.toNat_natCast, List.getD_eq_getElem?_getD, List.getElem?_eq_getElem hi]
        exact HM.out _ (List.getElem_mem hi)
      have HSZ := Aside0.mk hsz
      clear hi hsz
      have HV := Aside0.mk (Below.refl wr.heap.size wr)
      skip
      go_upto_region 40 with (fail)
      generalize hW_ : World.alloc wr _ = w7
      generalize hg_ : wr.heap.size = gt
      have TB : Aside0 (w7.heap[gt]? = some (.cells #[.int .i64 (rd_T59 x.f2 (q : Int)).f0, .string (rd_T59 x.f2 (q : Int)).f1, .int .i64 (rd_T59 x.f2 (q : Int)).f2, .string (rd_T59 x.f2 (q : Int)).f3] 59 (0, 0))) := ⟨by rw [← hW_, ← hg_]; exact blk_new _ _⟩
      have nHB_ : Aside0 (Below w0.heap.size w0 w7) := ⟨by rw [← hW_]; exact below_alloc HB.out _⟩
      have GHBTB : Aside0 (w0.heap.size ≤ gt) := ⟨by rw [← hg_]; exact HB.out.size⟩
      have nHY_ : Aside0 (Below w5.heap.size w5 w7) := ⟨by rw [← hW_]; exact below_alloc HY.out _⟩
      have GHYTB : Aside0 (w5.heap.size ≤ gt) := ⟨by rw [← hg_]; exact HY.out.size⟩
      have nHV_ : Aside0 (Below wr.heap.size wr w7) := ⟨by rw [← hW_]; exact below_alloc HV.out _⟩
      have GHVTB : Aside0 (wr.heap.size ≤ gt) := ⟨by rw [← hg_]; exact HV.out.size⟩
      have nCB_ : Aside0 (w7.heap[gc]? = some (.cells #[.string x.f1, .int .i64 0, .string ⟨#[]⟩, .int .i64 0, .string ⟨#[]⟩, .bool false, .slice A6 L0.length c6] 68 (0, 0))) := ⟨by rw [← hW_]; exact blk_alloc CB.out _⟩
      have eCBTB : gc ≠ gt := by rw [← hg_]; exact Nat.ne_of_lt (blk_lt CB.out)
      have eTBCB : gt ≠ gc := Ne.symm eCBTB
      clear hW_ hg_ HB HY HV
      clear xCB0 yCB0 xCB1 yCB1 xCB2 yCB2 xCB3 yCB3 xCB4 yCB4 xCB5 yCB5 xCB6 yCB6
      clear CB
      have HB := nHB_
      clear nHB_
      have HY := nHY_
      clear nHY_
      have HV := nHV_
      clear nHV_
      have CB := nCB_
      clear nCB_
      obtain ⟨xCB0, xCB1, xCB2, xCB3, xCB4, xCB5, xCB6, yCB0, yCB1, yCB2, yCB3, yCB4, yCB5, yCB6⟩ := pxf7 CB
      obtain ⟨xTB0, xTB1, xTB2, xTB3, yTB0, yTB1, yTB2, yTB3⟩ := pxf4 TB
      clear t0 t1 t2 t3
      have hgt := GHBTB.out
      have hgt2 := GHVTB.out
      have HRV7 := Aside0.mk (Kd.R_below HRV.out HV.out)
      clear HRV HV
      refine start_ (n := 8) (S := fun w' => w'.cell? ⟨gc, 0, none⟩ = some (.string x.f1) ∧ w'.cell? ⟨gc, 1, none⟩ = some (.int .i64 0) ∧ w'.cell? ⟨gc, 2, none⟩ = some (.string ⟨#[]⟩) ∧ w'.cell? ⟨gc, 3, none⟩ = some (.int .i64 0) ∧ w'.cell? ⟨gc, 4, none⟩ = some (.string ⟨#[]⟩) ∧ w'.cell? ⟨gc, 5, none⟩ = some (.bool false) ∧ w'.cell? ⟨gc, 6, none⟩ = some (.slice A6 L0.length c6) ∧ w'.cell? ⟨gt, 0, none⟩ = some (.int .i64 (rd_T59 x.f2 (q : Int)).f0) ∧ w'.cell? ⟨gt, 1, none⟩ = some (.string (rd_T59 x.f2 (q : Int)).f1) ∧ w'.cell? ⟨gt, 2, none⟩ = some (.int .i64 (rd_T59 x.f2 (q : Int)).f2) ∧ w'.cell? ⟨gt, 3, none⟩ = some (.string (rd_T59 x.f2 (q : Int)).f3)) (ds := [7]) #[false, false, false, false, false, false, false, false] (by kernel_rfl) rfl rfl ⟨(pxf7 ⟨blk_drew (pxp (o := .cells #[.string x.f1, .int .i64 0, .string ⟨#[]⟩, .int .i64 0, .string ⟨#[]⟩, .bool false, .slice A6 L0.length c6] 68 (0, 0)) CB)⟩).1, (pxf7 ⟨blk_drew (pxp (o := .cells #[.string x.f1, .int .i64 0, .string ⟨#[]⟩, .int .i64 0, .string ⟨#[]⟩, .bool false, .slice A6 L0.length c6] 68 (0, 0)) CB)⟩).2.1, (pxf7 ⟨blk_drew (pxp (o := .cells #[.string x.f1, .int .i64 0, .string ⟨#[]⟩, .int .i64 0, .string ⟨#[]⟩, .bool false, .slice A6 L0.length c6] 68 (0, 0)) CB)⟩).2.2.1, (pxf7 ⟨blk_drew (pxp (o := .cells #[.string x.f1, .int .i64 0, .string ⟨#[]⟩, .int .i64 0, .string ⟨#[]⟩, .bool false, .slice A6 L0.length c6] 68 (0, 0)) CB)⟩).2.2.2.1, (pxf7 ⟨blk_drew (pxp (o := .cells #[.string x.f1, .int .i64 0, .string ⟨#[]⟩, .int .i64 0, .string ⟨#[]⟩, .bool false, .slice A6 L0.length c6] 68 (0, 0)) CB)⟩).2.2.2.2.1, (pxf7 ⟨blk_drew (pxp (o := .cells #[.string x.f1, .int .i64 0, .string ⟨#[]⟩, .int .i64 0, .string ⟨#[]⟩, .bool false, .slice A6 L0.length c6] 68 (0, 0)) CB)⟩).2.2.2.2.2.1, (pxf7 ⟨blk_drew (pxp (o := .cells #[.string x.f1, .int .i64 0, .string ⟨#[]⟩, .int .i64 0, .string ⟨#[]⟩, .bool false, .slice A6 L0.length c6] 68 (0, 0)) CB)⟩).2.2.2.2.2.2.1, (pxf4 ⟨blk_drew (pxp (o := .cells #[.int .i64 (rd_T59 x.f2 (q : Int)).f0, .string (rd_T59 x.f2 (q : Int)).f1, .int .i64 (rd_T59 x.f2 (q : Int)).f2, .string (rd_T59 x.f2 (q : Int)).f3] 59 (0, 0)) TB)⟩).1, (pxf4 ⟨blk_drew (pxp (o := .cells #[.int .i64 (rd_T59 x.f2 (q : Int)).f0, .string (rd_T59 x.f2 (q : Int)).f1, .int .i64 (rd_T59 x.f2 (q : Int)).f2, .string (rd_T59 x.f2 (q : Int)).f3] 59 (0, 0)) TB)⟩).2.1, (pxf4 ⟨blk_drew (pxp (o := .cells #[.int .i64 (rd_T59 x.f2 (q : Int)).f0, .string (rd_T59 x.f2 (q : Int)).f1, .int .i64 (rd_T59 x.f2 (q : Int)).f2, .string (rd_T59 x.f2 (q : Int)).f3] 59 (0, 0)) TB)⟩).2.2.1, (pxf4 ⟨blk_drew (pxp (o := .cells #[.int .i64 (rd_T59 x.f2 (q : Int)).f0, .string (rd_T59 x.f2 (q : Int)).f1, .int .i64 (rd_T59 x.f2 (q : Int)).f2, .string (rd_T59 x.f2 (q : Int)).f3] 59 (0, 0)) TB)⟩).2.2.2.1⟩ (fun hHeld => ?_); refine with_tab rfl (fun HT_ => ?_)
      generalize hW_ : World.drew _ = w8 at hHeld ⊢
      have n0_ : Aside0 (Below w0.heap.size w0 w8) := ⟨by rw [← hW_]; exact below_drew1 (pxb HB)⟩
      have nHY_ : Aside0 (Below w5.heap.size w5 w8) := ⟨by rw [← hW_]; exact below_drew1 HY.out⟩
      have HQ : Aside0 (Below w7.heap.size w7 w8) := ⟨by rw [← hW_]; exact below_drew1 (Below.refl _ _)⟩
      have nCB_ : Aside0 (w8.heap[gc]? = some (.cells #[.string x.f1, .int .i64 0, .string ⟨#[]⟩, .int .i64 0, .string ⟨#[]⟩, .bool false, .slice A6 L0.length c6] 68 (0, 0))) := ⟨by rw [← hW_]; exact blk_drew (pxp CB)⟩
      have nTB_ : Aside0 (w8.heap[gt]? = some (.cells #[.int .i64 (rd_T59 x.f2 (q : Int)).f0, .string (rd_T59 x.f2 (q : Int)).f1, .int .i64 (rd_T59 x.f2 (q : Int)).f2, .string (rd_T59 x.f2 (q : Int)).f3] 59 (0, 0))) := ⟨by rw [← hW_]; exact blk_drew (pxp TB)⟩
      clear hW_ HB CB TB
      have HB := n0_
      have CB := nCB_
      have TB := nTB_
      clear n0_ nCB_ nTB_
      clear HY
      have HY := nHY_
      clear nHY_
      refine pS 0 166 HT_ ?_
      refine tT 1 167 HT_ hHeld ?_
      refine tT 2 168 HT_ hHeld ?_
      refine oS 3 HT_ (fun K hK => ?_)
      refine goes_ Try.func26 (by kernel_rfl) rfl #[.agg #[.int .i64 (rd_T59 x.f2 (q : Int)).f0, .string (rd_T59 x.f2 (q : Int)).f1, .int .i64 (rd_T59 x.f2 (q : Int)).f2, .string (rd_T59 x.f2 (q : Int)).f3]] (by rfl) rfl rfl (by (try simp only [List.map_toArray, List.map_cons, List.map_nil]); first | done | rfl) ?_
      (with_reducible refine (empty2_any (rd_T59 x.f2 (q : Int)) _ HSZ.out).mono ?_)
      rintro e w9 ⟨rfl, hb⟩
      refine ⟨_, rfl, ?_⟩
      have n0_ := pxs HB hb; have nCB_ : Aside0 (w9.heap[gc]? = some (.cells #[.string x.f1, .int .i64 0, .string ⟨#[]⟩, .int .i64 0, .string ⟨#[]⟩, .bool false, .slice A6 L0.length c6] 68 (0, 0))) := ⟨blk_below (pxp CB) hb⟩; have nTB_ : Aside0 (w9.heap[gt]? = some (.cells #[.int .i64 (rd_T59 x.f2 (q : Int)).f0, .string (rd_T59 x.f2 (q : Int)).f1, .int .i64 (rd_T59 x.f2 (q : Int)).f2, .string (rd_T59 x.f2 (q : Int)).f3] 59 (0, 0))) := ⟨blk_below (pxp TB) hb⟩; have nHY_ := pxs HY hb; have nHQ_ := pxs HQ hb; clear HB HY HQ CB TB; have HB := n0_; clear n0_; have HY := nHY_; clear nHY_; have HQ := nHQ_; clear nHQ_; have CB := nCB_; clear nCB_; have TB := nTB_; clear nTB_
      refine hK.out _ _ ⟨(pxf7 CB).1, (pxf7 CB).2.1, (pxf7 CB).2.2.1, (pxf7 CB).2.2.2.1, (pxf7 CB).2.2.2.2.1, (pxf7 CB).2.2.2.2.2.1, (pxf7 CB).2.2.2.2.2.2.1, (pxf4 TB).1, (pxf4 TB).2.1, (pxf4 TB).2.2.1, (pxf4 TB).2.2.2.1⟩ (fun hHeld => ?_)
      clear hK K hb
      refine nS 169 ?_
      refine oS 4 HT_ (fun K hK => ?_)
      refine value_ (w1 := ?_) (v := ?_) (by rfl) rfl ?_ ?_
      rotate_left 2
      · go_simp
        constructor
        · rfl
        · rfl
      refine hK.out _ _ ⟨(blk_cell (blk_below CB.out (below_alloc (Below.refl _ _) _)) 0).trans rfl, (blk_cell (blk_below CB.out (below_alloc (Below.refl _ _) _)) 1).trans rfl, (blk_cell (blk_below CB.out (below_alloc (Below.refl _ _) _)) 2).trans rfl, (blk_cell (blk_below CB.out (below_alloc (Below.refl _ _) _)) 3).trans rfl, (blk_cell (blk_below CB.out (below_alloc (Below.refl _ _) _)) 4).trans rfl, (blk_cell (blk_below CB.out (below_alloc (Below.refl _ _) _)) 5).trans rfl, (blk_cell (blk_below CB.out (below_alloc (Below.refl _ _) _)) 6).trans rfl, (blk_cell (blk_below TB.out (below_alloc (Below.refl _ _) _)) 0).trans rfl, (blk_cell (blk_below TB.out (below_alloc (Below.refl _ _) _)) 1).trans rfl, (blk_cell (blk_below TB.out (below_alloc (Below.refl _ _) _)) 2).trans rfl, (blk_cell (blk_below TB.out (below_alloc (Below.refl _ _) _)) 3).trans rfl⟩ (fun hHeld => ?_)
      clear hK K
      refine nS 170 ?_
      refine oS 5 HT_ (fun K hK => ?_)
      have HRV9 := Aside0.mk (Kd.R_below HRV7.out HQ.out)
      refine Kd.R_append_step k61 (w0 := w5) w5.heap.size (by rfl) (.tmp 167) (.tmp 170) 66 61 z61c 32 rfl Try.underlying66 info61 rfl (by decide) (by omega) (.slice A6 L0.length c6) L0 (emV (rd_T59 x.f2 (q : Int))) [.int .i64 (emV (rd_T59 x.f2 (q : Int))).f0, .int .i64 (emV (rd_T59 x.f2 (q : Int))).f1, .string (emV (rd_T59 x.f2 (q : Int))).f2] (fun k => k ≠ gc) (fun _ => False) rfl rfl ?aP (fun _ hk => hk.elim) ?aF ?aO ?aB ?aS ?aL ?_
      (case aP => exact k61_mkM _ _ _ _)
      (case aF => exact fun k hk e => by have := blk_lt CB.out; omega)
      (case aO => exact HRV9.out)
      (case aB => exact HY.out)
      (case aS => exact HY.out.size)
      (case aL => have := HLL.out; have := HTL.out; have := HLT.out; omega)
      intro v2 w10 ho hb hg hat
      clear hat
      obtain ⟨A7, c7, rfl⟩ := Kd.R_slice ho
      generalize hq1 : (L0 ++ [emV (rd_T59 x.f2 (q : Int))]).length = q1 at ho ⊢
      have gcb := (hg.block gc (blk_lt CB.out) (fun e => HRV9.out.1 gc e.symm rfl)).trans CB.out
      have gtb := (hg.block gt (blk_lt TB.out) (fun e => by have h1 := HLT6.out gt e.symm; omega)).trans TB.out
      skip
      have HO10 := Aside0.mk ho
      have HY10 := Aside0.mk hb
      clear ho hb hg CB TB HY
      have CB := Aside0.mk gcb
      have TB := Aside0.mk gtb
      clear gcb gtb
      refine hK.out _ _ ⟨(blk_cell (CB.out) 0).trans rfl, (blk_cell (CB.out) 1).trans rfl, (blk_cell (CB.out) 2).trans rfl, (blk_cell (CB.out) 3).trans rfl, (blk_cell (CB.out) 4).trans rfl, (blk_cell (CB.out) 5).trans rfl, (blk_cell (CB.out) 6).trans rfl, (blk_cell (TB.out) 0).trans rfl, (blk_cell (TB.out) 1).trans rfl, (blk_cell (TB.out) 2).trans rfl, (blk_cell (TB.out) 3).trans rfl⟩ (fun hHeld => ?_)
      clear hK K
      refine nS 171 ?_
      refine pS 6 172 HT_ ?_
      obtain ⟨xCB0, xCB1, xCB2, xCB3, xCB4, xCB5, xCB6, yCB0, yCB1, yCB2, yCB3, yCB4, yCB5, yCB6⟩ := pxf7 CB
      refine lS 7 HT_ (fun K hK => ?_)
      refine skip_ (w1 := ?_) (by rfl) rfl ?_ ?_
      rotate_left 1
      · go_simp
        rfl
      refine hK.out _ _ ?_
      clear hK K
      refine done_ (done_of HT_.out (by kernel_rfl)) ?_
      clear HT_ hHeld
      generalize hW_ : World.setCell w10 _ _ = w11
      have HY11 : Aside0 (Below w5.heap.size w5 w11) := ⟨by rw [← hW_]; exact HY10.out.setCell hgc _⟩
      have HB11 : Aside0 (Below w0.heap.size w0 w11) := ⟨below_step HB5.out HY11.out⟩
      have CB11 : Aside0 (w11.heap[gc]? = some (.cells #[.string x.f1, .int .i64 0, .string ⟨#[]⟩, .int .i64 0, .string ⟨#[]⟩, .bool false, .slice A7 q1 c7] 68 (0, 0))) := ⟨by rw [← hW_]; exact blk_put CB.out 6 _ rfl⟩
      have HO11 : Aside0 (Kd.R k61 61 w11 w5.heap.size (fun k => k ≠ gc) (.slice A7 q1 c7) ((x.f2.take (q + 1)).map emV)) := ⟨by
        rw [← hW_, List.take_succ_eq_append_getElem HLT.out, List.map_append, HL0.out, List.map_singleton, show x.f2[q]'HLT.out = (rd_T59 x.f2 (q : Int)) by unfold rd_T59; rw [Int.toNat_natCast, List.getD_eq_getElem?_getD, List.getElem?_eq_getElem HLT.out]; rfl]
        exact Kd.R_far HO10.out (p := ⟨gc, 6, none⟩) (fun k hk => hk) _⟩
      clear hW_
      go_wp2
      go_roundg (x.f2.length - (q + 1))
      case measure => have := HI.out; have := HLT.out; omega
      case rel => exact ⟨q + 1, _, by rw [wrap_id (by omega) (by have := HLT.out; have := HTL.out; omega)]; rfl, ⟨by have := HLT.out; omega, rfl⟩, HB11, HY11, CB11, HO11⟩
    · have k4 : decide ((q : Int) < (x.f2.length : Int)) = false := decide_eq_false (by omega)
      have k5 : decide (q < x.f2.length) = false := decide_eq_false (by omega)
      have hit : q = x.f2.length := by have := HI.out; omega
      have HLX := Aside0.mk (show x.f2.map emV = L0 by rw [← HL0.out, hit, List.take_length])
      have hLn : L0.length = x.f2.length := by rw [HLL.out, hit]
      have HLN := Lib.hid hLn
      have HRX : Aside0 (Kd.R k61 61 wr w0.heap.size (fun k => w5.heap.size ≤ k) (.slice A6 L0.length c6) L0) := ⟨Kd.R_lower (Kd.R_mono (Kd.R_bound HRV.out) (fun k hk => hk.2.1)) HB5.out.size⟩
      have hw2 : wrap64 (n + (L0.length : Int)) = n + (L0.length : Int) := wrap_id (by have := HN.out; omega) (by have := HN.out; have := HTL.out; omega)
      have HV := Aside0.mk (Below.refl wr.heap.size wr)
      have VB := Aside0.mk (blk_below VB5.out HY.out)
      clear hit hLn HL0 HRV HI hi
      obtain ⟨xVB0, xVB1, xVB2, yVB0, yVB1, yVB2⟩ := pxf3 VB
      go_upto_region 42 with (fail)
      refine start_ (n := 9) (S := fun w' => w'.cell? ⟨gc, 0, none⟩ = some (.string x.f1) ∧ w'.cell? ⟨gc, 1, none⟩ = some (.int .i64 0) ∧ w'.cell? ⟨gc, 2, none⟩ = some (.string ⟨#[]⟩) ∧ w'.cell? ⟨gc, 3, none⟩ = some (.int .i64 0) ∧ w'.cell? ⟨gc, 4, none⟩ = some (.string ⟨#[]⟩) ∧ w'.cell? ⟨gc, 5, none⟩ = some (.bool false) ∧ w'.cell? ⟨gc, 6, none⟩ = some (.slice A6 L0.length c6) ∧ w'.cell? ⟨gv, 0, none⟩ = some (.int .i64 5) ∧ w'.cell? ⟨gv, 1, none⟩ = some (.int .i64 (cs.length : Int)) ∧ w'.cell? ⟨gv, 2, none⟩ = some (.string ⟨#[]⟩)) (ds := []) #[false, false, false, false, false, false, false, false, false] (by kernel_rfl) rfl rfl ⟨(pxf7 ⟨blk_drew (pxp (o := .cells #[.string x.f1, .int .i64 0, .string ⟨#[]⟩, .int .i64 0, .string ⟨#[]⟩, .bool false, .slice A6 L0.length c6] 68 (0, 0)) CB)⟩).1, (pxf7 ⟨blk_drew (pxp (o := .cells #[.string x.f1, .int .i64 0, .string ⟨#[]⟩, .int .i64 0, .string ⟨#[]⟩, .bool false, .slice A6 L0.length c6] 68 (0, 0)) CB)⟩).2.1, (pxf7 ⟨blk_drew (pxp (o := .cells #[.string x.f1, .int .i64 0, .string ⟨#[]⟩, .int .i64 0, .string ⟨#[]⟩, .bool false, .slice A6 L0.length c6] 68 (0, 0)) CB)⟩).2.2.1, (pxf7 ⟨blk_drew (pxp (o := .cells #[.string x.f1, .int .i64 0, .string ⟨#[]⟩, .int .i64 0, .string ⟨#[]⟩, .bool false, .slice A6 L0.length c6] 68 (0, 0)) CB)⟩).2.2.2.1, (pxf7 ⟨blk_drew (pxp (o := .cells #[.string x.f1, .int .i64 0, .string ⟨#[]⟩, .int .i64 0, .string ⟨#[]⟩, .bool false, .slice A6 L0.length c6] 68 (0, 0)) CB)⟩).2.2.2.2.1, (pxf7 ⟨blk_drew (pxp (o := .cells #[.string x.f1, .int .i64 0, .string ⟨#[]⟩, .int .i64 0, .string ⟨#[]⟩, .bool false, .slice A6 L0.length c6] 68 (0, 0)) CB)⟩).2.2.2.2.2.1, (pxf7 ⟨blk_drew (pxp (o := .cells #[.string x.f1, .int .i64 0, .string ⟨#[]⟩, .int .i64 0, .string ⟨#[]⟩, .bool false, .slice A6 L0.length c6] 68 (0, 0)) CB)⟩).2.2.2.2.2.2.1, (pxf3 ⟨blk_drew (pxp (o := .cells #[.int .i64 5, .int .i64 (cs.length : Int), .string ⟨#[]⟩] 61 (0, 0)) VB)⟩).1, (pxf3 ⟨blk_drew (pxp (o := .cells #[.int .i64 5, .int .i64 (cs.length : Int), .string ⟨#[]⟩] 61 (0, 0)) VB)⟩).2.1, (pxf3 ⟨blk_drew (pxp (o := .cells #[.int .i64 5, .int .i64 (cs.length : Int), .string ⟨#[]⟩] 61 (0, 0)) VB)⟩).2.2.1⟩ (fun hHeld => ?_); refine with_tab rfl (fun HT_ => ?_)
      generalize hW_ : World.drew _ = wd at hHeld ⊢
      have n0_ : Aside0 (Below w0.heap.size w0 wd) := ⟨by rw [← hW_]; exact below_drew1 (pxb HB)⟩
      have nHV_ : Aside0 (Below wr.heap.size wr wd) := ⟨by rw [← hW_]; exact below_drew1 HV.out⟩
      have nHY_ : Aside0 (Below w5.heap.size w5 wd) := ⟨by rw [← hW_]; exact below_drew1 HY.out⟩
      have nCB_ : Aside0 (wd.heap[gc]? = some (.cells #[.string x.f1, .int .i64 0, .string ⟨#[]⟩, .int .i64 0, .string ⟨#[]⟩, .bool false, .slice A6 L0.length c6] 68 (0, 0))) := ⟨by rw [← hW_]; exact blk_drew (pxp CB)⟩
      have nVB_ : Aside0 (wd.heap[gv]? = some (.cells #[.int .i64 5, .int .i64 (cs.length : Int), .string ⟨#[]⟩] 61 (0, 0))) := ⟨by rw [← hW_]; exact blk_drew (pxp VB)⟩
      clear hW_ HB CB VB
      have HB := n0_
      have CB := nCB_
      have VB := nVB_
      clear n0_ nCB_ nVB_
      clear HY HV
      have HY := nHY_
      have HV := nHV_
      clear nHY_ nHV_
      refine pS 0 174 HT_ ?_
      refine pS 1 175 HT_ ?_
      refine pS 2 176 HT_ ?_
      refine tT 3 177 HT_ hHeld ?_
      refine pS 4 178 HT_ ?_
      refine pS 5 179 HT_ ?_
      refine oS 6 HT_ (fun K hK => ?_)
      refine goes_ Try.func27 (by kernel_rfl) rfl #[.int .i64 (cs.length : Int)] (by rfl) rfl rfl (by (try simp only [List.map_toArray, List.map_cons, List.map_nil]); first | done | rfl) ?_
      (with_reducible refine (heap_At.calls (cs.length : Int) 5 (cs.length : Int) ⟨#[]⟩ _ rfl).mono ?_)
      rintro e wf ⟨rfl, hb⟩
      refine ⟨_, rfl, ?_⟩
      have n0_ := pxs HB hb; have nCB_ : Aside0 (wf.heap[gc]? = some (.cells #[.string x.f1, .int .i64 0, .string ⟨#[]⟩, .int .i64 0, .string ⟨#[]⟩, .bool false, .slice A6 L0.length c6] 68 (0, 0))) := ⟨blk_below (pxp CB) hb⟩; have nVB_ : Aside0 (wf.heap[gv]? = some (.cells #[.int .i64 5, .int .i64 (cs.length : Int), .string ⟨#[]⟩] 61 (0, 0))) := ⟨blk_below (pxp VB) hb⟩; have nHY_ := pxs HY hb; have nHV_ := pxs HV hb; clear HB HY HV CB VB; have HB := n0_; clear n0_; have HY := nHY_; clear nHY_; have HV := nHV_; clear nHV_; have CB := nCB_; clear nCB_; have VB := nVB_; clear nVB_
      refine hK.out _ _ ⟨(pxf7 CB).1, (pxf7 CB).2.1, (pxf7 CB).2.2.1, (pxf7 CB).2.2.2.1, (pxf7 CB).2.2.2.2.1, (pxf7 CB).2.2.2.2.2.1, (pxf7 CB).2.2.2.2.2.2.1, (pxf3 VB).1, (pxf3 VB).2.1, (pxf3 VB).2.2.1⟩ (fun hHeld => ?_)
      clear hK K hb
      refine nS 180 ?_
      refine oS 7 HT_ (fun K hK => ?_)
      refine value_ (w1 := ?_) (v := ?_) (by rfl) rfl ?_ ?_
      rotate_left 2
      · go_simp
        constructor
        · rfl
        · rfl
      refine hK.out _ _ ⟨(pxf7 CB).1, (pxf7 CB).2.1, (pxf7 CB).2.2.1, (pxf7 CB).2.2.2.1, (pxf7 CB).2.2.2.2.1, (pxf7 CB).2.2.2.2.2.1, (pxf7 CB).2.2.2.2.2.2.1, (pxf3 VB).1, (pxf3 VB).2.1, (pxf3 VB).2.2.1⟩ (fun hHeld => ?_)
      clear hK K
      refine nS 181 ?_
      refine pS 8 182 HT_ ?_
      refine done_ (done_of HT_.out (by kernel_rfl)) ?_
      clear HT_ hHeld
      obtain ⟨xCB0, xCB1, xCB2, xCB3, xCB4, xCB5, xCB6, yCB0, yCB1, yCB2, yCB3, yCB4, yCB5, yCB6⟩ := pxf7 CB
      obtain ⟨xVB0, xVB1, xVB2, yVB0, yVB1, yVB2⟩ := pxf3 VB
      go_upto_region 44 with (fail)
      go_upto_region 45 with (first | ((with_reducible refine gate_builtin (b := .append) (xs := #[.tmp 183, .tmp 185]) rfl ?_); at_builtin; refine Kd.S_append k105 (w0 := w0) w0.heap.size rfl (.tmp 183) (.tmp 185) 56 68 z105c 96 rfl Try.underlying56 info68 rfl (by decide) (by omega) (.slice Aa cs.length ca) cs ⟨x.f1, z59, false, L0⟩ [.string x.f1, .int .i64 0, .string ⟨#[]⟩, .int .i64 0, .string ⟨#[]⟩, .bool false, .slice A6 L0.length c6] (fun k => P k ∨ w5.heap.size ≤ k) (fun k => w5.heap.size ≤ k) rfl (by first | (go_simp; done) | (go_simp; rfl)) ?aP ?aK ?aF ?aO ?aB ?aS ?aL ?_; (case aP => exact k105_mkM _ _ _ ⟨x.f1, z59, false, L0⟩ (Kd.R_below HRX.out (pxb HV))); (case aK => exact fun k hk => ⟨.inr hk, fun e => by have h1 := (HR4.out.2 k (HR4.out.1.own_ok k e.symm)).2; have h2 := HX5.out.size; omega⟩); (case aF => exact fun k hk => .inr (Nat.le_trans (pxb HY).size hk)); (case aO => exact Kd.S_mono (Kd.S_below HR4.out.1 (below_step HX5.out (pxb HY))) (fun k hk => ⟨.inl hk, fun h2 => by have h1 := (HR4.out.2 k hk).2; have h3 := HX5.out.size; omega⟩)); (case aB => exact pxb HB); (case aS => exact (pxb HB).size); (case aL => have := HLEN.out; omega); intro v1 w12 ho hb hg hat; clear hat; have hp12 := Aside0.mk (HP4.out.away (W' := w12) (Nat.le_trans (below_step HX5.out (pxb HY)).size hg.size) (fun k hk => (hg.block k (Nat.lt_of_lt_of_le (HP4.out.lt k hk) (below_step HX5.out (pxb HY)).size) (fun e => (HR4.out.2 k (HR4.out.1.own_ok k e.symm)).1 hk)).trans ((below_step HX5.out (pxb HY)).block k (HP4.out.lt k hk)))); have cb12 := Aside0.mk (show w12.heap[gc]? = some (.cells #[.string x.f1, .int .i64 0, .string ⟨#[]⟩, .int .i64 0, .string ⟨#[]⟩, .bool false, .slice A6 L0.length c6] 68 (0, 0)) from (hg.block gc (blk_lt (pxp (o := .cells #[.string x.f1, .int .i64 0, .string ⟨#[]⟩, .int .i64 0, .string ⟨#[]⟩, .bool false, .slice A6 L0.length c6] 68 (0, 0)) CB)) (fun e => by have h1 := (HR4.out.2 gc (HR4.out.1.own_ok gc e.symm)).2; have h2 := HX5.out.size; have h3 := GHYCB.out; omega)).trans (pxp (o := .cells #[.string x.f1, .int .i64 0, .string ⟨#[]⟩, .int .i64 0, .string ⟨#[]⟩, .bool false, .slice A6 L0.length c6] 68 (0, 0)) CB)); have HS12 := Aside0.mk ho; have hb12 := Aside0.mk hb; clear ho hb hg HB HY HV CB xCB0 yCB0 xCB1 yCB1 xCB2 yCB2 xCB3 yCB3 xCB4 yCB4 xCB5 yCB5 xCB6 yCB6 xVB0 yVB0 xVB1 yVB1 xVB2 yVB2; have HB := hb12; have CB := cb12; have HP12 := hp12; clear hb12 cb12 hp12; obtain ⟨xCB0, xCB1, xCB2, xCB3, xCB4, xCB5, xCB6, yCB0, yCB1, yCB2, yCB3, yCB4, yCB5, yCB6⟩ := pxf7 CB))
      go_wp2_with (fail)
      rw [hw2]
      exact HK.out _ _ _ _ _ _ _ _ _ _ _ _ _ _ _ _ _ _ _ _ _ _ _ _ _ _ _ _ _ _ _ _ _ _ _ _ _ _ _ _ _ _ _ _ _ _ _ _ _ _ _ _ _ _ _ _ _ _ _ _ _ _ _ _ _ _ _ _ _ _ _ _ _ _ _ _ _ _ _ _ _ _ _ _ _ _ _ _ _ _ _ _ _ _ _ _ _ _ _ _ _ _ _ _ _ _ _ _ _ _ _ _ _ _ _ _ _ _ _ _ _ _ _ _ _ _ _ _ _ _ _ _ _ _ _ _ _ _ _ _ _ _ _ _ _ _ _ _ _ _ _ _ _ _ _ _ _ _ _ _ _ _ _ _ _ _ _ _ _ _ _ _ _ _ _ _ _ _ _ _ _ _ _ _ _ _ _ _ _ _ _ _ _ _ _ _ _ _ _ _ _ _ _ _ _ _ _ _ _ _ _ _ _ _ _ _ _ _ _ _ _ _ _ _ _ _ _ _ _ _ _ _ _ _ _ _ _ _ _ _ _ _ _ _ _ _ _ _ _ _ _ _ _ _ _ _ _ _ _ _ _ _ _ _ _ _ _ _ _ _ _ _ _ _ _ _ _ _ _ _ _ _ _ _ _ _ _ _ _ _ _ _ _ _ _ _ _ _ _ _ _ _ _ _ O1 (fun k => (P k ∨ w5.heap.size ≤ k) ∧ k < w12.heap.size) lv1 _ (cs ++ [⟨x.f1, z59, false, L0⟩]) (n + (L0.length : Int)) _ ⟨by rw [List.length_append]; simp, by have := HN.out; omega, by rw [HLN.out]; exact HRR.out⟩ ⟨pxb HB⟩ ⟨⟨by have h := HP12.out; rw [HLX.out] at h; rw [HLN.out]; exact h, Kd.S_mono (Kd.S_bound HS12.out) (fun k hk => ⟨hk.1, hk.2.2.1⟩), fun k hk => ⟨fun ho => by rcases hk.1 with h1 | h1; exact (HR4.out.2 k h1).1 ho; have h2 := HP4.out.lt k ho; have h3 := HX5.out.size; omega, hk.2⟩, HP.out.wf.more (fun h => by cases h) (fun _ => rfl)⟩⟩
end Go.Proofs.Ytefgfnhhoidbdaa.HpW
