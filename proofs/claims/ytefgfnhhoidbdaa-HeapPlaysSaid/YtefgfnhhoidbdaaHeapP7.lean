/- HeapPlays: all are there in the end. -/
import Derived.Test.YtefgfnhhoidbdaaHeapP5
import Derived.Test.YtefgfnhhoidbdaaHE61
namespace Go.Proofs.Ytefgfnhhoidbdaa.HpW
open Go.RowKit Go.Proofs.YtefgfnhhoidbdaaW.PrintWords Go.Proofs.YtefgfnhhoidbdaaW.PrintLast Go.Proofs.Ytefgfnhhoidbdaa.H
attribute [local go_sem high] eqA61
set_option linter.unusedVariables false
set_option linter.unusedSimpArgs false
theorem eqA59 (d : Nat) (w : World) (x0 y0 : Int) (x1 y1 : ByteArray) (x2 y2 : Int) (x3 y3 : ByteArray) :
    (Op.equalIn (d + 2) 59 (.agg #[.int .i64 x0, .string x1, .int .i64 x2, .string x3]) (.agg #[.int .i64 y0, .string y1, .int .i64 y2, .string y3])).run Try.prog w = .ok (x0 == y0 && (x1.toList == y1.toList && (x2 == y2 && (x3.toList == y3.toList)))) w := by
  refine eqA_of Try.underlying59 (by kernel_rfl) ?_
  refine eqf_cons (by rfl) (by go_simp; rfl) (by go_simp; rfl) (by go_simp) ?_
  refine eqf_cons (by rfl) (by go_simp; rfl) (by go_simp; rfl) (by go_simp) ?_
  refine eqf_cons (by rfl) (by go_simp; rfl) (by go_simp; rfl) (by go_simp) ?_
  exact eqf_last (by rfl) (by go_simp; rfl) (by go_simp; rfl) (by go_simp)
attribute [local go_sem high] eqA59
set_option maxHeartbeats 32000000 in
set_option maxRecDepth 100000 in
theorem tail (u1 u2 u6 u7 u8 u9 u10 u11 u12 u13 u14 u15 u16 u17 u18 u19 u20 u21 u22 u23 u24 u25 u26 u27 u28 u29 u30 u31 u32 u33 u34 u35 u36 u37 u38 u39 u40 u41 u42 u43 u44 u45 u46 u47 u48 u49 u50 u51 u52 u53 u54 u55 u56 u57 u58 u59 u60 u61 u62 u63 u64 u65 u66 u67 u68 u69 u70 u71 u72 u73 u74 u75 u76 u77 u78 u79 u80 u81 u82 u83 u84 u85 u86 u87 u88 u89 u90 u91 u92 u93 u94 u95 u96 u97 u98 u99 u100 u101 u102 u103 u104 u105 u106 u107 u108 u109 u110 u111 u112 u113 u114 u115 u116 u117 u118 u119 u120 u121 u122 u123 u124 u125 u126 u127 u128 u129 u130 u131 u132 u133 u134 u135 u136 u137 u138 u139 u140 u141 u142 u143 u144 u145 u146 u147 u148 u149 u150 u151 u152 u153 u154 u155 u156 u157 u158 u159 u160 u161 u162 u163 u164 u165 u166 u167 u168 u169 u170 u171 u172 u173 u174 u175 u176 u177 u178 u179 u180 u181 u182 u183 u184 u185 u186 u187 u188 u189 u190 u191 u192 u193 u194 u195 u196 u197 u198 u199 u200 u201 u202 u203 u204 u205 u206 u207 u208 u209 u210 u211 u212 u213 u214 u215 u216 u217 u218 u219 u220 u221 u222 u223 u224 u225 u226 u227 u228 u229 u230 u231 u232 u233 u234 u235 u236 u237 u238 u239 u240 u241 u242 u243 u244 u245 u246 u247 u248 u249 u250 u251 u252 u253 u254 u255 u256 u257 u258 u259 u260 u261 u262 u263 u264 u265 u266 u267 u268 u269 u270 u271 u272 u273 u274 u275 u276 u277 u278 u279 u280 u281 u282 u283 u284 u285 u286 u287 u288 u289 u290 u291 u292 u293 u294 u295 u296 u297 u298 u299 u300 u301 u302 u303 u304 u305 u306 u307 u308 u309 u310 u311 u312 u313 u314 u315 u316 u317 u318 u319 u320 u321 u322 u323 u324 u325 u326 u327 u328 u329 u330 u331 u332 u333 u334 u335 u336 u337 u338 u339 u340 u341 u342 u343 u344 u345 u346 u347 u348 u349 u350 u351 u352 u353 u354 u355 u356 u357 u358 u359 u360 u361 u362 u363 u364 u365 u366 u367 u368 u369 u370 u371 u372 u373 u374 u375 u376 u377 u378 u379 u380 u381 u382 u383 u384 u385 u386 u387 u388 u389 u390 u391 u392 u393 u394 u395 u396 u397 u398 u399 u400 u401 u402 u403 u404 u405 u406 u407 u408 u409 u410 u411 u412 u413 u414 u415 u416 u417 v0 : Value) (w0 wt : World) (g : Nat) (O P : Nat → Prop) (lv : Value) (Aa : Option Addr) (ca : Nat) (cs : List S105) (n : Int)
    (hlen : cs.length ≤ 40) (hb : Below w0.heap.size w0 wt) (hp : LP g w0.heap.size O P lv (.slice Aa cs.length ca) cs n wt) :
    Code.wp Try.prog (cR (cR (cR (cR (cR (cR (cR play))))))) (bodyPost Try.prog Try.f7 fun e w' => e = .returned (.bool true) ∧ Below w0.heap.size w0 w') ⟨#[v0, u1, u2, .pointer (some ⟨g, 0, none⟩), .slice Aa cs.length ca, .int .i64 n, u6, u7, u8, u9, u10, u11, u12, u13, u14, u15, u16, u17, u18, u19, u20, u21, u22, u23, u24, u25, u26, u27, u28, u29, u30, u31, u32, u33, u34, u35, u36, u37, u38, u39, u40, u41, u42, u43, u44, u45, u46, u47, u48, u49, u50, u51, u52, u53, u54, u55, u56, u57, u58, u59, u60, u61, u62, u63, u64, u65, u66, u67, u68, u69, u70, u71, u72, u73, u74, u75, u76, u77, u78, u79, u80, u81, u82, u83, u84, u85, u86, u87, u88, u89, u90, u91, u92, u93, u94, u95, u96, u97, u98, u99, u100, u101, u102, u103, u104, u105, u106, u107, u108, u109, u110, u111, u112, u113, u114, u115, u116, u117, u118, u119, u120, u121, u122, u123, u124, u125, u126, u127, u128, u129, u130, u131, u132, u133, u134, u135, u136, u137, u138, u139, u140, u141, u142, u143, u144, u145, u146, u147, u148, u149, u150, u151, u152, u153, u154, u155, u156, u157, u158, u159, u160, u161, u162, u163, u164, u165, u166, u167, u168, u169, u170, u171, u172, u173, u174, u175, u176, u177, u178, u179, u180, u181, u182, u183, u184, u185, u186, u187, u188, u189, u190, u191, u192, u193, u194, u195, u196, u197, u198, u199, u200, u201, u202, u203, u204, u205, u206, u207, u208, u209, u210, u211, u212, u213, u214, u215, u216, u217, u218, u219, u220, u221, u222, u223, u224, u225, u226, u227, u228, u229, u230, u231, u232, u233, u234, u235, u236, u237, u238, u239, u240, u241, u242, u243, u244, u245, u246, u247, u248, u249, u250, u251, u252, u253, u254, u255, u256, u257, u258, u259, u260, u261, u262, u263, u264, u265, u266, u267, u268, u269, u270, u271, u272, u273, u274, u275, u276, u277, u278, u279, u280, u281, u282, u283, u284, u285, u286, u287, u288, u289, u290, u291, u292, u293, u294, u295, u296, u297, u298, u299, u300, u301, u302, u303, u304, u305, u306, u307, u308, u309, u310, u311, u312, u313, u314, u315, u316, u317, u318, u319, u320, u321, u322, u323, u324, u325, u326, u327, u328, u329, u330, u331, u332, u333, u334, u335, u336, u337, u338, u339, u340, u341, u342, u343, u344, u345, u346, u347, u348, u349, u350, u351, u352, u353, u354, u355, u356, u357, u358, u359, u360, u361, u362, u363, u364, u365, u366, u367, u368, u369, u370, u371, u372, u373, u374, u375, u376, u377, u378, u379, u380, u381, u382, u383, u384, u385, u386, u387, u388, u389, u390, u391, u392, u393, u394, u395, u396, u397, u398, u399, u400, u401, u402, u403, u404, u405, u406, u407, u408, u409, u410, u411, u412, u413, u414, u415, u416, u417], []⟩ wt := by
  have HLEN := Lib.hid hlen
  have HB := Aside0.mk hb
  have HP := Aside0.mk hp
  have HX := Aside0.mk (Below.refl wt.heap.size wt)
  clear hlen hb hp
  conv => arg 2; whnf
  have tok_a : True := trivial
  have tok_b : True := trivial
  go_upto_region 77 with (first | (clear tok_a; go_at_call 31; (with_reducible refine (objects_any _ (HP.out.hp.below (pxb HX))).mono ?_); rintro e w1 ⟨rfl, hb⟩; dsimp only; have n0_ := pxs HB hb; have nHX_ := pxs HX hb; clear HB HX ; have HB := n0_; clear n0_; have HX := nHX_; clear nHX_; clear hb) | (clear tok_b; go_at_call 32; (with_reducible refine (cells_any _ (HP.out.hp.below (pxb HX))).mono ?_); rintro e w2 ⟨rfl, hb⟩; dsimp only; have n0_ := pxs HB hb; have nHX_ := pxs HX hb; clear HB HX ; have HB := n0_; clear n0_; have HX := nHX_; clear nHX_; clear hb))
  go_loopg [343] cs.length (fun kq v343 w' => ∃ q : Nat, v343 = .int .i64 q ∧ Hid (q ≤ cs.length ∧ kq = cs.length - q) ∧ Aside0 (Below w0.heap.size w0 w') ∧ Aside0 (Below wt.heap.size wt w'))
  case atStart => exact ⟨0, rfl, ⟨Nat.zero_le _, rfl⟩, ⟨pxb HB⟩, ⟨pxb HX⟩⟩
  case round =>
    clear HB HX
    obtain ⟨q, rfl, HI, HB, HX⟩ := hrel
    by_cases hi : q < cs.length
    · have HLT := Lib.hid hi
      have k4 : decide ((q : Int) < (cs.length : Int)) = true := decide_eq_true (by omega)
      have k5 : decide (q < cs.length) = true := decide_eq_true hi
      have p0 : (0 ≤ (q : Int)) = True := eq_true (by omega)
      have p1 : ((q : Int) < (cs.length : Int)) = True := eq_true (by omega)
      have p2 : (q < cs.length) = True := eq_true (by omega)
      have HC5 := Aside0.mk (HP.out.below (pxb HX)).reads
      obtain ⟨ad, B6, d6, hA5, a0, a1, a2, a3, a4, a5, a6, a7, a8⟩ := at_T105 HC5.out (q : Int) (by omega) (by omega)
      subst hA5
      clear HC5
      rw [Int.toNat_natCast] at a0 a1 a2 a3 a4 a5 a6
      have HWF := Aside0.mk (HP.out.wf.at_ q hi)
      have HC8 := Aside0.mk a8
      obtain ⟨b, c0, hlv⟩ := HP.out.hp.lvform (by omega)
      subst hlv
      clear hi a8 a7
      have HAT := Lib.hid (show isAt cs ⟨5, (q : Int), ⟨#[]⟩⟩ from ⟨rfl, Int.natCast_nonneg _, by have := HLT.out; show (q : Int) < _; omega⟩)
      have HW := Aside0.mk (Below.refl wr.heap.size wr)
      go_upto_region 79 with (fail)
      generalize hW_ : World.alloc wr _ = w3
      generalize hg_ : wr.heap.size = gc
      have CB : Aside0 (w3.heap[gc]? = some (.cells #[.string (rd_T105 cs (q : Int)).f0, .int .i64 (rd_T105 cs (q : Int)).f1.f0, .string (rd_T105 cs (q : Int)).f1.f1, .int .i64 (rd_T105 cs (q : Int)).f1.f2, .string (rd_T105 cs (q : Int)).f1.f3, .bool (rd_T105 cs (q : Int)).f2, .slice B6 (rd_T105 cs (q : Int)).f3.length d6] 68 (0, 0))) := ⟨by rw [← hW_, ← hg_]; exact blk_new _ _⟩
      have nHB_ : Aside0 (Below w0.heap.size w0 w3) := ⟨by rw [← hW_]; exact below_alloc HB.out _⟩
      have GHBCB : Aside0 (w0.heap.size ≤ gc) := ⟨by rw [← hg_]; exact HB.out.size⟩
      have nHX_ : Aside0 (Below wt.heap.size wt w3) := ⟨by rw [← hW_]; exact below_alloc HX.out _⟩
      have GHXCB : Aside0 (wt.heap.size ≤ gc) := ⟨by rw [← hg_]; exact HX.out.size⟩
      have nHW_ : Aside0 (Below wr.heap.size wr w3) := ⟨by rw [← hW_]; exact below_alloc HW.out _⟩
      have GHWCB : Aside0 (wr.heap.size ≤ gc) := ⟨by rw [← hg_]; exact HW.out.size⟩
      clear hW_ hg_ HB HX HW
      have HB := nHB_
      clear nHB_
      have HX := nHX_
      clear nHX_
      have HW := nHW_
      clear nHW_
      obtain ⟨xCB0, xCB1, xCB2, xCB3, xCB4, xCB5, xCB6, yCB0, yCB1, yCB2, yCB3, yCB4, yCB5, yCB6⟩ := pxf7 CB
      clear a0 a1 a2 a3 a4 a5 a6
      have tok_c : True := trivial
      have tok_d : True := trivial
      have tok_e : True := trivial
      have tok_f : True := trivial
      go_upto_region 80 with (first | (clear tok_c; go_at_call 27; (with_reducible refine (heap_At.calls (q : Int) 5 (q : Int) ⟨#[]⟩ _ rfl).mono ?_); rintro e w4 ⟨rfl, hb⟩; dsimp only; have n0_ := pxs HB hb; have nCB_ : Aside0 (w4.heap[gc]? = some (.cells #[.string (rd_T105 cs (q : Int)).f0, .int .i64 (rd_T105 cs (q : Int)).f1.f0, .string (rd_T105 cs (q : Int)).f1.f1, .int .i64 (rd_T105 cs (q : Int)).f1.f2, .string (rd_T105 cs (q : Int)).f1.f3, .bool (rd_T105 cs (q : Int)).f2, .slice B6 (rd_T105 cs (q : Int)).f3.length d6] 68 (0, 0))) := ⟨blk_below (pxp CB) hb⟩; have nHX_ := pxs HX hb; have nHW_ := pxs HW hb; clear HB HX HW CB; have HB := n0_; clear n0_; have HX := nHX_; clear nHX_; have HW := nHW_; clear nHW_; have CB := nCB_; clear nCB_; clear hb; obtain ⟨xCB0, xCB1, xCB2, xCB3, xCB4, xCB5, xCB6, yCB0, yCB1, yCB2, yCB3, yCB4, yCB5, yCB6⟩ := pxf7 CB))
      generalize hW_ : World.alloc w4 _ = w5
      generalize hg_ : w4.heap.size = ga
      have AB : Aside0 (w5.heap[ga]? = some (.cells #[.int .i64 5, .int .i64 (q : Int), .string ⟨#[]⟩] 61 (0, 0))) := ⟨by rw [← hW_, ← hg_]; exact blk_new _ _⟩
      have nHB_ : Aside0 (Below w0.heap.size w0 w5) := ⟨by rw [← hW_]; exact below_alloc HB.out _⟩
      have GHBAB : Aside0 (w0.heap.size ≤ ga) := ⟨by rw [← hg_]; exact HB.out.size⟩
      have nHX_ : Aside0 (Below wt.heap.size wt w5) := ⟨by rw [← hW_]; exact below_alloc HX.out _⟩
      have GHXAB : Aside0 (wt.heap.size ≤ ga) := ⟨by rw [← hg_]; exact HX.out.size⟩
      have nHW_ : Aside0 (Below wr.heap.size wr w5) := ⟨by rw [← hW_]; exact below_alloc HW.out _⟩
      have GHWAB : Aside0 (wr.heap.size ≤ ga) := ⟨by rw [← hg_]; exact HW.out.size⟩
      have nCB_ : Aside0 (w5.heap[gc]? = some (.cells #[.string (rd_T105 cs (q : Int)).f0, .int .i64 (rd_T105 cs (q : Int)).f1.f0, .string (rd_T105 cs (q : Int)).f1.f1, .int .i64 (rd_T105 cs (q : Int)).f1.f2, .string (rd_T105 cs (q : Int)).f1.f3, .bool (rd_T105 cs (q : Int)).f2, .slice B6 (rd_T105 cs (q : Int)).f3.length d6] 68 (0, 0))) := ⟨by rw [← hW_]; exact blk_alloc CB.out _⟩
      have eCBAB : gc ≠ ga := by rw [← hg_]; exact Nat.ne_of_lt (blk_lt CB.out)
      have eABCB : ga ≠ gc := Ne.symm eCBAB
      clear hW_ hg_ HB HX HW
      clear xCB0 yCB0 xCB1 yCB1 xCB2 yCB2 xCB3 yCB3 xCB4 yCB4 xCB5 yCB5 xCB6 yCB6
      clear CB
      have HB := nHB_
      clear nHB_
      have HX := nHX_
      clear nHX_
      have HW := nHW_
      clear nHW_
      have CB := nCB_
      clear nCB_
      obtain ⟨xCB0, xCB1, xCB2, xCB3, xCB4, xCB5, xCB6, yCB0, yCB1, yCB2, yCB3, yCB4, yCB5, yCB6⟩ := pxf7 CB
      obtain ⟨xAB0, xAB1, xAB2, yAB0, yAB1, yAB2⟩ := pxf3 AB
      have hnl := Lib.hid (show ((rd_T105 cs (q : Int)).f3.length : Int) ≤ 9223372036854775807 by have h1 := HC8.out.2.1; omega)
      cases hb2 : (rd_T105 cs (q : Int)).f2
      case true =>
        have HB2 := Aside0.mk hb2
        obtain ⟨hwf1, hwf2⟩ := HWF.out
        have HF := Aside0.mk (hwf1 hb2)
        have hf0 := HF.out
        clear hwf1 hwf2
        rw [hf0] at xCB0
        rw [hb2] at xCB5
        have nCB := Aside0.mk (show w5.heap[gc]? = some (.cells #[.string ⟨#[]⟩, .int .i64 (rd_T105 cs (q : Int)).f1.f0, .string (rd_T105 cs (q : Int)).f1.f1, .int .i64 (rd_T105 cs (q : Int)).f1.f2, .string (rd_T105 cs (q : Int)).f1.f3, .bool true, .slice B6 (rd_T105 cs (q : Int)).f3.length d6] 68 (0, 0)) from by have h := CB.out; rw [hf0, hb2] at h; exact h)
        clear CB hf0 hb2 xCB0 yCB0 xCB1 yCB1 xCB2 yCB2 xCB3 yCB3 xCB4 yCB4 xCB5 yCB5 xCB6 yCB6
        have CB := nCB
        clear nCB
        obtain ⟨xCB0, xCB1, xCB2, xCB3, xCB4, xCB5, xCB6, yCB0, yCB1, yCB2, yCB3, yCB4, yCB5, yCB6⟩ := pxf7 CB
        go_upto_region 82 with (first | (clear tok_d; go_at_call 33; (with_reducible refine (class_arr ⟨5, (q : Int), ⟨#[]⟩⟩ _ (HP.out.hp.below (pxb HX)) HAT.out HB2.out).mono ?_); rintro e w6 ⟨rfl, hb⟩; dsimp only; have n0_ := pxs HB hb; have nCB_ : Aside0 (w6.heap[gc]? = some (.cells #[.string ⟨#[]⟩, .int .i64 (rd_T105 cs (q : Int)).f1.f0, .string (rd_T105 cs (q : Int)).f1.f1, .int .i64 (rd_T105 cs (q : Int)).f1.f2, .string (rd_T105 cs (q : Int)).f1.f3, .bool true, .slice B6 (rd_T105 cs (q : Int)).f3.length d6] 68 (0, 0))) := ⟨blk_below (pxp CB) hb⟩; have nAB_ : Aside0 (w6.heap[ga]? = some (.cells #[.int .i64 5, .int .i64 (q : Int), .string ⟨#[]⟩] 61 (0, 0))) := ⟨blk_below (pxp AB) hb⟩; have nHX_ := pxs HX hb; have nHW_ := pxs HW hb; clear HB HX HW CB AB; have HB := n0_; clear n0_; have HX := nHX_; clear nHX_; have HW := nHW_; clear nHW_; have CB := nCB_; clear nCB_; have AB := nAB_; clear nAB_; clear hb; obtain ⟨xCB0, xCB1, xCB2, xCB3, xCB4, xCB5, xCB6, yCB0, yCB1, yCB2, yCB3, yCB4, yCB5, yCB6⟩ := pxf7 CB; obtain ⟨xAB0, xAB1, xAB2, yAB0, yAB1, yAB2⟩ := pxf3 AB) | (clear tok_e; go_at_call 34; (with_reducible refine (elem_arr ⟨5, (q : Int), ⟨#[]⟩⟩ _ (HP.out.hp.below (pxb HX)) HAT.out HB2.out).mono ?_); rintro e w7 ⟨rfl, hb⟩; dsimp only; have n0_ := pxs HB hb; have nCB_ : Aside0 (w7.heap[gc]? = some (.cells #[.string ⟨#[]⟩, .int .i64 (rd_T105 cs (q : Int)).f1.f0, .string (rd_T105 cs (q : Int)).f1.f1, .int .i64 (rd_T105 cs (q : Int)).f1.f2, .string (rd_T105 cs (q : Int)).f1.f3, .bool true, .slice B6 (rd_T105 cs (q : Int)).f3.length d6] 68 (0, 0))) := ⟨blk_below (pxp CB) hb⟩; have nAB_ : Aside0 (w7.heap[ga]? = some (.cells #[.int .i64 5, .int .i64 (q : Int), .string ⟨#[]⟩] 61 (0, 0))) := ⟨blk_below (pxp AB) hb⟩; have nHX_ := pxs HX hb; have nHW_ := pxs HW hb; clear HB HX HW CB AB; have HB := n0_; clear n0_; have HX := nHX_; clear nHX_; have HW := nHW_; clear nHW_; have CB := nCB_; clear nCB_; have AB := nAB_; clear nAB_; clear hb; obtain ⟨xCB0, xCB1, xCB2, xCB3, xCB4, xCB5, xCB6, yCB0, yCB1, yCB2, yCB3, yCB4, yCB5, yCB6⟩ := pxf7 CB; obtain ⟨xAB0, xAB1, xAB2, yAB0, yAB1, yAB2⟩ := pxf3 AB))
        generalize hW_ : World.alloc w7 _ = w8
        generalize hg_ : w7.heap.size = ge
        have EB : Aside0 (w8.heap[ge]? = some (.cells #[.int .i64 (rd_T105 cs (q : Int)).f1.f0, .string (rd_T105 cs (q : Int)).f1.f1, .int .i64 (rd_T105 cs (q : Int)).f1.f2, .string (rd_T105 cs (q : Int)).f1.f3] 59 (0, 0))) := ⟨by rw [← hW_, ← hg_]; exact blk_new _ _⟩
        have nHB_ : Aside0 (Below w0.heap.size w0 w8) := ⟨by rw [← hW_]; exact below_alloc HB.out _⟩
        have GHBEB : Aside0 (w0.heap.size ≤ ge) := ⟨by rw [← hg_]; exact HB.out.size⟩
        have nHX_ : Aside0 (Below wt.heap.size wt w8) := ⟨by rw [← hW_]; exact below_alloc HX.out _⟩
        have GHXEB : Aside0 (wt.heap.size ≤ ge) := ⟨by rw [← hg_]; exact HX.out.size⟩
        have nHW_ : Aside0 (Below wr.heap.size wr w8) := ⟨by rw [← hW_]; exact below_alloc HW.out _⟩
        have GHWEB : Aside0 (wr.heap.size ≤ ge) := ⟨by rw [← hg_]; exact HW.out.size⟩
        have nCB_ : Aside0 (w8.heap[gc]? = some (.cells #[.string ⟨#[]⟩, .int .i64 (rd_T105 cs (q : Int)).f1.f0, .string (rd_T105 cs (q : Int)).f1.f1, .int .i64 (rd_T105 cs (q : Int)).f1.f2, .string (rd_T105 cs (q : Int)).f1.f3, .bool true, .slice B6 (rd_T105 cs (q : Int)).f3.length d6] 68 (0, 0))) := ⟨by rw [← hW_]; exact blk_alloc CB.out _⟩
        have eCBEB : gc ≠ ge := by rw [← hg_]; exact Nat.ne_of_lt (blk_lt CB.out)
        have eEBCB : ge ≠ gc := Ne.symm eCBEB
        have nAB_ : Aside0 (w8.heap[ga]? = some (.cells #[.int .i64 5, .int .i64 (q : Int), .string ⟨#[]⟩] 61 (0, 0))) := ⟨by rw [← hW_]; exact blk_alloc AB.out _⟩
        have eABEB : ga ≠ ge := by rw [← hg_]; exact Nat.ne_of_lt (blk_lt AB.out)
        have eEBAB : ge ≠ ga := Ne.symm eABEB
        clear hW_ hg_ HB HX HW
        clear xCB0 yCB0 xCB1 yCB1 xCB2 yCB2 xCB3 yCB3 xCB4 yCB4 xCB5 yCB5 xCB6 yCB6
        clear CB
        clear xAB0 yAB0 xAB1 yAB1 xAB2 yAB2
        clear AB
        have HB := nHB_
        clear nHB_
        have HX := nHX_
        clear nHX_
        have HW := nHW_
        clear nHW_
        have CB := nCB_
        clear nCB_
        obtain ⟨xCB0, xCB1, xCB2, xCB3, xCB4, xCB5, xCB6, yCB0, yCB1, yCB2, yCB3, yCB4, yCB5, yCB6⟩ := pxf7 CB
        have AB := nAB_
        clear nAB_
        obtain ⟨xAB0, xAB1, xAB2, yAB0, yAB1, yAB2⟩ := pxf3 AB
        obtain ⟨xEB0, xEB1, xEB2, xEB3, yEB0, yEB1, yEB2, yEB3⟩ := pxf4 EB
        refine start_ (n := 30) (S := fun w' => w'.cell? ⟨gc, 0, none⟩ = some (.string ⟨#[]⟩) ∧ w'.cell? ⟨gc, 1, none⟩ = some (.int .i64 (rd_T105 cs (q : Int)).f1.f0) ∧ w'.cell? ⟨gc, 2, none⟩ = some (.string (rd_T105 cs (q : Int)).f1.f1) ∧ w'.cell? ⟨gc, 3, none⟩ = some (.int .i64 (rd_T105 cs (q : Int)).f1.f2) ∧ w'.cell? ⟨gc, 4, none⟩ = some (.string (rd_T105 cs (q : Int)).f1.f3) ∧ w'.cell? ⟨gc, 5, none⟩ = some (.bool true) ∧ w'.cell? ⟨gc, 6, none⟩ = some (.slice B6 (rd_T105 cs (q : Int)).f3.length d6) ∧ w'.cell? ⟨ga, 0, none⟩ = some (.int .i64 5) ∧ w'.cell? ⟨ga, 1, none⟩ = some (.int .i64 (q : Int)) ∧ w'.cell? ⟨ga, 2, none⟩ = some (.string ⟨#[]⟩) ∧ w'.cell? ⟨ge, 0, none⟩ = some (.int .i64 (rd_T105 cs (q : Int)).f1.f0) ∧ w'.cell? ⟨ge, 1, none⟩ = some (.string (rd_T105 cs (q : Int)).f1.f1) ∧ w'.cell? ⟨ge, 2, none⟩ = some (.int .i64 (rd_T105 cs (q : Int)).f1.f2) ∧ w'.cell? ⟨ge, 3, none⟩ = some (.string (rd_T105 cs (q : Int)).f1.f3)) (ds := []) #[false, false, false, false, false, false, false, false, false, false, false, false, false, false, false, false, false, false, false, false, false, false, false, false, false, false, false, false, false, false] (by kernel_rfl) rfl rfl ⟨(pxf7 ⟨blk_drew (pxp (o := .cells #[.string ⟨#[]⟩, .int .i64 (rd_T105 cs (q : Int)).f1.f0, .string (rd_T105 cs (q : Int)).f1.f1, .int .i64 (rd_T105 cs (q : Int)).f1.f2, .string (rd_T105 cs (q : Int)).f1.f3, .bool true, .slice B6 (rd_T105 cs (q : Int)).f3.length d6] 68 (0, 0)) CB)⟩).1, (pxf7 ⟨blk_drew (pxp (o := .cells #[.string ⟨#[]⟩, .int .i64 (rd_T105 cs (q : Int)).f1.f0, .string (rd_T105 cs (q : Int)).f1.f1, .int .i64 (rd_T105 cs (q : Int)).f1.f2, .string (rd_T105 cs (q : Int)).f1.f3, .bool true, .slice B6 (rd_T105 cs (q : Int)).f3.length d6] 68 (0, 0)) CB)⟩).2.1, (pxf7 ⟨blk_drew (pxp (o := .cells #[.string ⟨#[]⟩, .int .i64 (rd_T105 cs (q : Int)).f1.f0, .string (rd_T105 cs (q : Int)).f1.f1, .int .i64 (rd_T105 cs (q : Int)).f1.f2, .string (rd_T105 cs (q : Int)).f1.f3, .bool true, .slice B6 (rd_T105 cs (q : Int)).f3.length d6] 68 (0, 0)) CB)⟩).2.2.1, (pxf7 ⟨blk_drew (pxp (o := .cells #[.string ⟨#[]⟩, .int .i64 (rd_T105 cs (q : Int)).f1.f0, .string (rd_T105 cs (q : Int)).f1.f1, .int .i64 (rd_T105 cs (q : Int)).f1.f2, .string (rd_T105 cs (q : Int)).f1.f3, .bool true, .slice B6 (rd_T105 cs (q : Int)).f3.length d6] 68 (0, 0)) CB)⟩).2.2.2.1, (pxf7 ⟨blk_drew (pxp (o := .cells #[.string ⟨#[]⟩, .int .i64 (rd_T105 cs (q : Int)).f1.f0, .string (rd_T105 cs (q : Int)).f1.f1, .int .i64 (rd_T105 cs (q : Int)).f1.f2, .string (rd_T105 cs (q : Int)).f1.f3, .bool true, .slice B6 (rd_T105 cs (q : Int)).f3.length d6] 68 (0, 0)) CB)⟩).2.2.2.2.1, (pxf7 ⟨blk_drew (pxp (o := .cells #[.string ⟨#[]⟩, .int .i64 (rd_T105 cs (q : Int)).f1.f0, .string (rd_T105 cs (q : Int)).f1.f1, .int .i64 (rd_T105 cs (q : Int)).f1.f2, .string (rd_T105 cs (q : Int)).f1.f3, .bool true, .slice B6 (rd_T105 cs (q : Int)).f3.length d6] 68 (0, 0)) CB)⟩).2.2.2.2.2.1, (pxf7 ⟨blk_drew (pxp (o := .cells #[.string ⟨#[]⟩, .int .i64 (rd_T105 cs (q : Int)).f1.f0, .string (rd_T105 cs (q : Int)).f1.f1, .int .i64 (rd_T105 cs (q : Int)).f1.f2, .string (rd_T105 cs (q : Int)).f1.f3, .bool true, .slice B6 (rd_T105 cs (q : Int)).f3.length d6] 68 (0, 0)) CB)⟩).2.2.2.2.2.2.1, (pxf3 ⟨blk_drew (pxp (o := .cells #[.int .i64 5, .int .i64 (q : Int), .string ⟨#[]⟩] 61 (0, 0)) AB)⟩).1, (pxf3 ⟨blk_drew (pxp (o := .cells #[.int .i64 5, .int .i64 (q : Int), .string ⟨#[]⟩] 61 (0, 0)) AB)⟩).2.1, (pxf3 ⟨blk_drew (pxp (o := .cells #[.int .i64 5, .int .i64 (q : Int), .string ⟨#[]⟩] 61 (0, 0)) AB)⟩).2.2.1, (pxf4 ⟨blk_drew (pxp (o := .cells #[.int .i64 (rd_T105 cs (q : Int)).f1.f0, .string (rd_T105 cs (q : Int)).f1.f1, .int .i64 (rd_T105 cs (q : Int)).f1.f2, .string (rd_T105 cs (q : Int)).f1.f3] 59 (0, 0)) EB)⟩).1, (pxf4 ⟨blk_drew (pxp (o := .cells #[.int .i64 (rd_T105 cs (q : Int)).f1.f0, .string (rd_T105 cs (q : Int)).f1.f1, .int .i64 (rd_T105 cs (q : Int)).f1.f2, .string (rd_T105 cs (q : Int)).f1.f3] 59 (0, 0)) EB)⟩).2.1, (pxf4 ⟨blk_drew (pxp (o := .cells #[.int .i64 (rd_T105 cs (q : Int)).f1.f0, .string (rd_T105 cs (q : Int)).f1.f1, .int .i64 (rd_T105 cs (q : Int)).f1.f2, .string (rd_T105 cs (q : Int)).f1.f3] 59 (0, 0)) EB)⟩).2.2.1, (pxf4 ⟨blk_drew (pxp (o := .cells #[.int .i64 (rd_T105 cs (q : Int)).f1.f0, .string (rd_T105 cs (q : Int)).f1.f1, .int .i64 (rd_T105 cs (q : Int)).f1.f2, .string (rd_T105 cs (q : Int)).f1.f3] 59 (0, 0)) EB)⟩).2.2.2.1⟩ (fun hHeld => ?_); refine with_tab rfl (fun HT_ => ?_)
        generalize hW_ : World.drew _ = wd at hHeld ⊢
        have n0_ : Aside0 (Below w0.heap.size w0 wd) := ⟨by rw [← hW_]; exact below_drew1 (pxb HB)⟩
        have nHW_ : Aside0 (Below wr.heap.size wr wd) := ⟨by rw [← hW_]; exact below_drew1 HW.out⟩
        have nHX_ : Aside0 (Below wt.heap.size wt wd) := ⟨by rw [← hW_]; exact below_drew1 HX.out⟩
        have nCB_ : Aside0 (wd.heap[gc]? = some (.cells #[.string ⟨#[]⟩, .int .i64 (rd_T105 cs (q : Int)).f1.f0, .string (rd_T105 cs (q : Int)).f1.f1, .int .i64 (rd_T105 cs (q : Int)).f1.f2, .string (rd_T105 cs (q : Int)).f1.f3, .bool true, .slice B6 (rd_T105 cs (q : Int)).f3.length d6] 68 (0, 0))) := ⟨by rw [← hW_]; exact blk_drew (pxp CB)⟩
        have nAB_ : Aside0 (wd.heap[ga]? = some (.cells #[.int .i64 5, .int .i64 (q : Int), .string ⟨#[]⟩] 61 (0, 0))) := ⟨by rw [← hW_]; exact blk_drew (pxp AB)⟩
        have nEB_ : Aside0 (wd.heap[ge]? = some (.cells #[.int .i64 (rd_T105 cs (q : Int)).f1.f0, .string (rd_T105 cs (q : Int)).f1.f1, .int .i64 (rd_T105 cs (q : Int)).f1.f2, .string (rd_T105 cs (q : Int)).f1.f3] 59 (0, 0))) := ⟨by rw [← hW_]; exact blk_drew (pxp EB)⟩
        clear hW_ HB CB AB EB
        have HB := n0_
        have CB := nCB_
        have AB := nAB_
        have EB := nEB_
        clear n0_ nCB_ nAB_ nEB_
        clear HX HW
        have HX := nHX_
        have HW := nHW_
        clear nHX_ nHW_
        refine tT 0 360 HT_ hHeld ?_
        refine pS 2 362 HT_ ?_
        refine tT 3 363 HT_ hHeld ?_
        refine pS 4 364 HT_ ?_
        refine oS 1 HT_ (fun K hK => ?_)
        refine goes_ Try.func35 (by kernel_rfl) rfl #[.pointer (some ⟨g, 0, none⟩), .agg #[.int .i64 5, .int .i64 (q : Int), .string ⟨#[]⟩]] (by rfl) rfl rfl (by (try simp only [List.map_toArray, List.map_cons, List.map_nil]); first | done | rfl) ?_
        (with_reducible refine (len_yes ⟨5, (q : Int), ⟨#[]⟩⟩ _ (HP.out.hp.below (pxb HX)) HAT.out).mono ?_)
        rintro e wl ⟨rfl, hb⟩
        refine ⟨_, rfl, ?_⟩
        have n0_ := pxs HB hb; have nCB_ : Aside0 (wl.heap[gc]? = some (.cells #[.string ⟨#[]⟩, .int .i64 (rd_T105 cs (q : Int)).f1.f0, .string (rd_T105 cs (q : Int)).f1.f1, .int .i64 (rd_T105 cs (q : Int)).f1.f2, .string (rd_T105 cs (q : Int)).f1.f3, .bool true, .slice B6 (rd_T105 cs (q : Int)).f3.length d6] 68 (0, 0))) := ⟨blk_below (pxp CB) hb⟩; have nAB_ : Aside0 (wl.heap[ga]? = some (.cells #[.int .i64 5, .int .i64 (q : Int), .string ⟨#[]⟩] 61 (0, 0))) := ⟨blk_below (pxp AB) hb⟩; have nEB_ : Aside0 (wl.heap[ge]? = some (.cells #[.int .i64 (rd_T105 cs (q : Int)).f1.f0, .string (rd_T105 cs (q : Int)).f1.f1, .int .i64 (rd_T105 cs (q : Int)).f1.f2, .string (rd_T105 cs (q : Int)).f1.f3] 59 (0, 0))) := ⟨blk_below (pxp EB) hb⟩; have nHX_ := pxs HX hb; have nHW_ := pxs HW hb; clear HB HX HW CB AB EB; have HB := n0_; clear n0_; have HX := nHX_; clear nHX_; have HW := nHW_; clear nHW_; have CB := nCB_; clear nCB_; have AB := nAB_; clear nAB_; have EB := nEB_; clear nEB_
        refine hK.out _ _ ⟨(pxf7 CB).1, (pxf7 CB).2.1, (pxf7 CB).2.2.1, (pxf7 CB).2.2.2.1, (pxf7 CB).2.2.2.2.1, (pxf7 CB).2.2.2.2.2.1, (pxf7 CB).2.2.2.2.2.2.1, (pxf3 AB).1, (pxf3 AB).2.1, (pxf3 AB).2.2.1, (pxf4 EB).1, (pxf4 EB).2.1, (pxf4 EB).2.2.1, (pxf4 EB).2.2.2.1⟩ (fun hHeld => ?_)
        clear hK K hb
        refine nS 361 ?_
        refine pS 5 365 HT_ ?_
        refine pS 6 366 HT_ ?_
        refine pS 7 367 HT_ ?_
        refine pS 8 368 HT_ ?_
        refine tT 9 369 HT_ hHeld ?_
        refine pS 10 370 HT_ ?_
        refine pS 11 371 HT_ ?_
        refine pS 12 372 HT_ ?_
        refine pS 13 373 HT_ ?_
        refine pS 14 374 HT_ ?_
        refine tT 15 375 HT_ hHeld ?_
        refine pS 16 376 HT_ ?_
        refine pS 17 377 HT_ ?_
        refine pS 18 378 HT_ ?_
        refine pS 19 379 HT_ ?_
        refine pS 20 380 HT_ ?_
        refine tT 21 381 HT_ hHeld ?_
        refine pS 22 382 HT_ ?_
        refine pS 23 383 HT_ ?_
        refine pS 24 384 HT_ ?_
        refine tT 25 385 HT_ hHeld ?_
        refine pS 26 386 HT_ ?_
        refine tT 27 387 HT_ hHeld ?_
        refine oS 28 HT_ (fun K hK => ?_)
        refine value_ (w1 := ?_) (v := ?_) (by rfl) rfl ?_ ?_
        rotate_left 2
        · go_simp
          constructor
          · rfl
          · rfl
        refine hK.out _ _ ⟨(pxf7 CB).1, (pxf7 CB).2.1, (pxf7 CB).2.2.1, (pxf7 CB).2.2.2.1, (pxf7 CB).2.2.2.2.1, (pxf7 CB).2.2.2.2.2.1, (pxf7 CB).2.2.2.2.2.2.1, (pxf3 AB).1, (pxf3 AB).2.1, (pxf3 AB).2.2.1, (pxf4 EB).1, (pxf4 EB).2.1, (pxf4 EB).2.2.1, (pxf4 EB).2.2.2.1⟩ (fun hHeld => ?_)
        clear hK K
        refine nS 388 ?_
        refine pS 29 389 HT_ ?_
        refine done_ (done_of HT_.out (by kernel_rfl)) ?_
        clear HT_ hHeld
        obtain ⟨xCB0, xCB1, xCB2, xCB3, xCB4, xCB5, xCB6, yCB0, yCB1, yCB2, yCB3, yCB4, yCB5, yCB6⟩ := pxf7 CB
        obtain ⟨xAB0, xAB1, xAB2, yAB0, yAB1, yAB2⟩ := pxf3 AB
        obtain ⟨xEB0, xEB1, xEB2, xEB3, yEB0, yEB1, yEB2, yEB3⟩ := pxf4 EB
        have HPl := Aside0.mk (HP.out.below (pxb HX))
        have HCl := Aside0.mk (Kd.C_below HC8.out (pxb HW))
        have HBl := HB
        have HXl := HX
        have ABl := AB
        have HQ := Aside0.mk (Below.refl wl.heap.size wl)
        clear HW
        go_upto_region 85 with (fail)
        go_loopg [393] (rd_T105 cs (q : Int)).f3.length (fun kq v393 w' => ∃ k : Nat, v393 = .int .i64 k ∧ Hid (k ≤ (rd_T105 cs (q : Int)).f3.length ∧ kq = (rd_T105 cs (q : Int)).f3.length - k) ∧ Aside0 (Below w0.heap.size w0 w') ∧ Aside0 (Below wl.heap.size wl w'))
        case atStart => exact ⟨0, rfl, ⟨Nat.zero_le _, rfl⟩, ⟨pxb HB⟩, ⟨pxb HQ⟩⟩
        case round =>
          clear HB HX HQ CB AB EB
          clear xCB0 yCB0 xCB1 yCB1 xCB2 yCB2 xCB3 yCB3 xCB4 yCB4 xCB5 yCB5 xCB6 yCB6
          clear xAB0 yAB0 xAB1 yAB1 xAB2 yAB2
          clear xEB0 yEB0 xEB1 yEB1 xEB2 yEB2 xEB3 yEB3
          obtain ⟨k, rfl, HJ, HB, HQ⟩ := hrel
          by_cases hk : k < (rd_T105 cs (q : Int)).f3.length
          · have HKT := Lib.hid hk
            have m4 : decide ((k : Int) < ((rd_T105 cs (q : Int)).f3.length : Int)) = true := decide_eq_true (by omega)
            have m5 : decide (k < (rd_T105 cs (q : Int)).f3.length) = true := decide_eq_true hk
            have r0 : (0 ≤ (k : Int)) = True := eq_true (by omega)
            have r1 : ((k : Int) < ((rd_T105 cs (q : Int)).f3.length : Int)) = True := eq_true (by omega)
            have r2 : (k < (rd_T105 cs (q : Int)).f3.length) = True := eq_true (by omega)
            obtain ⟨adv, hadv, z0, z1, z2⟩ := at_T61 (Kd.C_below HCl.out HQ.out) (k : Int) (by omega) (by omega)
            subst hadv
            rw [Int.toNat_natCast] at z0 z1 z2
            have HK2 := Aside0.mk (And.intro (show 0 ≤ (k : Int) by omega) (show (k : Int) < ((rd_T105 cs (q : Int)).f3.length : Int) by omega))
            clear hk
            have AB := Aside0.mk (blk_below ABl.out HQ.out)
            obtain ⟨xAB0, xAB1, xAB2, yAB0, yAB1, yAB2⟩ := pxf3 AB
            go_upto_region 87 with (fail)
            generalize hW_ : World.alloc wr _ = w10
            generalize hg_ : wr.heap.size = gv
            have VB : Aside0 (w10.heap[gv]? = some (.cells #[.int .i64 (rd_T61 (rd_T105 cs (q : Int)).f3 (k : Int)).f0, .int .i64 (rd_T61 (rd_T105 cs (q : Int)).f3 (k : Int)).f1, .string (rd_T61 (rd_T105 cs (q : Int)).f3 (k : Int)).f2] 61 (0, 0))) := ⟨by rw [← hW_, ← hg_]; exact blk_new _ _⟩
            have nHB_ : Aside0 (Below w0.heap.size w0 w10) := ⟨by rw [← hW_]; exact below_alloc HB.out _⟩
            have GHBVB : Aside0 (w0.heap.size ≤ gv) := ⟨by rw [← hg_]; exact HB.out.size⟩
            have nHQ_ : Aside0 (Below wl.heap.size wl w10) := ⟨by rw [← hW_]; exact below_alloc HQ.out _⟩
            have GHQVB : Aside0 (wl.heap.size ≤ gv) := ⟨by rw [← hg_]; exact HQ.out.size⟩
            have nAB_ : Aside0 (w10.heap[ga]? = some (.cells #[.int .i64 5, .int .i64 (q : Int), .string ⟨#[]⟩] 61 (0, 0))) := ⟨by rw [← hW_]; exact blk_alloc AB.out _⟩
            have eABVB : ga ≠ gv := by rw [← hg_]; exact Nat.ne_of_lt (blk_lt AB.out)
            have eVBAB : gv ≠ ga := Ne.symm eABVB
            clear hW_ hg_ HB HQ
            clear xAB0 yAB0 xAB1 yAB1 xAB2 yAB2
            clear AB
            have HB := nHB_
            clear nHB_
            have HQ := nHQ_
            clear nHQ_
            have AB := nAB_
            clear nAB_
            obtain ⟨xAB0, xAB1, xAB2, yAB0, yAB1, yAB2⟩ := pxf3 AB
            obtain ⟨xVB0, xVB1, xVB2, yVB0, yVB1, yVB2⟩ := pxf3 VB
            clear z0 z1 z2
            have tok_g : True := trivial
            go_upto_region 88 with (first | (clear tok_g; go_at_call 29; (with_reducible refine (load_in ⟨5, (q : Int), ⟨#[]⟩⟩ (k : Int) _ (HPl.out.hp.below (pxb HQ)) HAT.out HK2.out.1 HK2.out.2).mono ?_); rintro e w11 ⟨rfl, hb⟩; dsimp only; have n0_ := pxs HB hb; have nAB_ : Aside0 (w11.heap[ga]? = some (.cells #[.int .i64 5, .int .i64 (q : Int), .string ⟨#[]⟩] 61 (0, 0))) := ⟨blk_below (pxp AB) hb⟩; have nVB_ : Aside0 (w11.heap[gv]? = some (.cells #[.int .i64 (rd_T61 (rd_T105 cs (q : Int)).f3 (k : Int)).f0, .int .i64 (rd_T61 (rd_T105 cs (q : Int)).f3 (k : Int)).f1, .string (rd_T61 (rd_T105 cs (q : Int)).f3 (k : Int)).f2] 61 (0, 0))) := ⟨blk_below (pxp VB) hb⟩; have nHQ_ := pxs HQ hb; clear HB HQ AB VB; have HB := n0_; clear n0_; have HQ := nHQ_; clear nHQ_; have AB := nAB_; clear nAB_; have VB := nVB_; clear nVB_; clear hb; obtain ⟨xAB0, xAB1, xAB2, yAB0, yAB1, yAB2⟩ := pxf3 AB; obtain ⟨xVB0, xVB1, xVB2, yVB0, yVB1, yVB2⟩ := pxf3 VB))
            generalize hW_ : World.alloc w11 _ = w12
            generalize hg_ : w11.heap.size = gw
            have WB : Aside0 (w12.heap[gw]? = some (.cells #[.int .i64 (rd_T61 (rd_T105 cs (q : Int)).f3 (k : Int)).f0, .int .i64 (rd_T61 (rd_T105 cs (q : Int)).f3 (k : Int)).f1, .string (rd_T61 (rd_T105 cs (q : Int)).f3 (k : Int)).f2] 61 (0, 0))) := ⟨by rw [← hW_, ← hg_]; exact blk_new _ _⟩
            have nHB_ : Aside0 (Below w0.heap.size w0 w12) := ⟨by rw [← hW_]; exact below_alloc HB.out _⟩
            have GHBWB : Aside0 (w0.heap.size ≤ gw) := ⟨by rw [← hg_]; exact HB.out.size⟩
            have nHQ_ : Aside0 (Below wl.heap.size wl w12) := ⟨by rw [← hW_]; exact below_alloc HQ.out _⟩
            have GHQWB : Aside0 (wl.heap.size ≤ gw) := ⟨by rw [← hg_]; exact HQ.out.size⟩
            have nAB_ : Aside0 (w12.heap[ga]? = some (.cells #[.int .i64 5, .int .i64 (q : Int), .string ⟨#[]⟩] 61 (0, 0))) := ⟨by rw [← hW_]; exact blk_alloc AB.out _⟩
            have eABWB : ga ≠ gw := by rw [← hg_]; exact Nat.ne_of_lt (blk_lt AB.out)
            have eWBAB : gw ≠ ga := Ne.symm eABWB
            have nVB_ : Aside0 (w12.heap[gv]? = some (.cells #[.int .i64 (rd_T61 (rd_T105 cs (q : Int)).f3 (k : Int)).f0, .int .i64 (rd_T61 (rd_T105 cs (q : Int)).f3 (k : Int)).f1, .string (rd_T61 (rd_T105 cs (q : Int)).f3 (k : Int)).f2] 61 (0, 0))) := ⟨by rw [← hW_]; exact blk_alloc VB.out _⟩
            have eVBWB : gv ≠ gw := by rw [← hg_]; exact Nat.ne_of_lt (blk_lt VB.out)
            have eWBVB : gw ≠ gv := Ne.symm eVBWB
            clear hW_ hg_ HB HQ
            clear xAB0 yAB0 xAB1 yAB1 xAB2 yAB2
            clear AB
            clear xVB0 yVB0 xVB1 yVB1 xVB2 yVB2
            clear VB
            have HB := nHB_
            clear nHB_
            have HQ := nHQ_
            clear nHQ_
            have AB := nAB_
            clear nAB_
            obtain ⟨xAB0, xAB1, xAB2, yAB0, yAB1, yAB2⟩ := pxf3 AB
            have VB := nVB_
            clear nVB_
            obtain ⟨xVB0, xVB1, xVB2, yVB0, yVB1, yVB2⟩ := pxf3 VB
            obtain ⟨xWB0, xWB1, xWB2, yWB0, yWB1, yWB2⟩ := pxf3 WB
            go_wp2_with (fail)
            go_roundg ((rd_T105 cs (q : Int)).f3.length - (k + 1))
            case measure => have := HJ.out; have := HKT.out; omega
            case rel => exact ⟨k + 1, by first | rfl | (rw [wrap_id (by omega) (by have := HKT.out; have := HJ.out; have := hnl.out; omega)]; rfl), ⟨by have := HKT.out; omega, rfl⟩, ⟨pxb HB⟩, ⟨pxb HQ⟩⟩
          · have m4 : decide ((k : Int) < ((rd_T105 cs (q : Int)).f3.length : Int)) = false := decide_eq_false (by omega)
            have m5 : decide (k < (rd_T105 cs (q : Int)).f3.length) = false := decide_eq_false hk
            clear hk
            go_wp2_with (fail)
            go_roundg (cs.length - (q + 1))
            case measure => have := HI.out; have := HLT.out; omega
            case rel => exact ⟨q + 1, by first | rfl | (rw [wrap_id (by omega) (by have := HLT.out; have := HLEN.out; omega)]; rfl), ⟨by have := HLT.out; omega, rfl⟩, ⟨pxb HB⟩, ⟨below_step HXl.out (pxb HQ)⟩⟩
      case false =>
        have HB2 := Aside0.mk hb2
        obtain ⟨hwf1, hwf2⟩ := HWF.out
        have HF := Aside0.mk (hwf2 hb2)
        have hf0 := HF.out
        clear hwf1 hwf2
        rw [hf0] at xCB1 xCB2 xCB3 xCB4
        rw [hb2] at xCB5
        have nCB := Aside0.mk (show w5.heap[gc]? = some (.cells #[.string (rd_T105 cs (q : Int)).f0, .int .i64 0, .string ⟨#[]⟩, .int .i64 0, .string ⟨#[]⟩, .bool false, .slice B6 (rd_T105 cs (q : Int)).f3.length d6] 68 (0, 0)) from by have h := CB.out; rw [hf0, hb2] at h; exact h)
        clear CB hf0 hb2 xCB0 yCB0 xCB1 yCB1 xCB2 yCB2 xCB3 yCB3 xCB4 yCB4 xCB5 yCB5 xCB6 yCB6
        have CB := nCB
        clear nCB
        obtain ⟨xCB0, xCB1, xCB2, xCB3, xCB4, xCB5, xCB6, yCB0, yCB1, yCB2, yCB3, yCB4, yCB5, yCB6⟩ := pxf7 CB
        go_upto_region 82 with (first | (clear tok_d; go_at_call 33; (with_reducible refine (class_obj ⟨5, (q : Int), ⟨#[]⟩⟩ _ (HP.out.hp.below (pxb HX)) HAT.out HB2.out).mono ?_); rintro e w6 ⟨rfl, hb⟩; dsimp only; have n0_ := pxs HB hb; have nCB_ : Aside0 (w6.heap[gc]? = some (.cells #[.string (rd_T105 cs (q : Int)).f0, .int .i64 0, .string ⟨#[]⟩, .int .i64 0, .string ⟨#[]⟩, .bool false, .slice B6 (rd_T105 cs (q : Int)).f3.length d6] 68 (0, 0))) := ⟨blk_below (pxp CB) hb⟩; have nAB_ : Aside0 (w6.heap[ga]? = some (.cells #[.int .i64 5, .int .i64 (q : Int), .string ⟨#[]⟩] 61 (0, 0))) := ⟨blk_below (pxp AB) hb⟩; have nHX_ := pxs HX hb; have nHW_ := pxs HW hb; clear HB HX HW CB AB; have HB := n0_; clear n0_; have HX := nHX_; clear nHX_; have HW := nHW_; clear nHW_; have CB := nCB_; clear nCB_; have AB := nAB_; clear nAB_; clear hb; obtain ⟨xCB0, xCB1, xCB2, xCB3, xCB4, xCB5, xCB6, yCB0, yCB1, yCB2, yCB3, yCB4, yCB5, yCB6⟩ := pxf7 CB; obtain ⟨xAB0, xAB1, xAB2, yAB0, yAB1, yAB2⟩ := pxf3 AB) | (clear tok_e; go_at_call 34; (with_reducible refine (elem_obj ⟨5, (q : Int), ⟨#[]⟩⟩ _ (HP.out.hp.below (pxb HX)) HAT.out HB2.out).mono ?_); rintro e w7 ⟨rfl, hb⟩; dsimp only; have n0_ := pxs HB hb; have nCB_ : Aside0 (w7.heap[gc]? = some (.cells #[.string (rd_T105 cs (q : Int)).f0, .int .i64 0, .string ⟨#[]⟩, .int .i64 0, .string ⟨#[]⟩, .bool false, .slice B6 (rd_T105 cs (q : Int)).f3.length d6] 68 (0, 0))) := ⟨blk_below (pxp CB) hb⟩; have nAB_ : Aside0 (w7.heap[ga]? = some (.cells #[.int .i64 5, .int .i64 (q : Int), .string ⟨#[]⟩] 61 (0, 0))) := ⟨blk_below (pxp AB) hb⟩; have nHX_ := pxs HX hb; have nHW_ := pxs HW hb; clear HB HX HW CB AB; have HB := n0_; clear n0_; have HX := nHX_; clear nHX_; have HW := nHW_; clear nHW_; have CB := nCB_; clear nCB_; have AB := nAB_; clear nAB_; clear hb; obtain ⟨xCB0, xCB1, xCB2, xCB3, xCB4, xCB5, xCB6, yCB0, yCB1, yCB2, yCB3, yCB4, yCB5, yCB6⟩ := pxf7 CB; obtain ⟨xAB0, xAB1, xAB2, yAB0, yAB1, yAB2⟩ := pxf3 AB))
        generalize hW_ : World.alloc w7 _ = w8
        generalize hg_ : w7.heap.size = ge
        have EB : Aside0 (w8.heap[ge]? = some (.cells #[.int .i64 0, .string ⟨#[]⟩, .int .i64 0, .string ⟨#[]⟩] 59 (0, 0))) := ⟨by rw [← hW_, ← hg_]; exact blk_new _ _⟩
        have nHB_ : Aside0 (Below w0.heap.size w0 w8) := ⟨by rw [← hW_]; exact below_alloc HB.out _⟩
        have GHBEB : Aside0 (w0.heap.size ≤ ge) := ⟨by rw [← hg_]; exact HB.out.size⟩
        have nHX_ : Aside0 (Below wt.heap.size wt w8) := ⟨by rw [← hW_]; exact below_alloc HX.out _⟩
        have GHXEB : Aside0 (wt.heap.size ≤ ge) := ⟨by rw [← hg_]; exact HX.out.size⟩
        have nHW_ : Aside0 (Below wr.heap.size wr w8) := ⟨by rw [← hW_]; exact below_alloc HW.out _⟩
        have GHWEB : Aside0 (wr.heap.size ≤ ge) := ⟨by rw [← hg_]; exact HW.out.size⟩
        have nCB_ : Aside0 (w8.heap[gc]? = some (.cells #[.string (rd_T105 cs (q : Int)).f0, .int .i64 0, .string ⟨#[]⟩, .int .i64 0, .string ⟨#[]⟩, .bool false, .slice B6 (rd_T105 cs (q : Int)).f3.length d6] 68 (0, 0))) := ⟨by rw [← hW_]; exact blk_alloc CB.out _⟩
        have eCBEB : gc ≠ ge := by rw [← hg_]; exact Nat.ne_of_lt (blk_lt CB.out)
        have eEBCB : ge ≠ gc := Ne.symm eCBEB
        have nAB_ : Aside0 (w8.heap[ga]? = some (.cells #[.int .i64 5, .int .i64 (q : Int), .string ⟨#[]⟩] 61 (0, 0))) := ⟨by rw [← hW_]; exact blk_alloc AB.out _⟩
        have eABEB : ga ≠ ge := by rw [← hg_]; exact Nat.ne_of_lt (blk_lt AB.out)
        have eEBAB : ge ≠ ga := Ne.symm eABEB
        clear hW_ hg_ HB HX HW
        clear xCB0 yCB0 xCB1 yCB1 xCB2 yCB2 xCB3 yCB3 xCB4 yCB4 xCB5 yCB5 xCB6 yCB6
        clear CB
        clear xAB0 yAB0 xAB1 yAB1 xAB2 yAB2
        clear AB
        have HB := nHB_
        clear nHB_
        have HX := nHX_
        clear nHX_
        have HW := nHW_
        clear nHW_
        have CB := nCB_
        clear nCB_
        obtain ⟨xCB0, xCB1, xCB2, xCB3, xCB4, xCB5, xCB6, yCB0, yCB1, yCB2, yCB3, yCB4, yCB5, yCB6⟩ := pxf7 CB
        have AB := nAB_
        clear nAB_
        obtain ⟨xAB0, xAB1, xAB2, yAB0, yAB1, yAB2⟩ := pxf3 AB
        obtain ⟨xEB0, xEB1, xEB2, xEB3, yEB0, yEB1, yEB2, yEB3⟩ := pxf4 EB
        refine start_ (n := 30) (S := fun w' => w'.cell? ⟨gc, 0, none⟩ = some (.string (rd_T105 cs (q : Int)).f0) ∧ w'.cell? ⟨gc, 1, none⟩ = some (.int .i64 0) ∧ w'.cell? ⟨gc, 2, none⟩ = some (.string ⟨#[]⟩) ∧ w'.cell? ⟨gc, 3, none⟩ = some (.int .i64 0) ∧ w'.cell? ⟨gc, 4, none⟩ = some (.string ⟨#[]⟩) ∧ w'.cell? ⟨gc, 5, none⟩ = some (.bool false) ∧ w'.cell? ⟨gc, 6, none⟩ = some (.slice B6 (rd_T105 cs (q : Int)).f3.length d6) ∧ w'.cell? ⟨ga, 0, none⟩ = some (.int .i64 5) ∧ w'.cell? ⟨ga, 1, none⟩ = some (.int .i64 (q : Int)) ∧ w'.cell? ⟨ga, 2, none⟩ = some (.string ⟨#[]⟩) ∧ w'.cell? ⟨ge, 0, none⟩ = some (.int .i64 0) ∧ w'.cell? ⟨ge, 1, none⟩ = some (.string ⟨#[]⟩) ∧ w'.cell? ⟨ge, 2, none⟩ = some (.int .i64 0) ∧ w'.cell? ⟨ge, 3, none⟩ = some (.string ⟨#[]⟩)) (ds := []) #[false, false, false, false, false, false, false, false, false, false, false, false, false, false, false, false, false, false, false, false, false, false, false, false, false, false, false, false, false, false] (by kernel_rfl) rfl rfl ⟨(pxf7 ⟨blk_drew (pxp (o := .cells #[.string (rd_T105 cs (q : Int)).f0, .int .i64 0, .string ⟨#[]⟩, .int .i64 0, .string ⟨#[]⟩, .bool false, .slice B6 (rd_T105 cs (q : Int)).f3.length d6] 68 (0, 0)) CB)⟩).1, (pxf7 ⟨blk_drew (pxp (o := .cells #[.string (rd_T105 cs (q : Int)).f0, .int .i64 0, .string ⟨#[]⟩, .int .i64 0, .string ⟨#[]⟩, .bool false, .slice B6 (rd_T105 cs (q : Int)).f3.length d6] 68 (0, 0)) CB)⟩).2.1, (pxf7 ⟨blk_drew (pxp (o := .cells #[.string (rd_T105 cs (q : Int)).f0, .int .i64 0, .string ⟨#[]⟩, .int .i64 0, .string ⟨#[]⟩, .bool false, .slice B6 (rd_T105 cs (q : Int)).f3.length d6] 68 (0, 0)) CB)⟩).2.2.1, (pxf7 ⟨blk_drew (pxp (o := .cells #[.string (rd_T105 cs (q : Int)).f0, .int .i64 0, .string ⟨#[]⟩, .int .i64 0, .string ⟨#[]⟩, .bool false, .slice B6 (rd_T105 cs (q : Int)).f3.length d6] 68 (0, 0)) CB)⟩).2.2.2.1, (pxf7 ⟨blk_drew (pxp (o := .cells #[.string (rd_T105 cs (q : Int)).f0, .int .i64 0, .string ⟨#[]⟩, .int .i64 0, .string ⟨#[]⟩, .bool false, .slice B6 (rd_T105 cs (q : Int)).f3.length d6] 68 (0, 0)) CB)⟩).2.2.2.2.1, (pxf7 ⟨blk_drew (pxp (o := .cells #[.string (rd_T105 cs (q : Int)).f0, .int .i64 0, .string ⟨#[]⟩, .int .i64 0, .string ⟨#[]⟩, .bool false, .slice B6 (rd_T105 cs (q : Int)).f3.length d6] 68 (0, 0)) CB)⟩).2.2.2.2.2.1, (pxf7 ⟨blk_drew (pxp (o := .cells #[.string (rd_T105 cs (q : Int)).f0, .int .i64 0, .string ⟨#[]⟩, .int .i64 0, .string ⟨#[]⟩, .bool false, .slice B6 (rd_T105 cs (q : Int)).f3.length d6] 68 (0, 0)) CB)⟩).2.2.2.2.2.2.1, (pxf3 ⟨blk_drew (pxp (o := .cells #[.int .i64 5, .int .i64 (q : Int), .string ⟨#[]⟩] 61 (0, 0)) AB)⟩).1, (pxf3 ⟨blk_drew (pxp (o := .cells #[.int .i64 5, .int .i64 (q : Int), .string ⟨#[]⟩] 61 (0, 0)) AB)⟩).2.1, (pxf3 ⟨blk_drew (pxp (o := .cells #[.int .i64 5, .int .i64 (q : Int), .string ⟨#[]⟩] 61 (0, 0)) AB)⟩).2.2.1, (pxf4 ⟨blk_drew (pxp (o := .cells #[.int .i64 0, .string ⟨#[]⟩, .int .i64 0, .string ⟨#[]⟩] 59 (0, 0)) EB)⟩).1, (pxf4 ⟨blk_drew (pxp (o := .cells #[.int .i64 0, .string ⟨#[]⟩, .int .i64 0, .string ⟨#[]⟩] 59 (0, 0)) EB)⟩).2.1, (pxf4 ⟨blk_drew (pxp (o := .cells #[.int .i64 0, .string ⟨#[]⟩, .int .i64 0, .string ⟨#[]⟩] 59 (0, 0)) EB)⟩).2.2.1, (pxf4 ⟨blk_drew (pxp (o := .cells #[.int .i64 0, .string ⟨#[]⟩, .int .i64 0, .string ⟨#[]⟩] 59 (0, 0)) EB)⟩).2.2.2.1⟩ (fun hHeld => ?_); refine with_tab rfl (fun HT_ => ?_)
        generalize hW_ : World.drew _ = wd at hHeld ⊢
        have n0_ : Aside0 (Below w0.heap.size w0 wd) := ⟨by rw [← hW_]; exact below_drew1 (pxb HB)⟩
        have nHW_ : Aside0 (Below wr.heap.size wr wd) := ⟨by rw [← hW_]; exact below_drew1 HW.out⟩
        have nHX_ : Aside0 (Below wt.heap.size wt wd) := ⟨by rw [← hW_]; exact below_drew1 HX.out⟩
        have nCB_ : Aside0 (wd.heap[gc]? = some (.cells #[.string (rd_T105 cs (q : Int)).f0, .int .i64 0, .string ⟨#[]⟩, .int .i64 0, .string ⟨#[]⟩, .bool false, .slice B6 (rd_T105 cs (q : Int)).f3.length d6] 68 (0, 0))) := ⟨by rw [← hW_]; exact blk_drew (pxp CB)⟩
        have nAB_ : Aside0 (wd.heap[ga]? = some (.cells #[.int .i64 5, .int .i64 (q : Int), .string ⟨#[]⟩] 61 (0, 0))) := ⟨by rw [← hW_]; exact blk_drew (pxp AB)⟩
        have nEB_ : Aside0 (wd.heap[ge]? = some (.cells #[.int .i64 0, .string ⟨#[]⟩, .int .i64 0, .string ⟨#[]⟩] 59 (0, 0))) := ⟨by rw [← hW_]; exact blk_drew (pxp EB)⟩
        clear hW_ HB CB AB EB
        have HB := n0_
        have CB := nCB_
        have AB := nAB_
        have EB := nEB_
        clear n0_ nCB_ nAB_ nEB_
        clear HX HW
        have HX := nHX_
        have HW := nHW_
        clear nHX_ nHW_
        refine tT 0 360 HT_ hHeld ?_
        refine pS 2 362 HT_ ?_
        refine tT 3 363 HT_ hHeld ?_
        refine pS 4 364 HT_ ?_
        refine oS 1 HT_ (fun K hK => ?_)
        refine goes_ Try.func35 (by kernel_rfl) rfl #[.pointer (some ⟨g, 0, none⟩), .agg #[.int .i64 5, .int .i64 (q : Int), .string ⟨#[]⟩]] (by rfl) rfl rfl (by (try simp only [List.map_toArray, List.map_cons, List.map_nil]); first | done | rfl) ?_
        (with_reducible refine (len_yes ⟨5, (q : Int), ⟨#[]⟩⟩ _ (HP.out.hp.below (pxb HX)) HAT.out).mono ?_)
        rintro e wl ⟨rfl, hb⟩
        refine ⟨_, rfl, ?_⟩
        have n0_ := pxs HB hb; have nCB_ : Aside0 (wl.heap[gc]? = some (.cells #[.string (rd_T105 cs (q : Int)).f0, .int .i64 0, .string ⟨#[]⟩, .int .i64 0, .string ⟨#[]⟩, .bool false, .slice B6 (rd_T105 cs (q : Int)).f3.length d6] 68 (0, 0))) := ⟨blk_below (pxp CB) hb⟩; have nAB_ : Aside0 (wl.heap[ga]? = some (.cells #[.int .i64 5, .int .i64 (q : Int), .string ⟨#[]⟩] 61 (0, 0))) := ⟨blk_below (pxp AB) hb⟩; have nEB_ : Aside0 (wl.heap[ge]? = some (.cells #[.int .i64 0, .string ⟨#[]⟩, .int .i64 0, .string ⟨#[]⟩] 59 (0, 0))) := ⟨blk_below (pxp EB) hb⟩; have nHX_ := pxs HX hb; have nHW_ := pxs HW hb; clear HB HX HW CB AB EB; have HB := n0_; clear n0_; have HX := nHX_; clear nHX_; have HW := nHW_; clear nHW_; have CB := nCB_; clear nCB_; have AB := nAB_; clear nAB_; have EB := nEB_; clear nEB_
        refine hK.out _ _ ⟨(pxf7 CB).1, (pxf7 CB).2.1, (pxf7 CB).2.2.1, (pxf7 CB).2.2.2.1, (pxf7 CB).2.2.2.2.1, (pxf7 CB).2.2.2.2.2.1, (pxf7 CB).2.2.2.2.2.2.1, (pxf3 AB).1, (pxf3 AB).2.1, (pxf3 AB).2.2.1, (pxf4 EB).1, (pxf4 EB).2.1, (pxf4 EB).2.2.1, (pxf4 EB).2.2.2.1⟩ (fun hHeld => ?_)
        clear hK K hb
        refine nS 361 ?_
        refine pS 5 365 HT_ ?_
        refine pS 6 366 HT_ ?_
        refine pS 7 367 HT_ ?_
        refine pS 8 368 HT_ ?_
        refine tT 9 369 HT_ hHeld ?_
        refine pS 10 370 HT_ ?_
        refine pS 11 371 HT_ ?_
        refine pS 12 372 HT_ ?_
        refine pS 13 373 HT_ ?_
        refine pS 14 374 HT_ ?_
        refine tT 15 375 HT_ hHeld ?_
        refine pS 16 376 HT_ ?_
        refine pS 17 377 HT_ ?_
        refine pS 18 378 HT_ ?_
        refine pS 19 379 HT_ ?_
        refine pS 20 380 HT_ ?_
        refine tT 21 381 HT_ hHeld ?_
        refine pS 22 382 HT_ ?_
        refine pS 23 383 HT_ ?_
        refine pS 24 384 HT_ ?_
        refine tT 25 385 HT_ hHeld ?_
        refine pS 26 386 HT_ ?_
        refine tT 27 387 HT_ hHeld ?_
        refine oS 28 HT_ (fun K hK => ?_)
        refine value_ (w1 := ?_) (v := ?_) (by rfl) rfl ?_ ?_
        rotate_left 2
        · go_simp
          constructor
          · rfl
          · rfl
        refine hK.out _ _ ⟨(pxf7 CB).1, (pxf7 CB).2.1, (pxf7 CB).2.2.1, (pxf7 CB).2.2.2.1, (pxf7 CB).2.2.2.2.1, (pxf7 CB).2.2.2.2.2.1, (pxf7 CB).2.2.2.2.2.2.1, (pxf3 AB).1, (pxf3 AB).2.1, (pxf3 AB).2.2.1, (pxf4 EB).1, (pxf4 EB).2.1, (pxf4 EB).2.2.1, (pxf4 EB).2.2.2.1⟩ (fun hHeld => ?_)
        clear hK K
        refine nS 388 ?_
        refine pS 29 389 HT_ ?_
        refine done_ (done_of HT_.out (by kernel_rfl)) ?_
        clear HT_ hHeld
        obtain ⟨xCB0, xCB1, xCB2, xCB3, xCB4, xCB5, xCB6, yCB0, yCB1, yCB2, yCB3, yCB4, yCB5, yCB6⟩ := pxf7 CB
        obtain ⟨xAB0, xAB1, xAB2, yAB0, yAB1, yAB2⟩ := pxf3 AB
        obtain ⟨xEB0, xEB1, xEB2, xEB3, yEB0, yEB1, yEB2, yEB3⟩ := pxf4 EB
        have HPl := Aside0.mk (HP.out.below (pxb HX))
        have HCl := Aside0.mk (Kd.C_below HC8.out (pxb HW))
        have HBl := HB
        have HXl := HX
        have ABl := AB
        have HQ := Aside0.mk (Below.refl wl.heap.size wl)
        clear HW
        go_upto_region 85 with (fail)
        go_loopg [393] (rd_T105 cs (q : Int)).f3.length (fun kq v393 w' => ∃ k : Nat, v393 = .int .i64 k ∧ Hid (k ≤ (rd_T105 cs (q : Int)).f3.length ∧ kq = (rd_T105 cs (q : Int)).f3.length - k) ∧ Aside0 (Below w0.heap.size w0 w') ∧ Aside0 (Below wl.heap.size wl w'))
        case atStart => exact ⟨0, rfl, ⟨Nat.zero_le _, rfl⟩, ⟨pxb HB⟩, ⟨pxb HQ⟩⟩
        case round =>
          clear HB HX HQ CB AB EB
          clear xCB0 yCB0 xCB1 yCB1 xCB2 yCB2 xCB3 yCB3 xCB4 yCB4 xCB5 yCB5 xCB6 yCB6
          clear xAB0 yAB0 xAB1 yAB1 xAB2 yAB2
          clear xEB0 yEB0 xEB1 yEB1 xEB2 yEB2 xEB3 yEB3
          obtain ⟨k, rfl, HJ, HB, HQ⟩ := hrel
          by_cases hk : k < (rd_T105 cs (q : Int)).f3.length
          · have HKT := Lib.hid hk
            have m4 : decide ((k : Int) < ((rd_T105 cs (q : Int)).f3.length : Int)) = true := decide_eq_true (by omega)
            have m5 : decide (k < (rd_T105 cs (q : Int)).f3.length) = true := decide_eq_true hk
            have r0 : (0 ≤ (k : Int)) = True := eq_true (by omega)
            have r1 : ((k : Int) < ((rd_T105 cs (q : Int)).f3.length : Int)) = True := eq_true (by omega)
            have r2 : (k < (rd_T105 cs (q : Int)).f3.length) = True := eq_true (by omega)
            obtain ⟨adv, hadv, z0, z1, z2⟩ := at_T61 (Kd.C_below HCl.out HQ.out) (k : Int) (by omega) (by omega)
            subst hadv
            rw [Int.toNat_natCast] at z0 z1 z2
            have HK2 := Aside0.mk (And.intro (show 0 ≤ (k : Int) by omega) (show (k : Int) < ((rd_T105 cs (q : Int)).f3.length : Int) by omega))
            clear hk
            have AB := Aside0.mk (blk_below ABl.out HQ.out)
            obtain ⟨xAB0, xAB1, xAB2, yAB0, yAB1, yAB2⟩ := pxf3 AB
            go_upto_region 87 with (fail)
            generalize hW_ : World.alloc wr _ = w10
            generalize hg_ : wr.heap.size = gv
            have VB : Aside0 (w10.heap[gv]? = some (.cells #[.int .i64 (rd_T61 (rd_T105 cs (q : Int)).f3 (k : Int)).f0, .int .i64 (rd_T61 (rd_T105 cs (q : Int)).f3 (k : Int)).f1, .string (rd_T61 (rd_T105 cs (q : Int)).f3 (k : Int)).f2] 61 (0, 0))) := ⟨by rw [← hW_, ← hg_]; exact blk_new _ _⟩
            have nHB_ : Aside0 (Below w0.heap.size w0 w10) := ⟨by rw [← hW_]; exact below_alloc HB.out _⟩
            have GHBVB : Aside0 (w0.heap.size ≤ gv) := ⟨by rw [← hg_]; exact HB.out.size⟩
            have nHQ_ : Aside0 (Below wl.heap.size wl w10) := ⟨by rw [← hW_]; exact below_alloc HQ.out _⟩
            have GHQVB : Aside0 (wl.heap.size ≤ gv) := ⟨by rw [← hg_]; exact HQ.out.size⟩
            have nAB_ : Aside0 (w10.heap[ga]? = some (.cells #[.int .i64 5, .int .i64 (q : Int), .string ⟨#[]⟩] 61 (0, 0))) := ⟨by rw [← hW_]; exact blk_alloc AB.out _⟩
            have eABVB : ga ≠ gv := by rw [← hg_]; exact Nat.ne_of_lt (blk_lt AB.out)
            have eVBAB : gv ≠ ga := Ne.symm eABVB
            clear hW_ hg_ HB HQ
            clear xAB0 yAB0 xAB1 yAB1 xAB2 yAB2
            clear AB
            have HB := nHB_
            clear nHB_
            have HQ := nHQ_
            clear nHQ_
            have AB := nAB_
            clear nAB_
            obtain ⟨xAB0, xAB1, xAB2, yAB0, yAB1, yAB2⟩ := pxf3 AB
            obtain ⟨xVB0, xVB1, xVB2, yVB0, yVB1, yVB2⟩ := pxf3 VB
            clear z0 z1 z2
            have tok_g : True := trivial
            go_upto_region 88 with (first | (clear tok_g; go_at_call 29; (with_reducible refine (load_in ⟨5, (q : Int), ⟨#[]⟩⟩ (k : Int) _ (HPl.out.hp.below (pxb HQ)) HAT.out HK2.out.1 HK2.out.2).mono ?_); rintro e w11 ⟨rfl, hb⟩; dsimp only; have n0_ := pxs HB hb; have nAB_ : Aside0 (w11.heap[ga]? = some (.cells #[.int .i64 5, .int .i64 (q : Int), .string ⟨#[]⟩] 61 (0, 0))) := ⟨blk_below (pxp AB) hb⟩; have nVB_ : Aside0 (w11.heap[gv]? = some (.cells #[.int .i64 (rd_T61 (rd_T105 cs (q : Int)).f3 (k : Int)).f0, .int .i64 (rd_T61 (rd_T105 cs (q : Int)).f3 (k : Int)).f1, .string (rd_T61 (rd_T105 cs (q : Int)).f3 (k : Int)).f2] 61 (0, 0))) := ⟨blk_below (pxp VB) hb⟩; have nHQ_ := pxs HQ hb; clear HB HQ AB VB; have HB := n0_; clear n0_; have HQ := nHQ_; clear nHQ_; have AB := nAB_; clear nAB_; have VB := nVB_; clear nVB_; clear hb; obtain ⟨xAB0, xAB1, xAB2, yAB0, yAB1, yAB2⟩ := pxf3 AB; obtain ⟨xVB0, xVB1, xVB2, yVB0, yVB1, yVB2⟩ := pxf3 VB))
            generalize hW_ : World.alloc w11 _ = w12
            generalize hg_ : w11.heap.size = gw
            have WB : Aside0 (w12.heap[gw]? = some (.cells #[.int .i64 (rd_T61 (rd_T105 cs (q : Int)).f3 (k : Int)).f0, .int .i64 (rd_T61 (rd_T105 cs (q : Int)).f3 (k : Int)).f1, .string (rd_T61 (rd_T105 cs (q : Int)).f3 (k : Int)).f2] 61 (0, 0))) := ⟨by rw [← hW_, ← hg_]; exact blk_new _ _⟩
            have nHB_ : Aside0 (Below w0.heap.size w0 w12) := ⟨by rw [← hW_]; exact below_alloc HB.out _⟩
            have GHBWB : Aside0 (w0.heap.size ≤ gw) := ⟨by rw [← hg_]; exact HB.out.size⟩
            have nHQ_ : Aside0 (Below wl.heap.size wl w12) := ⟨by rw [← hW_]; exact below_alloc HQ.out _⟩
            have GHQWB : Aside0 (wl.heap.size ≤ gw) := ⟨by rw [← hg_]; exact HQ.out.size⟩
            have nAB_ : Aside0 (w12.heap[ga]? = some (.cells #[.int .i64 5, .int .i64 (q : Int), .string ⟨#[]⟩] 61 (0, 0))) := ⟨by rw [← hW_]; exact blk_alloc AB.out _⟩
            have eABWB : ga ≠ gw := by rw [← hg_]; exact Nat.ne_of_lt (blk_lt AB.out)
            have eWBAB : gw ≠ ga := Ne.symm eABWB
            have nVB_ : Aside0 (w12.heap[gv]? = some (.cells #[.int .i64 (rd_T61 (rd_T105 cs (q : Int)).f3 (k : Int)).f0, .int .i64 (rd_T61 (rd_T105 cs (q : Int)).f3 (k : Int)).f1, .string (rd_T61 (rd_T105 cs (q : Int)).f3 (k : Int)).f2] 61 (0, 0))) := ⟨by rw [← hW_]; exact blk_alloc VB.out _⟩
            have eVBWB : gv ≠ gw := by rw [← hg_]; exact Nat.ne_of_lt (blk_lt VB.out)
            have eWBVB : gw ≠ gv := Ne.symm eVBWB
            clear hW_ hg_ HB HQ
            clear xAB0 yAB0 xAB1 yAB1 xAB2 yAB2
            clear AB
            clear xVB0 yVB0 xVB1 yVB1 xVB2 yVB2
            clear VB
            have HB := nHB_
            clear nHB_
            have HQ := nHQ_
            clear nHQ_
            have AB := nAB_
            clear nAB_
            obtain ⟨xAB0, xAB1, xAB2, yAB0, yAB1, yAB2⟩ := pxf3 AB
            have VB := nVB_
            clear nVB_
            obtain ⟨xVB0, xVB1, xVB2, yVB0, yVB1, yVB2⟩ := pxf3 VB
            obtain ⟨xWB0, xWB1, xWB2, yWB0, yWB1, yWB2⟩ := pxf3 WB
            go_wp2_with (fail)
            go_roundg ((rd_T105 cs (q : Int)).f3.length - (k + 1))
            case measure => have := HJ.out; have := HKT.out; omega
            case rel => exact ⟨k + 1, by first | rfl | (rw [wrap_id (by omega) (by have := HKT.out; have := HJ.out; have := hnl.out; omega)]; rfl), ⟨by have := HKT.out; omega, rfl⟩, ⟨pxb HB⟩, ⟨pxb HQ⟩⟩
          · have m4 : decide ((k : Int) < ((rd_T105 cs (q : Int)).f3.length : Int)) = false := decide_eq_false (by omega)
            have m5 : decide (k < (rd_T105 cs (q : Int)).f3.length) = false := decide_eq_false hk
            clear hk
            go_wp2_with (fail)
            go_roundg (cs.length - (q + 1))
            case measure => have := HI.out; have := HLT.out; omega
            case rel => exact ⟨q + 1, by first | rfl | (rw [wrap_id (by omega) (by have := HLT.out; have := HLEN.out; omega)]; rfl), ⟨by have := HLT.out; omega, rfl⟩, ⟨pxb HB⟩, ⟨below_step HXl.out (pxb HQ)⟩⟩
    · have k4 : decide ((q : Int) < (cs.length : Int)) = false := decide_eq_false (by omega)
      have k5 : decide (q < cs.length) = false := decide_eq_false hi
      clear hi
      have tok_y : True := trivial
      have tok_z : True := trivial
      go_wp2_with (first | (clear tok_y; go_at_call 27; (with_reducible refine (heap_At.calls (cs.length : Int) 5 (cs.length : Int) ⟨#[]⟩ _ rfl).mono ?_); rintro e w4 ⟨rfl, hb⟩; dsimp only; have n0_ := pxs HB hb; have nHX_ := pxs HX hb; clear HB HX ; have HB := n0_; clear n0_; have HX := nHX_; clear nHX_; clear hb) | (clear tok_z; go_at_call 35; (with_reducible refine (len_no ⟨5, (cs.length : Int), ⟨#[]⟩⟩ _ (HP.out.hp.below (pxb HX)) (.inr (.inr (Int.le_refl _)))).mono ?_); rintro e w5 ⟨rfl, hb⟩; dsimp only; have n0_ := pxs HB hb; have nHX_ := pxs HX hb; clear HB HX ; have HB := n0_; clear n0_; have HX := nHX_; clear nHX_; clear hb))
      go_ret
      exact ⟨rfl, pxb HB⟩
end Go.Proofs.Ytefgfnhhoidbdaa.HpW
