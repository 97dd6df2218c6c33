/- What the program's functions answer, as Lean functions, and that each call does just that; no condition. Written by a program (px.py) out of the translation. -/
import Derived.Test.YtlcblkjgkaiadaaX0
import Derived.Test.YtlcblkjgkaiadaaX9
import Derived.Test.YtlcblkjgkaiadaaX8
import Derived.Test.YtlcblkjgkaiadaaX10
import Derived.Test.YtlcblkjgkaiadaaLexW
import Derived.Test.YtlcblkjgkaiadaaShort3
namespace Go.Proofs.Ytlcblkjgkaiadaa.X
open Go.RowKit Go.Proofs.YtlcblkjgkaiadaaW.PrintWords Go.Proofs.YtlcblkjgkaiadaaW.PrintLast Go.Proofs.YtlcblkjgkaiadaaW.PrintMore
attribute [local go_sem] max2_int min2_int max_two min_two max_three min_three max_four min_four   -- for this text's walks alone
set_option linter.unusedVariables false
set_option linter.unusedSimpArgs false

/-! ### caulkerlaw06_LexWhole: function 3 -/
mutual
def caulkerlaw06_LexWhole.l0 : Nat → ByteArray → List (S32) → Int → List (S32) → Int → Int → Option (Bool)
 | 0, _, _, _, _, _, _ => none
 | k + 1, x0, x3, x5, x26, x27, x28 => if x28 < x27 then (if 0 ≤ x28 then (if x28 < (x26.length : Int) then (if ((rd_T32 x26 x28).f1.f0) < x5 then (caulkerlaw06_LexWhole.j1 k x0 x3 x26 x27 x28 true ((rd_T32 x26 x28).f0) ((rd_T32 x26 x28).f1.f0) ((rd_T32 x26 x28).f1.f1)) else (if ((rd_T32 x26 x28).f1.f1) < ((rd_T32 x26 x28).f1.f0) then (caulkerlaw06_LexWhole.j1 k x0 x3 x26 x27 x28 true ((rd_T32 x26 x28).f0) ((rd_T32 x26 x28).f1.f0) ((rd_T32 x26 x28).f1.f1)) else (if ((rd_T32 x26 x28).f1.f1) > (x0.size : Int) then (caulkerlaw06_LexWhole.j1 k x0 x3 x26 x27 x28 true ((rd_T32 x26 x28).f0) ((rd_T32 x26 x28).f1.f0) ((rd_T32 x26 x28).f1.f1)) else (if 0 ≤ ((rd_T32 x26 x28).f1.f0) then (if ((rd_T32 x26 x28).f1.f0) ≤ (x0.size : Int) then ((caulkerref06_Between.f k (x0.extract 0 (((rd_T32 x26 x28).f1.f0) : Int).toNat) x5).bind fun t142 => (if t142 = ((rd_T32 x26 x28).f1.f0) then (caulkerlaw06_LexWhole.j1 k x0 x3 x26 x27 x28 ((((rd_T32 x26 x28).f0) == 0) != (x28 == (wrap64 ((x3.length : Int) - 1)))) ((rd_T32 x26 x28).f0) ((rd_T32 x26 x28).f1.f0) ((rd_T32 x26 x28).f1.f1)) else (caulkerlaw06_LexWhole.j1 k x0 x3 x26 x27 x28 true ((rd_T32 x26 x28).f0) ((rd_T32 x26 x28).f1.f0) ((rd_T32 x26 x28).f1.f1)))) else (none)) else (none))))) else (none)) else (none)) else (some (x5 == (x0.size : Int)))
def caulkerlaw06_LexWhole.j1 : Nat → ByteArray → List (S32) → List (S32) → Int → Int → Bool → Int → Int → Int → Option (Bool)
 | 0, _, _, _, _, _, _, _, _, _ => none
 | k + 1, x0, x3, x26, x27, x28, x78, x142000, x142001, x142002 => if x78 = true then (none) else (if x142000 = 0 then (caulkerlaw06_LexWhole.l0 k x0 x3 x142002 x26 x27 (wrap64 (x28 + 1))) else (if 0 ≤ x142001 then (if x142001 ≤ x142002 then (if x142002 ≤ (x0.size : Int) then ((lex_Lex.f (x0.extract (x142001 : Int).toNat (x142002 : Int).toNat)).bind fun bt143 => (if bt143.2.1 = 0 then (if (bt143.1.length : Int) = 2 then (if 0 < (bt143.1.length : Int) then (if ((rd_T32 bt143.1 0).f0) = x142000 then (if ((rd_T32 bt143.1 0).f1.f1) = (wrap64 (x142002 - x142001)) then (if x142002 = x142001 then (none) else (caulkerlaw06_LexWhole.l0 k x0 x3 x142002 x26 x27 (wrap64 (x28 + 1)))) else (none)) else (none)) else (none)) else (none)) else (none))) else (none)) else (none)) else (none)))
end
def caulkerlaw06_LexWhole.f (k : Nat) (a0 : ByteArray) : Option (Bool) := (caulkerlaw06_cuts.f k).bind fun t133 => (if t133 = true then (if (a0.size : Int) > 3000 then (some true) else ((lex_Lex.f a0).bind fun bt134 => (if bt134.2.1 = 0 then (caulkerlaw06_LexWhole.l0 k a0 bt134.1 0 bt134.1 (bt134.1.length : Int) 0) else (some ((bt134.1.length : Int) == 0))))) else (none))
theorem caulkerlaw06_LexWhole.mono_l : ∀ k, (∀ y0 y1 y2 y3 y4 y5, LeO (caulkerlaw06_LexWhole.l0 k y0 y1 y2 y3 y4 y5) (caulkerlaw06_LexWhole.l0 (k + 1) y0 y1 y2 y3 y4 y5)) ∧ (∀ y0 y1 y2 y3 y4 y5 y6 y7 y8, LeO (caulkerlaw06_LexWhole.j1 k y0 y1 y2 y3 y4 y5 y6 y7 y8) (caulkerlaw06_LexWhole.j1 (k + 1) y0 y1 y2 y3 y4 y5 y6 y7 y8))
 | 0 => ⟨fun _ _ _ _ _ _ r h => by simp [caulkerlaw06_LexWhole.l0] at h, fun _ _ _ _ _ _ _ _ _ r h => by simp [caulkerlaw06_LexWhole.j1] at h⟩
 | k + 1 => by
  obtain ⟨ih0, ih1⟩ := caulkerlaw06_LexWhole.mono_l k
  refine ⟨?_, ?_⟩
  ·intro y0 y1 y2 y3 y4 y5
   unfold caulkerlaw06_LexWhole.l0
   repeat' first
   | (with_reducible exact ih0 _ _ _ _ _ _)
   | (with_reducible exact ih1 _ _ _ _ _ _ _ _ _)
   | (with_reducible exact caulkerlaw06_cuts.mono _)
   | (with_reducible exact caulkerref06_Between.mono _ _ _)
   | (with_reducible exact LeO.refl _)
   | (with_reducible exact LeO.none _)
   | (with_reducible refine LeO.ite ?_ ?_)
   | (with_reducible refine LeO.bind ?_ (fun _ => ?_))
   | exact ih0 _ _ _ _ _ _
   | exact ih1 _ _ _ _ _ _ _ _ _
   | exact caulkerlaw06_cuts.mono _
   | exact caulkerref06_Between.mono _ _ _
   | exact LeO.none _
   | refine LeO.ite ?_ ?_
   | refine LeO.bind ?_ (fun _ => ?_)
  ·intro y0 y1 y2 y3 y4 y5 y6 y7 y8
   unfold caulkerlaw06_LexWhole.j1
   repeat' first
   | (with_reducible exact ih0 _ _ _ _ _ _)
   | (with_reducible exact ih1 _ _ _ _ _ _ _ _ _)
   | (with_reducible exact caulkerlaw06_cuts.mono _)
   | (with_reducible exact caulkerref06_Between.mono _ _ _)
   | (with_reducible exact LeO.refl _)
   | (with_reducible exact LeO.none _)
   | (with_reducible refine LeO.ite ?_ ?_)
   | (with_reducible refine LeO.bind ?_ (fun _ => ?_))
   | exact ih0 _ _ _ _ _ _
   | exact ih1 _ _ _ _ _ _ _ _ _
   | exact caulkerlaw06_cuts.mono _
   | exact caulkerref06_Between.mono _ _ _
   | exact LeO.none _
   | refine LeO.ite ?_ ?_
   | refine LeO.bind ?_ (fun _ => ?_)
theorem caulkerlaw06_LexWhole.mono : ∀ a0 k, LeO (caulkerlaw06_LexWhole.f k a0) (caulkerlaw06_LexWhole.f (k + 1) a0) := by
 intro a0 k
 obtain ⟨ih0, ih1⟩ := caulkerlaw06_LexWhole.mono_l k
 unfold caulkerlaw06_LexWhole.f
 repeat' first
   | (with_reducible exact ih0 _ _ _ _ _ _)
   | (with_reducible exact ih1 _ _ _ _ _ _ _ _ _)
   | (with_reducible exact caulkerlaw06_cuts.mono _)
   | (with_reducible exact caulkerref06_Between.mono _ _ _)
   | (with_reducible exact LeO.refl _)
   | (with_reducible exact LeO.none _)
   | (with_reducible refine LeO.ite ?_ ?_)
   | (with_reducible refine LeO.bind ?_ (fun _ => ?_))
   | exact ih0 _ _ _ _ _ _
   | exact ih1 _ _ _ _ _ _ _ _ _
   | exact caulkerlaw06_cuts.mono _
   | exact caulkerref06_Between.mono _ _ _
   | exact LeO.none _
   | refine LeO.ite ?_ ?_
   | refine LeO.bind ?_ (fun _ => ?_)
def caulkerlaw06_LexWhole.T12 : Bool × List (List Nat × List Nat) := (true, [([], []), ([0], [0]), ([1], [1]), ([], []), ([2, 3], [2, 3]), ([4], [4]), ([5], [5]), ([6, 5], [5, 6]), ([7, 5], [5, 7]), ([5], [5]), ([9, 5], [5, 9]), ([10, 5], [5, 10]), ([8, 11, 5], [5, 8, 11]), ([5, 12], [5, 12]), ([13, 5], [13]), ([14], [14]), ([15, 14], [14, 15]), ([16, 14], [14, 16]), ([14], [14]), ([18, 14], [14, 18]), ([17, 19, 14], [14, 17, 19]), ([14, 20], [14, 20]), ([21, 14], [21]), ([22], [22]), ([22], [22]), ([24, 22], [22, 24]), ([25, 22], [22, 25]), ([23, 26, 22], [22, 23, 26]), ([22], [22]), ([27, 28, 22, 22], [22, 27, 28]), ([22], [22]), ([30, 22], [22, 30]), ([31, 22], [22, 31]), ([29, 32, 22], [22, 29, 32]), ([22, 33], [22, 33]), ([34, 29], [34]), ([35], [35]), ([36, 35], [35, 36]), ([37, 35], [35, 37]), ([35], [35]), ([35], [35]), ([40, 35], [35, 40]), ([41, 35], [35, 41]), ([39, 42, 35], [35, 39, 42]), ([38, 43, 35], [35, 38, 43]), ([35, 44], [35, 44])])
def caulkerlaw06_LexWhole.B12 : List Nat := [0, 1, 3, 0, 15, 31, 63, 127, 255, 63, 575, 1599, 4095, 8191, 16383, 32767, 65535, 131071, 32767, 294911, 1048575, 2097151, 4194303, 8388607, 8388607, 25165823, 58720255, 134217727, 8388607, 536870911, 8388607, 1082130431, 3229614079, 8589934591, 17179869183, 34359738367, 68719476735, 137438953471, 274877906943, 68719476735, 68719476735, 1168231104511, 3367254360063, 8315056685055, 17592186044415, 35184372088831]
theorem caulkerlaw06_LexWhole.tab12 : rtab .any (opsOf Try.f3 12) = caulkerlaw06_LexWhole.T12 := by kernel_rfl
theorem caulkerlaw06_LexWhole.bits12 : waitsOk caulkerlaw06_LexWhole.T12.2 caulkerlaw06_LexWhole.B12 = true := by kernel_rfl
def caulkerlaw06_LexWhole.T16 : Bool × List (List Nat × List Nat) := (true, [([], []), ([0], [0]), ([1], [1]), ([2], [2]), ([3], [3]), ([4, 3], [3, 4]), ([5, 3], [3, 5]), ([3, 6], [3, 6]), ([7, 3], [7]), ([8], [8]), ([9, 8], [8, 9]), ([10, 8], [8, 10]), ([11, 8], [8, 11]), ([8], [8]), ([13, 8], [8, 13]), ([12, 14, 8], [8, 12, 14]), ([8, 15], [8, 15]), ([16, 8], [16]), ([17], [17]), ([18, 17], [17, 18]), ([19, 17], [17, 19]), ([20, 17], [17, 20]), ([21, 17], [17, 21]), ([17], [17]), ([23, 17], [17, 23]), ([24, 17], [17, 24]), ([17], [17]), ([26, 17], [17, 26]), ([27, 17], [17, 27]), ([25, 28, 17], [17, 25, 28]), ([22, 29, 17], [17, 22, 29]), ([17, 30], [17, 30]), ([31, 17], [31]), ([32], [32]), ([33, 32], [32, 33]), ([34, 32], [32, 34]), ([32], [32]), ([36, 32], [32, 36]), ([37, 32], [32, 37]), ([35, 38, 32], [32, 35, 38]), ([32, 39], [32, 39])])
def caulkerlaw06_LexWhole.B16 : List Nat := [0, 1, 3, 7, 15, 31, 63, 127, 255, 511, 1023, 2047, 4095, 511, 8703, 32767, 65535, 131071, 262143, 524287, 1048575, 2097151, 4194303, 262143, 8650751, 25427967, 262143, 67371007, 201588735, 528744447, 1073741823, 2147483647, 4294967295, 8589934591, 17179869183, 34359738367, 8589934591, 77309411327, 214748364799, 549755813887, 1099511627775]
theorem caulkerlaw06_LexWhole.tab16 : rtab .any (opsOf Try.f3 16) = caulkerlaw06_LexWhole.T16 := by kernel_rfl
theorem caulkerlaw06_LexWhole.bits16 : waitsOk caulkerlaw06_LexWhole.T16.2 caulkerlaw06_LexWhole.B16 = true := by kernel_rfl
set_option maxHeartbeats 8000000 in
set_option maxRecDepth 100000 in
theorem caulkerlaw06_LexWhole.calls (k : Nat) (a0 : ByteArray) (r : Bool) (w : World) (h : caulkerlaw06_LexWhole.f k a0 = some r) (hgv : LexW.GV w) :
  Calls Try.prog 3 #[.string a0] w fun e w' => e = .returned (.bool r) ∧ Below w.heap.size w w' := by
 have HGV := Aside0.mk hgv
 clear hgv
 have hu26 := Try.underlying26
 have hu32 := Try.underlying32
 have HB := Aside0.mk (Below.refl w.heap.size w)
 have H : ((caulkerlaw06_cuts.f k).bind fun t133 => (if t133 = true then (if (a0.size : Int) > 3000 then (some true) else ((lex_Lex.f a0).bind fun bt134 => (if bt134.2.1 = 0 then (caulkerlaw06_LexWhole.l0 k a0 bt134.1 0 bt134.1 (bt134.1.length : Int) 0) else (some ((bt134.1.length : Int) == 0))))) else (none))) = some r := h
 clear h
 replace H := Option.bind_eq_some_iff.mp H
 obtain ⟨t133, A20, H⟩ := H
 replace H : (if t133 = true then (if (a0.size : Int) > 3000 then (some true) else ((lex_Lex.f a0).bind fun bt134 => (if bt134.2.1 = 0 then (caulkerlaw06_LexWhole.l0 k a0 bt134.1 0 bt134.1 (bt134.1.length : Int) 0) else (some ((bt134.1.length : Int) == 0))))) else (none)) = some r := H
 have A2 := Aside0.mk A20
 clear A20
 by_cases c3 : t133 = true
 ·subst c3
  have H1 : (if (a0.size : Int) > 3000 then (some true) else ((lex_Lex.f a0).bind fun bt134 => (if bt134.2.1 = 0 then (caulkerlaw06_LexWhole.l0 k a0 bt134.1 0 bt134.1 (bt134.1.length : Int) 0) else (some ((bt134.1.length : Int) == 0))))) = some r := by rw [if_pos rfl] at H; exact H
  clear H
  have H := H1
  clear H1
  by_cases c4 : (a0.size : Int) > 3000
  ·rw [if_pos c4] at H
   have c4b0 : decide (3000 < (a0.size : Int)) = true := decide_eq_true c4
   have c4b1 : decide (3000 < a0.size) = true := decide_eq_true (by omega)
   clear c4
   obtain rfl := Option.some.inj H
   go_enter Try.func3, Try.ntmps3
   go_wp2_with (first | ((with_reducible refine gate_callee (f := 8) rfl ?_); refine goesL_ (some 10) rfl rfl Try.func8 (by kernel_rfl) rfl #[] rfl (by (try simp only [List.map_toArray, List.map_cons, List.map_nil]); first | done | rfl | (simp only [List.length_drop, List.length_take]; rfl)) ?_; (with_reducible refine (caulkerlaw06_cuts.calls k  true _ A2.out ?gv).mono ?_); (case gv => first | exact LexW.GV.later HGV.out (pxb HB) | (repeat (first | exact HGV.out | apply LexW.GV.drewN))); rintro e w5 ⟨rfl, hb⟩; refine ⟨_, rfl, ?_⟩; replace HB := pxs HB hb; (try clear hb); (try clear hb2); (try clear hk); (try clear hi)))
   go_ret
   exact ⟨by first | rfl | (simp [errW_none, errW_some] <;> rfl) | (simp [*, errW_none, errW_some] <;> rfl), pxb HB⟩
  ·rw [if_neg c4] at H
   have c4b0 : decide (3000 < (a0.size : Int)) = false := decide_eq_false c4
   have c4b1 : decide (3000 < a0.size) = false := decide_eq_false (by omega)
   clear c4
   replace H := Option.bind_eq_some_iff.mp H
   obtain ⟨⟨t134, t137, t138⟩, A60, H⟩ := H
   replace H : (if t137 = 0 then (caulkerlaw06_LexWhole.l0 k a0 t134 0 t134 (t134.length : Int) 0) else (some ((t134.length : Int) == 0))) = some r := H
   have A6 := Aside0.mk A60
   clear A60
   by_cases c7 : t137 = 0
   ·rw [if_pos c7] at H
    have c7b0 : (t137 == 0) = true := beq_iff_eq.mpr c7
    have c7b1 : (t137 != 0) = false := bne_eq_false_iff_eq.mpr c7
    clear c7
    have H' := Aside0.mk H
    clear H
    go_enter Try.func3, Try.ntmps3
    go_wp2_with (first | ((with_reducible refine gate_callee (f := 8) rfl ?_); refine goesL_ (some 10) rfl rfl Try.func8 (by kernel_rfl) rfl #[] rfl (by (try simp only [List.map_toArray, List.map_cons, List.map_nil]); first | done | rfl | (simp only [List.length_drop, List.length_take]; rfl)) ?_; (with_reducible refine (caulkerlaw06_cuts.calls k  true _ A2.out ?gv).mono ?_); (case gv => first | exact LexW.GV.later HGV.out (pxb HB) | (repeat (first | exact HGV.out | apply LexW.GV.drewN))); rintro e w8 ⟨rfl, hb⟩; refine ⟨_, rfl, ?_⟩; replace HB := pxs HB hb; (try clear hb); (try clear hb2); (try clear hk); (try clear hi)) | ((with_reducible refine gate_callee (f := 9) rfl ?_); refine goesL_ (some 17) rfl rfl Try.func9 (by kernel_rfl) rfl #[.string a0] rfl (by (try simp only [List.map_toArray, List.map_cons, List.map_nil]); first | done | rfl | (simp only [List.length_drop, List.length_take]; rfl)) ?_; (with_reducible refine (lex_Lex.calls a0 t134 t137 t138 _ A6.out ?gv).mono ?_); (case gv => first | exact LexW.GV.later HGV.out (pxb HB) | (repeat (first | exact HGV.out | apply LexW.GV.drewN))); rintro e w9 ⟨v135, rfl, ho0, hb⟩; refine ⟨_, rfl, ?_⟩; have HO136 := Aside0.mk (Kd.R_lower ho0 (below_size (pxb HB))); replace HB := pxs HB hb; (try clear hb); (try clear hb2); (try clear hk); (try clear hi); (try clear ho0)) | ((with_reducible refine gate_dst (N := 4) rfl ?_); refine box_event ?hg (N := 4) ?hd (cs := #[.int .i64 0, .int .i64 0]) (t := 26) ?hr ?_; (case hd => rfl); (case hg => rfl); (case hr => first | (go_simp; done) | (go_simp; rfl)); intro gb139 hg w10 hbox hb; have BK139 := Aside0.mk (hbox); have GW139 := pxw HB hg; have GE139 := pxw HB hg; replace HO136 := Aside0.mk (Kd.R_below (pxr HO136) hb); replace HB := pxs HB hb; clear hb hbox hg; obtain ⟨hcz11_0, hcz11_1, hfz11_0, hfz11_1⟩ := pxf2 BK139; obtain ⟨Ao12, co12, eo12⟩ := Kd.R_slice HO136.out; subst eo12))
    go_loopg [5, 28] k (fun kq v5 v28 w' => ∃ (x5_1 : Int) (x28_1 : Int), v5 = .int .i64 x5_1 ∧ v28 = .int .i64 x28_1 ∧ Aside0 (caulkerlaw06_LexWhole.l0 kq a0 t134 x5_1 t134 (t134.length : Int) x28_1 = some r) ∧ Aside0 (kq ≤ k) ∧ Aside0 (Kd.R k32 32 w' w.heap.size (fun _ => True) (.slice Ao12 t134.length co12) t134) ∧ Aside0 (Kd.R k32 32 w' w.heap.size (fun _ => True) (.slice Ao12 t134.length co12) t134) ∧ Aside0 (w'.heap[gb139]? = some (.cells #[.int .i64 t137, .int .i64 t138] 26 (0, 0))) ∧ Aside0 (Below w.heap.size w w'))
    case atStart => exact ⟨(0), (0), (by first | rfl | (simp; done) | (simp [*]; done)), (by first | rfl | (simp; done) | (simp [*]; done)), H', ⟨Nat.le_refl _⟩, ⟨by (with_reducible repeat (first | apply Kd.R_alloc | apply Kd.R_drewN | apply Kd.R_drew)); exact Kd.R_mono (Kd.R_far (p := ⟨gb139, 1, none⟩) (Kd.R_far (p := ⟨gb139, 0, none⟩) (Kd.R_types HO136.out BK139.out (by decide)) (fun _ hk => hk.2) (.int .i64 t137)) (fun _ hk => hk.2) (.int .i64 t138)) (fun _ hk => trivial)⟩, ⟨by (with_reducible repeat (first | apply Kd.R_alloc | apply Kd.R_drewN | apply Kd.R_drew)); exact Kd.R_mono (Kd.R_far (p := ⟨gb139, 1, none⟩) (Kd.R_far (p := ⟨gb139, 0, none⟩) (Kd.R_types HO136.out BK139.out (by decide)) (fun _ hk => hk.2) (.int .i64 t137)) (fun _ hk => hk.2) (.int .i64 t138)) (fun _ hk => trivial)⟩, ⟨pxp BK139⟩, ⟨pxb HB⟩⟩
    case round =>
     clear H'
     (try clear p2); (try clear c3); (try clear c4); (try clear c4b0); (try clear c4b1); (try clear c7); (try clear c7b0); (try clear c7b1); (try clear c8); (try clear c9); (try clear hcz11_0 hcz11_1 hfz11_0 hfz11_1)
     obtain ⟨x5_1, x28_1, rfl, rfl, HA, HK1, HO_3, HO_26, BK139, HB⟩ := hrel
     cases gk with
     | zero => exact absurd HA.out (by simp [caulkerlaw06_LexWhole.l0])
     | succ k1 =>
      have H := HA.out
      clear HA
      simp only [caulkerlaw06_LexWhole.l0] at H
      by_cases c13 : x28_1 < (t134.length : Int)
      ·rw [if_pos c13] at H
       have c13b0 : decide (x28_1 < (t134.length : Int)) = true := decide_eq_true c13
       clear c13
       by_cases c14 : 0 ≤ x28_1
       ·rw [if_pos c14] at H
        have c14b0 : decide (0 ≤ x28_1) = true := decide_eq_true c14
        clear c14
        by_cases c15 : x28_1 < (t134.length : Int)
        ·rw [if_pos c15] at H
         have c15b0 : decide (x28_1 < (t134.length : Int)) = true := decide_eq_true c15
         clear c15
         have HC16 := Aside0.mk H
         clear H
         have p140 : 0 ≤ (x28_1 : Int) := pxd
         have q140 : x28_1 < (t134.length : Int) := pxd
         obtain ⟨ad140, e140, hx140_0, hx140_1, hx140_2⟩ := at_T32 (Kd.R_reads' HO_26.out).2.2 x28_1 p140 q140
         cases e140
         replace p140 := eq_true p140
         replace q140 := eq_true q140
         go_upto_region 12 with (first | ((with_reducible refine gate_dst (N := 7) rfl ?_); refine box_event ?hg (N := 7) ?hd (cs := #[.int .i64 0, .int .i64 0, .int .i64 0]) (t := 32) ?hr ?_; (case hd => rfl); (case hg => rfl); (case hr => first | (go_simp; done) | (go_simp; rfl)); intro gb141 hg w17 hbox hb; have BK141 := Aside0.mk (hbox); have GW141 := pxw HB hg; have GE141 := pxw HB hg; have NB139_141 := pxn BK139 hg; have NB141_139 := Aside0.mk (pxn BK139 hg).out.symm; replace HO_3 := Aside0.mk (Kd.R_below (Kd.R_elderB (pxr HO_3) gb141 (Nat.le_of_eq hg.symm)) hb); replace HO_26 := Aside0.mk (Kd.R_below (Kd.R_elderB (pxr HO_26) gb141 (Nat.le_of_eq hg.symm)) hb); replace BK139 := pxk BK139 hb; replace HB := pxs HB hb; clear hb hbox hg; have hnb18 := NB141_139.out; have hnc18 := NB139_141.out; obtain ⟨hcz19_0, hcz19_1, hcz19_2, hfz19_0, hfz19_1, hfz19_2⟩ := pxf3 BK141))
         (try simp only [Act.put, List.setIfInBounds_toArray, List.set_cons_zero, List.set_cons_succ])
         go_cut [78] (fun v78 wc => ∃ (kq : Nat) (x78_15 : Bool), v78 = .bool x78_15 ∧ Aside0 (caulkerlaw06_LexWhole.j1 kq a0 t134 t134 (t134.length : Int) x28_1 x78_15 ((rd_T32 t134 x28_1).f0) ((rd_T32 t134 x28_1).f1.f0) ((rd_T32 t134 x28_1).f1.f1) = some r) ∧ Aside0 (kq ≤ k1) ∧ Aside0 (Kd.R k32 32 wc w.heap.size (fun k_ => k_ ≠ gb141) (.slice (some ad140) t134.length co12) t134) ∧ Aside0 (Kd.R k32 32 wc w.heap.size (fun k_ => k_ ≠ gb141) (.slice (some ad140) t134.length co12) t134) ∧ Aside0 (wc.heap[gb139]? = some (.cells #[.int .i64 t137, .int .i64 t138] 26 (0, 0))) ∧ Aside0 (wc.heap[gb141]? = some (.cells #[.int .i64 ((rd_T32 t134 x28_1).f0), .int .i64 ((rd_T32 t134 x28_1).f1.f0), .int .i64 ((rd_T32 t134 x28_1).f1.f1)] 32 (0, 0))) ∧ Aside0 (Below w.heap.size w wc))
         case first =>
          have H := HC16.out
          clear HC16
          by_cases c20 : ((rd_T32 t134 x28_1).f1.f0) < x5_1
          ·rw [if_pos c20] at H
           have c20b0 : decide (((rd_T32 t134 x28_1).f1.f0) < x5_1) = true := decide_eq_true c20
           clear c20
           (first | rw [c20b0] | (simp only [i64_w, i32_w]; rw [c20b0]) | skip)
           have H' := Aside0.mk H
           clear H
           try go_wp2
           have n0_ : Aside0 (Kd.R k32 32 (((w17.setCell ⟨gb141, 0, none⟩ (.int .i64 ((rd_T32 t134 x28_1).f0))).setCell ⟨gb141, 1, none⟩ (.int .i64 ((rd_T32 t134 x28_1).f1.f0))).setCell ⟨gb141, 2, none⟩ (.int .i64 ((rd_T32 t134 x28_1).f1.f1))) w.heap.size (fun k_ => k_ ≠ gb141) (.slice (some ad140) t134.length co12) t134) := ⟨by (with_reducible repeat (first | apply Kd.R_alloc | apply Kd.R_drewN | apply Kd.R_drew)); exact Kd.R_mono (Kd.R_far (p := ⟨gb141, 2, none⟩) (Kd.R_far (p := ⟨gb141, 1, none⟩) (Kd.R_far (p := ⟨gb141, 0, none⟩) (Kd.R_mono HO_3.out (fun k_ hk => (⟨hk, hk.2⟩ : _ ∧ k_ ≠ gb141))) (fun _ hk => hk.2) (.int .i64 ((rd_T32 t134 x28_1).f0))) (fun _ hk => hk.2) (.int .i64 ((rd_T32 t134 x28_1).f1.f0))) (fun _ hk => hk.2) (.int .i64 ((rd_T32 t134 x28_1).f1.f1))) (fun _ hk => hk.1.2)⟩
           have n1_ : Aside0 (Kd.R k32 32 (((w17.setCell ⟨gb141, 0, none⟩ (.int .i64 ((rd_T32 t134 x28_1).f0))).setCell ⟨gb141, 1, none⟩ (.int .i64 ((rd_T32 t134 x28_1).f1.f0))).setCell ⟨gb141, 2, none⟩ (.int .i64 ((rd_T32 t134 x28_1).f1.f1))) w.heap.size (fun k_ => k_ ≠ gb141) (.slice (some ad140) t134.length co12) t134) := ⟨by (with_reducible repeat (first | apply Kd.R_alloc | apply Kd.R_drewN | apply Kd.R_drew)); exact Kd.R_mono (Kd.R_far (p := ⟨gb141, 2, none⟩) (Kd.R_far (p := ⟨gb141, 1, none⟩) (Kd.R_far (p := ⟨gb141, 0, none⟩) (Kd.R_mono HO_26.out (fun k_ hk => (⟨hk, hk.2⟩ : _ ∧ k_ ≠ gb141))) (fun _ hk => hk.2) (.int .i64 ((rd_T32 t134 x28_1).f0))) (fun _ hk => hk.2) (.int .i64 ((rd_T32 t134 x28_1).f1.f0))) (fun _ hk => hk.2) (.int .i64 ((rd_T32 t134 x28_1).f1.f1))) (fun _ hk => hk.1.2)⟩
           have n2_ : Aside0 ((((w17.setCell ⟨gb141, 0, none⟩ (.int .i64 ((rd_T32 t134 x28_1).f0))).setCell ⟨gb141, 1, none⟩ (.int .i64 ((rd_T32 t134 x28_1).f1.f0))).setCell ⟨gb141, 2, none⟩ (.int .i64 ((rd_T32 t134 x28_1).f1.f1))).heap[gb139]? = some (.cells #[.int .i64 t137, .int .i64 t138] 26 (0, 0))) := ⟨pxp BK139⟩
           have n3_ : Aside0 ((((w17.setCell ⟨gb141, 0, none⟩ (.int .i64 ((rd_T32 t134 x28_1).f0))).setCell ⟨gb141, 1, none⟩ (.int .i64 ((rd_T32 t134 x28_1).f1.f0))).setCell ⟨gb141, 2, none⟩ (.int .i64 ((rd_T32 t134 x28_1).f1.f1))).heap[gb141]? = some (.cells #[.int .i64 ((rd_T32 t134 x28_1).f0), .int .i64 ((rd_T32 t134 x28_1).f1.f0), .int .i64 ((rd_T32 t134 x28_1).f1.f1)] 32 (0, 0))) := ⟨pxp BK141⟩
           have n4_ : Aside0 (Below w.heap.size w (((w17.setCell ⟨gb141, 0, none⟩ (.int .i64 ((rd_T32 t134 x28_1).f0))).setCell ⟨gb141, 1, none⟩ (.int .i64 ((rd_T32 t134 x28_1).f1.f0))).setCell ⟨gb141, 2, none⟩ (.int .i64 ((rd_T32 t134 x28_1).f1.f1)))) := ⟨pxb HB⟩
           (try clear HO_3)
           (try clear HO_26)
           (try clear BK139)
           (try clear BK141)
           (try clear HB)
           generalize (((w17.setCell ⟨gb141, 0, none⟩ (.int .i64 ((rd_T32 t134 x28_1).f0))).setCell ⟨gb141, 1, none⟩ (.int .i64 ((rd_T32 t134 x28_1).f1.f0))).setCell ⟨gb141, 2, none⟩ (.int .i64 ((rd_T32 t134 x28_1).f1.f1))) = w21 at n0_ n1_ n2_ n3_ n4_ ⊢
           have HO_3 := n0_
           have HO_26 := n1_
           have BK139 := n2_
           have BK141 := n3_
           have HB := n4_
           clear n0_ n1_ n2_ n3_ n4_
           have n0_ := Aside0.mk (Kd.R_drew HO_3.out)
           have n1_ := Aside0.mk (Kd.R_drew HO_26.out)
           have n2_ := Aside0.mk (blk_drew BK139.out)
           have n3_ := Aside0.mk (blk_drew BK141.out)
           have n4_ := Aside0.mk (below_drew1 HB.out)
           clear HO_3
           clear HO_26
           clear BK139
           clear BK141
           clear HB
           have HO_3 := n0_
           have HO_26 := n1_
           have BK139 := n2_
           have BK141 := n3_
           have HB := n4_
           clear n0_ n1_ n2_ n3_ n4_
           refine start_ (n := 46) (S := fun w' => w'.cell? ⟨gb141, 0, none⟩ = some (.int .i64 ((rd_T32 t134 x28_1).f0)) ∧ w'.cell? ⟨gb141, 1, none⟩ = some (.int .i64 ((rd_T32 t134 x28_1).f1.f0)) ∧ w'.cell? ⟨gb141, 2, none⟩ = some (.int .i64 ((rd_T32 t134 x28_1).f1.f1))) (ds := []) #[false, false, false, false, false, false, false, false, false, false, false, false, false, false, false, false, false, false, false, false, false, false, false, false, false, false, false, false, false, false, false, false, false, false, false, false, false, false, false, false, false, false, false, false, false, false] (by kernel_rfl) rfl rfl ⟨(blk_cell BK141.out 0).trans rfl, (blk_cell BK141.out 1).trans rfl, (blk_cell BK141.out 2).trans rfl⟩ (fun hHeld => ?_); refine with_tabW caulkerlaw06_LexWhole.tab12 caulkerlaw06_LexWhole.bits12 (fun HT_ HW_ => ?_)
           generalize w21.drew = w22 at HO_3 HO_26 BK139 BK141 HB hHeld ⊢
           refine pS 0 33 HT_ ?_
           refine pS 1 34 HT_ ?_
           refine pS 3 36 HT_ ?_
           refine tS 2 35 HT_ HW_ hHeld ?_
           refine pS 4 37 HT_ ?_
           refine pS 5 38 HT_ ?_
           refine pU 6 39 HT_ ?_
           refine pU 7 40 HT_ ?_
           refine pU 8 41 HT_ ?_
           refine pU 9 42 HT_ ?_
           refine pU 10 43 HT_ ?_
           refine pU 11 44 HT_ ?_
           refine pU 12 45 HT_ ?_
           refine pS 13 46 HT_ ?_
           refine pS 14 47 HT_ ?_
           refine pU 15 48 HT_ ?_
           refine pU 16 49 HT_ ?_
           refine pU 17 50 HT_ ?_
           refine pU 18 51 HT_ ?_
           refine pU 19 52 HT_ ?_
           refine pU 20 53 HT_ ?_
           refine pS 21 54 HT_ ?_
           refine pS 22 55 HT_ ?_
           refine pU 23 56 HT_ ?_
           refine pU 24 57 HT_ ?_
           refine pU 25 58 HT_ ?_
           refine pU 26 59 HT_ ?_
           refine pU 27 60 HT_ ?_
           refine pU 28 61 HT_ ?_
           refine pU 29 62 HT_ ?_
           refine pU 30 63 HT_ ?_
           refine pU 31 64 HT_ ?_
           refine pU 32 65 HT_ ?_
           refine pU 33 66 HT_ ?_
           refine pS 34 67 HT_ ?_
           refine pS 35 68 HT_ ?_
           refine pU 36 69 HT_ ?_
           refine pU 37 70 HT_ ?_
           refine pU 38 71 HT_ ?_
           refine pU 39 72 HT_ ?_
           refine pU 40 73 HT_ ?_
           refine pU 41 74 HT_ ?_
           refine pU 42 75 HT_ ?_
           refine pU 43 76 HT_ ?_
           refine pU 44 77 HT_ ?_
           refine pS 45 78 HT_ ?_
           refine done_ (done_of HT_.out (by kernel_rfl)) ?_
           try go_wp2
           go_meet
           case rel => exact ⟨_, (true), (by first | rfl | (simp; done) | (simp [*]; done)), H', ⟨by have := HK1.out; first | omega | exact Nat.le_refl _⟩, ⟨pxr HO_3⟩, ⟨pxr HO_26⟩, ⟨pxq BK139⟩, ⟨pxq BK141⟩, ⟨pxb HB⟩⟩
          ·rw [if_neg c20] at H
           have c20b0 : decide (((rd_T32 t134 x28_1).f1.f0) < x5_1) = false := decide_eq_false c20
           clear c20
           (first | rw [c20b0] | (simp only [i64_w, i32_w]; rw [c20b0]) | skip)
           by_cases c23 : ((rd_T32 t134 x28_1).f1.f1) < ((rd_T32 t134 x28_1).f1.f0)
           ·rw [if_pos c23] at H
            have c23b0 : decide (((rd_T32 t134 x28_1).f1.f1) < ((rd_T32 t134 x28_1).f1.f0)) = true := decide_eq_true c23
            clear c23
            have H' := Aside0.mk H
            clear H
            try go_wp2
            have n0_ : Aside0 (Kd.R k32 32 (((w17.setCell ⟨gb141, 0, none⟩ (.int .i64 ((rd_T32 t134 x28_1).f0))).setCell ⟨gb141, 1, none⟩ (.int .i64 ((rd_T32 t134 x28_1).f1.f0))).setCell ⟨gb141, 2, none⟩ (.int .i64 ((rd_T32 t134 x28_1).f1.f1))) w.heap.size (fun k_ => k_ ≠ gb141) (.slice (some ad140) t134.length co12) t134) := ⟨by (with_reducible repeat (first | apply Kd.R_alloc | apply Kd.R_drewN | apply Kd.R_drew)); exact Kd.R_mono (Kd.R_far (p := ⟨gb141, 2, none⟩) (Kd.R_far (p := ⟨gb141, 1, none⟩) (Kd.R_far (p := ⟨gb141, 0, none⟩) (Kd.R_mono HO_3.out (fun k_ hk => (⟨hk, hk.2⟩ : _ ∧ k_ ≠ gb141))) (fun _ hk => hk.2) (.int .i64 ((rd_T32 t134 x28_1).f0))) (fun _ hk => hk.2) (.int .i64 ((rd_T32 t134 x28_1).f1.f0))) (fun _ hk => hk.2) (.int .i64 ((rd_T32 t134 x28_1).f1.f1))) (fun _ hk => hk.1.2)⟩
            have n1_ : Aside0 (Kd.R k32 32 (((w17.setCell ⟨gb141, 0, none⟩ (.int .i64 ((rd_T32 t134 x28_1).f0))).setCell ⟨gb141, 1, none⟩ (.int .i64 ((rd_T32 t134 x28_1).f1.f0))).setCell ⟨gb141, 2, none⟩ (.int .i64 ((rd_T32 t134 x28_1).f1.f1))) w.heap.size (fun k_ => k_ ≠ gb141) (.slice (some ad140) t134.length co12) t134) := ⟨by (with_reducible repeat (first | apply Kd.R_alloc | apply Kd.R_drewN | apply Kd.R_drew)); exact Kd.R_mono (Kd.R_far (p := ⟨gb141, 2, none⟩) (Kd.R_far (p := ⟨gb141, 1, none⟩) (Kd.R_far (p := ⟨gb141, 0, none⟩) (Kd.R_mono HO_26.out (fun k_ hk => (⟨hk, hk.2⟩ : _ ∧ k_ ≠ gb141))) (fun _ hk => hk.2) (.int .i64 ((rd_T32 t134 x28_1).f0))) (fun _ hk => hk.2) (.int .i64 ((rd_T32 t134 x28_1).f1.f0))) (fun _ hk => hk.2) (.int .i64 ((rd_T32 t134 x28_1).f1.f1))) (fun _ hk => hk.1.2)⟩
            have n2_ : Aside0 ((((w17.setCell ⟨gb141, 0, none⟩ (.int .i64 ((rd_T32 t134 x28_1).f0))).setCell ⟨gb141, 1, none⟩ (.int .i64 ((rd_T32 t134 x28_1).f1.f0))).setCell ⟨gb141, 2, none⟩ (.int .i64 ((rd_T32 t134 x28_1).f1.f1))).heap[gb139]? = some (.cells #[.int .i64 t137, .int .i64 t138] 26 (0, 0))) := ⟨pxp BK139⟩
            have n3_ : Aside0 ((((w17.setCell ⟨gb141, 0, none⟩ (.int .i64 ((rd_T32 t134 x28_1).f0))).setCell ⟨gb141, 1, none⟩ (.int .i64 ((rd_T32 t134 x28_1).f1.f0))).setCell ⟨gb141, 2, none⟩ (.int .i64 ((rd_T32 t134 x28_1).f1.f1))).heap[gb141]? = some (.cells #[.int .i64 ((rd_T32 t134 x28_1).f0), .int .i64 ((rd_T32 t134 x28_1).f1.f0), .int .i64 ((rd_T32 t134 x28_1).f1.f1)] 32 (0, 0))) := ⟨pxp BK141⟩
            have n4_ : Aside0 (Below w.heap.size w (((w17.setCell ⟨gb141, 0, none⟩ (.int .i64 ((rd_T32 t134 x28_1).f0))).setCell ⟨gb141, 1, none⟩ (.int .i64 ((rd_T32 t134 x28_1).f1.f0))).setCell ⟨gb141, 2, none⟩ (.int .i64 ((rd_T32 t134 x28_1).f1.f1)))) := ⟨pxb HB⟩
            (try clear HO_3)
            (try clear HO_26)
            (try clear BK139)
            (try clear BK141)
            (try clear HB)
            generalize (((w17.setCell ⟨gb141, 0, none⟩ (.int .i64 ((rd_T32 t134 x28_1).f0))).setCell ⟨gb141, 1, none⟩ (.int .i64 ((rd_T32 t134 x28_1).f1.f0))).setCell ⟨gb141, 2, none⟩ (.int .i64 ((rd_T32 t134 x28_1).f1.f1))) = w24 at n0_ n1_ n2_ n3_ n4_ ⊢
            have HO_3 := n0_
            have HO_26 := n1_
            have BK139 := n2_
            have BK141 := n3_
            have HB := n4_
            clear n0_ n1_ n2_ n3_ n4_
            have n0_ := Aside0.mk (Kd.R_drew HO_3.out)
            have n1_ := Aside0.mk (Kd.R_drew HO_26.out)
            have n2_ := Aside0.mk (blk_drew BK139.out)
            have n3_ := Aside0.mk (blk_drew BK141.out)
            have n4_ := Aside0.mk (below_drew1 HB.out)
            clear HO_3
            clear HO_26
            clear BK139
            clear BK141
            clear HB
            have HO_3 := n0_
            have HO_26 := n1_
            have BK139 := n2_
            have BK141 := n3_
            have HB := n4_
            clear n0_ n1_ n2_ n3_ n4_
            refine start_ (n := 46) (S := fun w' => w'.cell? ⟨gb141, 0, none⟩ = some (.int .i64 ((rd_T32 t134 x28_1).f0)) ∧ w'.cell? ⟨gb141, 1, none⟩ = some (.int .i64 ((rd_T32 t134 x28_1).f1.f0)) ∧ w'.cell? ⟨gb141, 2, none⟩ = some (.int .i64 ((rd_T32 t134 x28_1).f1.f1))) (ds := []) #[false, false, false, false, false, false, false, false, false, false, false, false, false, false, false, false, false, false, false, false, false, false, false, false, false, false, false, false, false, false, false, false, false, false, false, false, false, false, false, false, false, false, false, false, false, false] (by kernel_rfl) rfl rfl ⟨(blk_cell BK141.out 0).trans rfl, (blk_cell BK141.out 1).trans rfl, (blk_cell BK141.out 2).trans rfl⟩ (fun hHeld => ?_); refine with_tabW caulkerlaw06_LexWhole.tab12 caulkerlaw06_LexWhole.bits12 (fun HT_ HW_ => ?_)
            generalize w24.drew = w25 at HO_3 HO_26 BK139 BK141 HB hHeld ⊢
            refine pS 0 33 HT_ ?_
            refine pS 1 34 HT_ ?_
            refine pS 3 36 HT_ ?_
            refine tS 2 35 HT_ HW_ hHeld ?_
            refine pS 4 37 HT_ ?_
            refine pS 5 38 HT_ ?_
            refine pS 6 39 HT_ ?_
            refine pS 7 40 HT_ ?_
            refine pS 9 42 HT_ ?_
            refine pS 10 43 HT_ ?_
            refine tS 8 41 HT_ HW_ hHeld ?_
            refine tS 11 44 HT_ HW_ hHeld ?_
            refine pS 12 45 HT_ ?_
            refine pS 13 46 HT_ ?_
            refine pS 14 47 HT_ ?_
            refine pU 15 48 HT_ ?_
            refine pU 16 49 HT_ ?_
            refine pU 17 50 HT_ ?_
            refine pU 18 51 HT_ ?_
            refine pU 19 52 HT_ ?_
            refine pU 20 53 HT_ ?_
            refine pS 21 54 HT_ ?_
            refine pS 22 55 HT_ ?_
            refine pU 23 56 HT_ ?_
            refine pU 24 57 HT_ ?_
            refine pU 25 58 HT_ ?_
            refine pU 26 59 HT_ ?_
            refine pU 27 60 HT_ ?_
            refine pU 28 61 HT_ ?_
            refine pU 29 62 HT_ ?_
            refine pU 30 63 HT_ ?_
            refine pU 31 64 HT_ ?_
            refine pU 32 65 HT_ ?_
            refine pU 33 66 HT_ ?_
            refine pS 34 67 HT_ ?_
            refine pS 35 68 HT_ ?_
            refine pU 36 69 HT_ ?_
            refine pU 37 70 HT_ ?_
            refine pU 38 71 HT_ ?_
            refine pU 39 72 HT_ ?_
            refine pU 40 73 HT_ ?_
            refine pU 41 74 HT_ ?_
            refine pU 42 75 HT_ ?_
            refine pU 43 76 HT_ ?_
            refine pU 44 77 HT_ ?_
            refine pS 45 78 HT_ ?_
            refine done_ (done_of HT_.out (by kernel_rfl)) ?_
            try go_wp2
            go_meet
            case rel => exact ⟨_, (true), (by first | rfl | (simp; done) | (simp [*]; done)), H', ⟨by have := HK1.out; first | omega | exact Nat.le_refl _⟩, ⟨pxr HO_3⟩, ⟨pxr HO_26⟩, ⟨pxq BK139⟩, ⟨pxq BK141⟩, ⟨pxb HB⟩⟩
           ·rw [if_neg c23] at H
            have c23b0 : decide (((rd_T32 t134 x28_1).f1.f1) < ((rd_T32 t134 x28_1).f1.f0)) = false := decide_eq_false c23
            clear c23
            by_cases c26 : ((rd_T32 t134 x28_1).f1.f1) > (a0.size : Int)
            ·rw [if_pos c26] at H
             have c26b0 : decide ((a0.size : Int) < ((rd_T32 t134 x28_1).f1.f1)) = true := decide_eq_true c26
             clear c26
             have H' := Aside0.mk H
             clear H
             try go_wp2
             have n0_ : Aside0 (Kd.R k32 32 (((w17.setCell ⟨gb141, 0, none⟩ (.int .i64 ((rd_T32 t134 x28_1).f0))).setCell ⟨gb141, 1, none⟩ (.int .i64 ((rd_T32 t134 x28_1).f1.f0))).setCell ⟨gb141, 2, none⟩ (.int .i64 ((rd_T32 t134 x28_1).f1.f1))) w.heap.size (fun k_ => k_ ≠ gb141) (.slice (some ad140) t134.length co12) t134) := ⟨by (with_reducible repeat (first | apply Kd.R_alloc | apply Kd.R_drewN | apply Kd.R_drew)); exact Kd.R_mono (Kd.R_far (p := ⟨gb141, 2, none⟩) (Kd.R_far (p := ⟨gb141, 1, none⟩) (Kd.R_far (p := ⟨gb141, 0, none⟩) (Kd.R_mono HO_3.out (fun k_ hk => (⟨hk, hk.2⟩ : _ ∧ k_ ≠ gb141))) (fun _ hk => hk.2) (.int .i64 ((rd_T32 t134 x28_1).f0))) (fun _ hk => hk.2) (.int .i64 ((rd_T32 t134 x28_1).f1.f0))) (fun _ hk => hk.2) (.int .i64 ((rd_T32 t134 x28_1).f1.f1))) (fun _ hk => hk.1.2)⟩
             have n1_ : Aside0 (Kd.R k32 32 (((w17.setCell ⟨gb141, 0, none⟩ (.int .i64 ((rd_T32 t134 x28_1).f0))).setCell ⟨gb141, 1, none⟩ (.int .i64 ((rd_T32 t134 x28_1).f1.f0))).setCell ⟨gb141, 2, none⟩ (.int .i64 ((rd_T32 t134 x28_1).f1.f1))) w.heap.size (fun k_ => k_ ≠ gb141) (.slice (some ad140) t134.length co12) t134) := ⟨by (with_reducible repeat (first | apply Kd.R_alloc | apply Kd.R_drewN | apply Kd.R_drew)); exact Kd.R_mono (Kd.R_far (p := ⟨gb141, 2, none⟩) (Kd.R_far (p := ⟨gb141, 1, none⟩) (Kd.R_far (p := ⟨gb141, 0, none⟩) (Kd.R_mono HO_26.out (fun k_ hk => (⟨hk, hk.2⟩ : _ ∧ k_ ≠ gb141))) (fun _ hk => hk.2) (.int .i64 ((rd_T32 t134 x28_1).f0))) (fun _ hk => hk.2) (.int .i64 ((rd_T32 t134 x28_1).f1.f0))) (fun _ hk => hk.2) (.int .i64 ((rd_T32 t134 x28_1).f1.f1))) (fun _ hk => hk.1.2)⟩
             have n2_ : Aside0 ((((w17.setCell ⟨gb141, 0, none⟩ (.int .i64 ((rd_T32 t134 x28_1).f0))).setCell ⟨gb141, 1, none⟩ (.int .i64 ((rd_T32 t134 x28_1).f1.f0))).setCell ⟨gb141, 2, none⟩ (.int .i64 ((rd_T32 t134 x28_1).f1.f1))).heap[gb139]? = some (.cells #[.int .i64 t137, .int .i64 t138] 26 (0, 0))) := ⟨pxp BK139⟩
             have n3_ : Aside0 ((((w17.setCell ⟨gb141, 0, none⟩ (.int .i64 ((rd_T32 t134 x28_1).f0))).setCell ⟨gb141, 1, none⟩ (.int .i64 ((rd_T32 t134 x28_1).f1.f0))).setCell ⟨gb141, 2, none⟩ (.int .i64 ((rd_T32 t134 x28_1).f1.f1))).heap[gb141]? = some (.cells #[.int .i64 ((rd_T32 t134 x28_1).f0), .int .i64 ((rd_T32 t134 x28_1).f1.f0), .int .i64 ((rd_T32 t134 x28_1).f1.f1)] 32 (0, 0))) := ⟨pxp BK141⟩
             have n4_ : Aside0 (Below w.heap.size w (((w17.setCell ⟨gb141, 0, none⟩ (.int .i64 ((rd_T32 t134 x28_1).f0))).setCell ⟨gb141, 1, none⟩ (.int .i64 ((rd_T32 t134 x28_1).f1.f0))).setCell ⟨gb141, 2, none⟩ (.int .i64 ((rd_T32 t134 x28_1).f1.f1)))) := ⟨pxb HB⟩
             (try clear HO_3)
             (try clear HO_26)
             (try clear BK139)
             (try clear BK141)
             (try clear HB)
             generalize (((w17.setCell ⟨gb141, 0, none⟩ (.int .i64 ((rd_T32 t134 x28_1).f0))).setCell ⟨gb141, 1, none⟩ (.int .i64 ((rd_T32 t134 x28_1).f1.f0))).setCell ⟨gb141, 2, none⟩ (.int .i64 ((rd_T32 t134 x28_1).f1.f1))) = w27 at n0_ n1_ n2_ n3_ n4_ ⊢
             have HO_3 := n0_
             have HO_26 := n1_
             have BK139 := n2_
             have BK141 := n3_
             have HB := n4_
             clear n0_ n1_ n2_ n3_ n4_
             have n0_ := Aside0.mk (Kd.R_drew HO_3.out)
             have n1_ := Aside0.mk (Kd.R_drew HO_26.out)
             have n2_ := Aside0.mk (blk_drew BK139.out)
             have n3_ := Aside0.mk (blk_drew BK141.out)
             have n4_ := Aside0.mk (below_drew1 HB.out)
             clear HO_3
             clear HO_26
             clear BK139
             clear BK141
             clear HB
             have HO_3 := n0_
             have HO_26 := n1_
             have BK139 := n2_
             have BK141 := n3_
             have HB := n4_
             clear n0_ n1_ n2_ n3_ n4_
             refine start_ (n := 46) (S := fun w' => w'.cell? ⟨gb141, 0, none⟩ = some (.int .i64 ((rd_T32 t134 x28_1).f0)) ∧ w'.cell? ⟨gb141, 1, none⟩ = some (.int .i64 ((rd_T32 t134 x28_1).f1.f0)) ∧ w'.cell? ⟨gb141, 2, none⟩ = some (.int .i64 ((rd_T32 t134 x28_1).f1.f1))) (ds := []) #[false, false, false, false, false, false, false, false, false, false, false, false, false, false, false, false, false, false, false, false, false, false, false, false, false, false, false, false, false, false, false, false, false, false, false, false, false, false, false, false, false, false, false, false, false, false] (by kernel_rfl) rfl rfl ⟨(blk_cell BK141.out 0).trans rfl, (blk_cell BK141.out 1).trans rfl, (blk_cell BK141.out 2).trans rfl⟩ (fun hHeld => ?_); refine with_tabW caulkerlaw06_LexWhole.tab12 caulkerlaw06_LexWhole.bits12 (fun HT_ HW_ => ?_)
             generalize w27.drew = w28 at HO_3 HO_26 BK139 BK141 HB hHeld ⊢
             refine pS 0 33 HT_ ?_
             refine pS 1 34 HT_ ?_
             refine pS 3 36 HT_ ?_
             refine tS 2 35 HT_ HW_ hHeld ?_
             refine pS 4 37 HT_ ?_
             refine pS 5 38 HT_ ?_
             refine pS 6 39 HT_ ?_
             refine pS 7 40 HT_ ?_
             refine pS 9 42 HT_ ?_
             refine pS 10 43 HT_ ?_
             refine tS 8 41 HT_ HW_ hHeld ?_
             refine tS 11 44 HT_ HW_ hHeld ?_
             refine pS 12 45 HT_ ?_
             refine pS 13 46 HT_ ?_
             refine pS 14 47 HT_ ?_
             refine pS 15 48 HT_ ?_
             refine pS 16 49 HT_ ?_
             refine pS 18 51 HT_ ?_
             refine pS 19 52 HT_ ?_
             refine tS 17 50 HT_ HW_ hHeld ?_
             refine pS 20 53 HT_ ?_
             refine pS 21 54 HT_ ?_
             refine pS 22 55 HT_ ?_
             refine pU 23 56 HT_ ?_
             refine pU 24 57 HT_ ?_
             refine pU 25 58 HT_ ?_
             refine pU 26 59 HT_ ?_
             refine pU 27 60 HT_ ?_
             refine pU 28 61 HT_ ?_
             refine pU 29 62 HT_ ?_
             refine pU 30 63 HT_ ?_
             refine pU 31 64 HT_ ?_
             refine pU 32 65 HT_ ?_
             refine pU 33 66 HT_ ?_
             refine pS 34 67 HT_ ?_
             refine pS 35 68 HT_ ?_
             refine pU 36 69 HT_ ?_
             refine pU 37 70 HT_ ?_
             refine pU 38 71 HT_ ?_
             refine pU 39 72 HT_ ?_
             refine pU 40 73 HT_ ?_
             refine pU 41 74 HT_ ?_
             refine pU 42 75 HT_ ?_
             refine pU 43 76 HT_ ?_
             refine pU 44 77 HT_ ?_
             refine pS 45 78 HT_ ?_
             refine done_ (done_of HT_.out (by kernel_rfl)) ?_
             try go_wp2
             go_meet
             case rel => exact ⟨_, (true), (by first | rfl | (simp; done) | (simp [*]; done)), H', ⟨by have := HK1.out; first | omega | exact Nat.le_refl _⟩, ⟨pxr HO_3⟩, ⟨pxr HO_26⟩, ⟨pxq BK139⟩, ⟨pxq BK141⟩, ⟨pxb HB⟩⟩
            ·rw [if_neg c26] at H
             have c26b0 : decide ((a0.size : Int) < ((rd_T32 t134 x28_1).f1.f1)) = false := decide_eq_false c26
             clear c26
             by_cases c29 : 0 ≤ ((rd_T32 t134 x28_1).f1.f0)
             ·rw [if_pos c29] at H
              have c29b0 := eq_true c29
              have c29b1 : decide (0 ≤ ((rd_T32 t134 x28_1).f1.f0)) = true := decide_eq_true c29
              clear c29
              by_cases c30 : ((rd_T32 t134 x28_1).f1.f0) ≤ (a0.size : Int)
              ·rw [if_pos c30] at H
               have c30b0 := eq_true c30
               have c30b1 : decide (((rd_T32 t134 x28_1).f1.f0) ≤ (a0.size : Int)) = true := decide_eq_true c30
               clear c30
               replace H := Option.bind_eq_some_iff.mp H
               obtain ⟨t142, A310, H⟩ := H
               replace H : (if t142 = ((rd_T32 t134 x28_1).f1.f0) then (caulkerlaw06_LexWhole.j1 k1 a0 t134 t134 (t134.length : Int) x28_1 ((((rd_T32 t134 x28_1).f0) == 0) != (x28_1 == (wrap64 ((t134.length : Int) - 1)))) ((rd_T32 t134 x28_1).f0) ((rd_T32 t134 x28_1).f1.f0) ((rd_T32 t134 x28_1).f1.f1)) else (caulkerlaw06_LexWhole.j1 k1 a0 t134 t134 (t134.length : Int) x28_1 true ((rd_T32 t134 x28_1).f0) ((rd_T32 t134 x28_1).f1.f0) ((rd_T32 t134 x28_1).f1.f1))) = some r := H
               have A31 := Aside0.mk A310
               clear A310
               by_cases c32 : t142 = ((rd_T32 t134 x28_1).f1.f0)
               ·rw [if_pos c32] at H
                have c32b0 : (t142 == ((rd_T32 t134 x28_1).f1.f0)) = true := beq_iff_eq.mpr c32
                have c32b1 : (t142 != ((rd_T32 t134 x28_1).f1.f0)) = false := bne_eq_false_iff_eq.mpr c32
                clear c32
                have H' := Aside0.mk H
                clear H
                try go_wp2
                have n0_ : Aside0 (Kd.R k32 32 (((w17.setCell ⟨gb141, 0, none⟩ (.int .i64 ((rd_T32 t134 x28_1).f0))).setCell ⟨gb141, 1, none⟩ (.int .i64 ((rd_T32 t134 x28_1).f1.f0))).setCell ⟨gb141, 2, none⟩ (.int .i64 ((rd_T32 t134 x28_1).f1.f1))) w.heap.size (fun k_ => k_ ≠ gb141) (.slice (some ad140) t134.length co12) t134) := ⟨by (with_reducible repeat (first | apply Kd.R_alloc | apply Kd.R_drewN | apply Kd.R_drew)); exact Kd.R_mono (Kd.R_far (p := ⟨gb141, 2, none⟩) (Kd.R_far (p := ⟨gb141, 1, none⟩) (Kd.R_far (p := ⟨gb141, 0, none⟩) (Kd.R_mono HO_3.out (fun k_ hk => (⟨hk, hk.2⟩ : _ ∧ k_ ≠ gb141))) (fun _ hk => hk.2) (.int .i64 ((rd_T32 t134 x28_1).f0))) (fun _ hk => hk.2) (.int .i64 ((rd_T32 t134 x28_1).f1.f0))) (fun _ hk => hk.2) (.int .i64 ((rd_T32 t134 x28_1).f1.f1))) (fun _ hk => hk.1.2)⟩
                have n1_ : Aside0 (Kd.R k32 32 (((w17.setCell ⟨gb141, 0, none⟩ (.int .i64 ((rd_T32 t134 x28_1).f0))).setCell ⟨gb141, 1, none⟩ (.int .i64 ((rd_T32 t134 x28_1).f1.f0))).setCell ⟨gb141, 2, none⟩ (.int .i64 ((rd_T32 t134 x28_1).f1.f1))) w.heap.size (fun k_ => k_ ≠ gb141) (.slice (some ad140) t134.length co12) t134) := ⟨by (with_reducible repeat (first | apply Kd.R_alloc | apply Kd.R_drewN | apply Kd.R_drew)); exact Kd.R_mono (Kd.R_far (p := ⟨gb141, 2, none⟩) (Kd.R_far (p := ⟨gb141, 1, none⟩) (Kd.R_far (p := ⟨gb141, 0, none⟩) (Kd.R_mono HO_26.out (fun k_ hk => (⟨hk, hk.2⟩ : _ ∧ k_ ≠ gb141))) (fun _ hk => hk.2) (.int .i64 ((rd_T32 t134 x28_1).f0))) (fun _ hk => hk.2) (.int .i64 ((rd_T32 t134 x28_1).f1.f0))) (fun _ hk => hk.2) (.int .i64 ((rd_T32 t134 x28_1).f1.f1))) (fun _ hk => hk.1.2)⟩
                have n2_ : Aside0 ((((w17.setCell ⟨gb141, 0, none⟩ (.int .i64 ((rd_T32 t134 x28_1).f0))).setCell ⟨gb141, 1, none⟩ (.int .i64 ((rd_T32 t134 x28_1).f1.f0))).setCell ⟨gb141, 2, none⟩ (.int .i64 ((rd_T32 t134 x28_1).f1.f1))).heap[gb139]? = some (.cells #[.int .i64 t137, .int .i64 t138] 26 (0, 0))) := ⟨pxp BK139⟩
                have n3_ : Aside0 ((((w17.setCell ⟨gb141, 0, none⟩ (.int .i64 ((rd_T32 t134 x28_1).f0))).setCell ⟨gb141, 1, none⟩ (.int .i64 ((rd_T32 t134 x28_1).f1.f0))).setCell ⟨gb141, 2, none⟩ (.int .i64 ((rd_T32 t134 x28_1).f1.f1))).heap[gb141]? = some (.cells #[.int .i64 ((rd_T32 t134 x28_1).f0), .int .i64 ((rd_T32 t134 x28_1).f1.f0), .int .i64 ((rd_T32 t134 x28_1).f1.f1)] 32 (0, 0))) := ⟨pxp BK141⟩
                have n4_ : Aside0 (Below w.heap.size w (((w17.setCell ⟨gb141, 0, none⟩ (.int .i64 ((rd_T32 t134 x28_1).f0))).setCell ⟨gb141, 1, none⟩ (.int .i64 ((rd_T32 t134 x28_1).f1.f0))).setCell ⟨gb141, 2, none⟩ (.int .i64 ((rd_T32 t134 x28_1).f1.f1)))) := ⟨pxb HB⟩
                (try clear HO_3)
                (try clear HO_26)
                (try clear BK139)
                (try clear BK141)
                (try clear HB)
                generalize (((w17.setCell ⟨gb141, 0, none⟩ (.int .i64 ((rd_T32 t134 x28_1).f0))).setCell ⟨gb141, 1, none⟩ (.int .i64 ((rd_T32 t134 x28_1).f1.f0))).setCell ⟨gb141, 2, none⟩ (.int .i64 ((rd_T32 t134 x28_1).f1.f1))) = w33 at n0_ n1_ n2_ n3_ n4_ ⊢
                have HO_3 := n0_
                have HO_26 := n1_
                have BK139 := n2_
                have BK141 := n3_
                have HB := n4_
                clear n0_ n1_ n2_ n3_ n4_
                have n0_ := Aside0.mk (Kd.R_drew HO_3.out)
                have n1_ := Aside0.mk (Kd.R_drew HO_26.out)
                have n2_ := Aside0.mk (blk_drew BK139.out)
                have n3_ := Aside0.mk (blk_drew BK141.out)
                have n4_ := Aside0.mk (below_drew1 HB.out)
                clear HO_3
                clear HO_26
                clear BK139
                clear BK141
                clear HB
                have HO_3 := n0_
                have HO_26 := n1_
                have BK139 := n2_
                have BK141 := n3_
                have HB := n4_
                clear n0_ n1_ n2_ n3_ n4_
                refine start_ (n := 46) (S := fun w' => w'.cell? ⟨gb141, 0, none⟩ = some (.int .i64 ((rd_T32 t134 x28_1).f0)) ∧ w'.cell? ⟨gb141, 1, none⟩ = some (.int .i64 ((rd_T32 t134 x28_1).f1.f0)) ∧ w'.cell? ⟨gb141, 2, none⟩ = some (.int .i64 ((rd_T32 t134 x28_1).f1.f1))) (ds := []) #[false, false, false, false, false, false, false, false, false, false, false, false, false, false, false, false, false, false, false, false, false, false, false, false, false, false, false, false, false, false, false, false, false, false, false, false, false, false, false, false, false, false, false, false, false, false] (by kernel_rfl) rfl rfl ⟨(blk_cell BK141.out 0).trans rfl, (blk_cell BK141.out 1).trans rfl, (blk_cell BK141.out 2).trans rfl⟩ (fun hHeld => ?_); refine with_tabW caulkerlaw06_LexWhole.tab12 caulkerlaw06_LexWhole.bits12 (fun HT_ HW_ => ?_)
                generalize w33.drew = w34 at HO_3 HO_26 BK139 BK141 HB hHeld ⊢
                refine pS 0 33 HT_ ?_
                refine pS 1 34 HT_ ?_
                refine pS 3 36 HT_ ?_
                refine tS 2 35 HT_ HW_ hHeld ?_
                refine pS 4 37 HT_ ?_
                refine pS 5 38 HT_ ?_
                refine pS 6 39 HT_ ?_
                refine pS 7 40 HT_ ?_
                refine pS 9 42 HT_ ?_
                refine pS 10 43 HT_ ?_
                refine tS 8 41 HT_ HW_ hHeld ?_
                refine tS 11 44 HT_ HW_ hHeld ?_
                refine pS 12 45 HT_ ?_
                refine pS 13 46 HT_ ?_
                refine pS 14 47 HT_ ?_
                refine pS 15 48 HT_ ?_
                refine pS 16 49 HT_ ?_
                refine pS 18 51 HT_ ?_
                refine pS 19 52 HT_ ?_
                refine tS 17 50 HT_ HW_ hHeld ?_
                refine pS 20 53 HT_ ?_
                refine pS 21 54 HT_ ?_
                refine pS 22 55 HT_ ?_
                refine pS 23 56 HT_ ?_
                refine pS 24 57 HT_ ?_
                refine pS 25 58 HT_ ?_
                refine pS 28 61 HT_ ?_
                refine pS 30 63 HT_ ?_
                refine pS 31 64 HT_ ?_
                refine tS 26 59 HT_ HW_ hHeld ?_
                refine pS 27 60 HT_ ?_
                refine tS 32 65 HT_ HW_ hHeld ?_
                refine oS 29 HT_ (fun K hK => ?_)
                refine goes_ Try.func10 (by kernel_rfl) rfl #[.string (a0.extract 0 (((rd_T32 t134 x28_1).f1.f0) : Int).toNat), .int .i64 x5_1] (by rfl) rfl rfl (by (try simp only [List.map_toArray, List.map_cons, List.map_nil]); first | done | rfl | (simp only [List.length_drop, List.length_take]; rfl)) ?_
                with_reducible refine (caulkerref06_Between.calls k1 (a0.extract 0 (((rd_T32 t134 x28_1).f1.f0) : Int).toNat) x5_1 t142 _ A31.out).mono ?_
                rintro e w' ⟨rfl, ⟨nd, rfl⟩⟩
                refine ⟨_, rfl, ?_⟩
                refine hK.out _ _ ⟨(blk_cell BK141.out 0).trans rfl, (blk_cell BK141.out 1).trans rfl, (blk_cell BK141.out 2).trans rfl⟩ (fun hHeld => ?_)
                clear hK K
                refine nS 62 ?_
                refine pS 33 66 HT_ ?_
                refine pS 34 67 HT_ ?_
                refine pS 35 68 HT_ ?_
                refine pS 36 69 HT_ ?_
                refine pS 39 72 HT_ ?_
                refine pS 40 73 HT_ ?_
                refine pS 41 74 HT_ ?_
                refine pS 42 75 HT_ ?_
                refine pS 43 76 HT_ ?_
                refine tS 37 70 HT_ HW_ hHeld ?_
                refine pS 38 71 HT_ ?_
                refine pS 44 77 HT_ ?_
                refine pS 45 78 HT_ ?_
                refine done_ (done_of HT_.out (by kernel_rfl)) ?_
                try go_wp2
                go_meet
                case rel => exact ⟨_, (((((rd_T32 t134 x28_1).f0) == 0) != (x28_1 == (wrap64 ((t134.length : Int) - 1))))), (by first | rfl | (simp; done) | (simp [*]; done)), H', ⟨by have := HK1.out; first | omega | exact Nat.le_refl _⟩, ⟨pxr HO_3⟩, ⟨pxr HO_26⟩, ⟨pxq BK139⟩, ⟨pxq BK141⟩, ⟨pxb HB⟩⟩
               ·rw [if_neg c32] at H
                have c32b0 : (t142 == ((rd_T32 t134 x28_1).f1.f0)) = false := beq_eq_false_iff_ne.mpr c32
                have c32b1 : (t142 != ((rd_T32 t134 x28_1).f1.f0)) = true := bne_iff_ne.mpr c32
                have H' := Aside0.mk H
                clear H
                try go_wp2
                have n0_ : Aside0 (Kd.R k32 32 (((w17.setCell ⟨gb141, 0, none⟩ (.int .i64 ((rd_T32 t134 x28_1).f0))).setCell ⟨gb141, 1, none⟩ (.int .i64 ((rd_T32 t134 x28_1).f1.f0))).setCell ⟨gb141, 2, none⟩ (.int .i64 ((rd_T32 t134 x28_1).f1.f1))) w.heap.size (fun k_ => k_ ≠ gb141) (.slice (some ad140) t134.length co12) t134) := ⟨by (with_reducible repeat (first | apply Kd.R_alloc | apply Kd.R_drewN | apply Kd.R_drew)); exact Kd.R_mono (Kd.R_far (p := ⟨gb141, 2, none⟩) (Kd.R_far (p := ⟨gb141, 1, none⟩) (Kd.R_far (p := ⟨gb141, 0, none⟩) (Kd.R_mono HO_3.out (fun k_ hk => (⟨hk, hk.2⟩ : _ ∧ k_ ≠ gb141))) (fun _ hk => hk.2) (.int .i64 ((rd_T32 t134 x28_1).f0))) (fun _ hk => hk.2) (.int .i64 ((rd_T32 t134 x28_1).f1.f0))) (fun _ hk => hk.2) (.int .i64 ((rd_T32 t134 x28_1).f1.f1))) (fun _ hk => hk.1.2)⟩
                have n1_ : Aside0 (Kd.R k32 32 (((w17.setCell ⟨gb141, 0, none⟩ (.int .i64 ((rd_T32 t134 x28_1).f0))).setCell ⟨gb141, 1, none⟩ (.int .i64 ((rd_T32 t134 x28_1).f1.f0))).setCell ⟨gb141, 2, none⟩ (.int .i64 ((rd_T32 t134 x28_1).f1.f1))) w.heap.size (fun k_ => k_ ≠ gb141) (.slice (some ad140) t134.length co12) t134) := ⟨by (with_reducible repeat (first | apply Kd.R_alloc | apply Kd.R_drewN | apply Kd.R_drew)); exact Kd.R_mono (Kd.R_far (p := ⟨gb141, 2, none⟩) (Kd.R_far (p := ⟨gb141, 1, none⟩) (Kd.R_far (p := ⟨gb141, 0, none⟩) (Kd.R_mono HO_26.out (fun k_ hk => (⟨hk, hk.2⟩ : _ ∧ k_ ≠ gb141))) (fun _ hk => hk.2) (.int .i64 ((rd_T32 t134 x28_1).f0))) (fun _ hk => hk.2) (.int .i64 ((rd_T32 t134 x28_1).f1.f0))) (fun _ hk => hk.2) (.int .i64 ((rd_T32 t134 x28_1).f1.f1))) (fun _ hk => hk.1.2)⟩
                have n2_ : Aside0 ((((w17.setCell ⟨gb141, 0, none⟩ (.int .i64 ((rd_T32 t134 x28_1).f0))).setCell ⟨gb141, 1, none⟩ (.int .i64 ((rd_T32 t134 x28_1).f1.f0))).setCell ⟨gb141, 2, none⟩ (.int .i64 ((rd_T32 t134 x28_1).f1.f1))).heap[gb139]? = some (.cells #[.int .i64 t137, .int .i64 t138] 26 (0, 0))) := ⟨pxp BK139⟩
                have n3_ : Aside0 ((((w17.setCell ⟨gb141, 0, none⟩ (.int .i64 ((rd_T32 t134 x28_1).f0))).setCell ⟨gb141, 1, none⟩ (.int .i64 ((rd_T32 t134 x28_1).f1.f0))).setCell ⟨gb141, 2, none⟩ (.int .i64 ((rd_T32 t134 x28_1).f1.f1))).heap[gb141]? = some (.cells #[.int .i64 ((rd_T32 t134 x28_1).f0), .int .i64 ((rd_T32 t134 x28_1).f1.f0), .int .i64 ((rd_T32 t134 x28_1).f1.f1)] 32 (0, 0))) := ⟨pxp BK141⟩
                have n4_ : Aside0 (Below w.heap.size w (((w17.setCell ⟨gb141, 0, none⟩ (.int .i64 ((rd_T32 t134 x28_1).f0))).setCell ⟨gb141, 1, none⟩ (.int .i64 ((rd_T32 t134 x28_1).f1.f0))).setCell ⟨gb141, 2, none⟩ (.int .i64 ((rd_T32 t134 x28_1).f1.f1)))) := ⟨pxb HB⟩
                (try clear HO_3)
                (try clear HO_26)
                (try clear BK139)
                (try clear BK141)
                (try clear HB)
                generalize (((w17.setCell ⟨gb141, 0, none⟩ (.int .i64 ((rd_T32 t134 x28_1).f0))).setCell ⟨gb141, 1, none⟩ (.int .i64 ((rd_T32 t134 x28_1).f1.f0))).setCell ⟨gb141, 2, none⟩ (.int .i64 ((rd_T32 t134 x28_1).f1.f1))) = w35 at n0_ n1_ n2_ n3_ n4_ ⊢
                have HO_3 := n0_
                have HO_26 := n1_
                have BK139 := n2_
                have BK141 := n3_
                have HB := n4_
                clear n0_ n1_ n2_ n3_ n4_
                have n0_ := Aside0.mk (Kd.R_drew HO_3.out)
                have n1_ := Aside0.mk (Kd.R_drew HO_26.out)
                have n2_ := Aside0.mk (blk_drew BK139.out)
                have n3_ := Aside0.mk (blk_drew BK141.out)
                have n4_ := Aside0.mk (below_drew1 HB.out)
                clear HO_3
                clear HO_26
                clear BK139
                clear BK141
                clear HB
                have HO_3 := n0_
                have HO_26 := n1_
                have BK139 := n2_
                have BK141 := n3_
                have HB := n4_
                clear n0_ n1_ n2_ n3_ n4_
                refine start_ (n := 46) (S := fun w' => w'.cell? ⟨gb141, 0, none⟩ = some (.int .i64 ((rd_T32 t134 x28_1).f0)) ∧ w'.cell? ⟨gb141, 1, none⟩ = some (.int .i64 ((rd_T32 t134 x28_1).f1.f0)) ∧ w'.cell? ⟨gb141, 2, none⟩ = some (.int .i64 ((rd_T32 t134 x28_1).f1.f1))) (ds := []) #[false, false, false, false, false, false, false, false, false, false, false, false, false, false, false, false, false, false, false, false, false, false, false, false, false, false, false, false, false, false, false, false, false, false, false, false, false, false, false, false, false, false, false, false, false, false] (by kernel_rfl) rfl rfl ⟨(blk_cell BK141.out 0).trans rfl, (blk_cell BK141.out 1).trans rfl, (blk_cell BK141.out 2).trans rfl⟩ (fun hHeld => ?_); refine with_tabW caulkerlaw06_LexWhole.tab12 caulkerlaw06_LexWhole.bits12 (fun HT_ HW_ => ?_)
                generalize w35.drew = w36 at HO_3 HO_26 BK139 BK141 HB hHeld ⊢
                refine pS 0 33 HT_ ?_
                refine pS 1 34 HT_ ?_
                refine pS 3 36 HT_ ?_
                refine tS 2 35 HT_ HW_ hHeld ?_
                refine pS 4 37 HT_ ?_
                refine pS 5 38 HT_ ?_
                refine pS 6 39 HT_ ?_
                refine pS 7 40 HT_ ?_
                refine pS 9 42 HT_ ?_
                refine pS 10 43 HT_ ?_
                refine tS 8 41 HT_ HW_ hHeld ?_
                refine tS 11 44 HT_ HW_ hHeld ?_
                refine pS 12 45 HT_ ?_
                refine pS 13 46 HT_ ?_
                refine pS 14 47 HT_ ?_
                refine pS 15 48 HT_ ?_
                refine pS 16 49 HT_ ?_
                refine pS 18 51 HT_ ?_
                refine pS 19 52 HT_ ?_
                refine tS 17 50 HT_ HW_ hHeld ?_
                refine pS 20 53 HT_ ?_
                refine pS 21 54 HT_ ?_
                refine pS 22 55 HT_ ?_
                refine pS 23 56 HT_ ?_
                refine pS 24 57 HT_ ?_
                refine pS 25 58 HT_ ?_
                refine pS 28 61 HT_ ?_
                refine pS 30 63 HT_ ?_
                refine pS 31 64 HT_ ?_
                refine tS 26 59 HT_ HW_ hHeld ?_
                refine pS 27 60 HT_ ?_
                refine tS 32 65 HT_ HW_ hHeld ?_
                refine oS 29 HT_ (fun K hK => ?_)
                refine goes_ Try.func10 (by kernel_rfl) rfl #[.string (a0.extract 0 (((rd_T32 t134 x28_1).f1.f0) : Int).toNat), .int .i64 x5_1] (by rfl) rfl rfl (by (try simp only [List.map_toArray, List.map_cons, List.map_nil]); first | done | rfl | (simp only [List.length_drop, List.length_take]; rfl)) ?_
                with_reducible refine (caulkerref06_Between.calls k1 (a0.extract 0 (((rd_T32 t134 x28_1).f1.f0) : Int).toNat) x5_1 t142 _ A31.out).mono ?_
                rintro e w' ⟨rfl, ⟨nd, rfl⟩⟩
                refine ⟨_, rfl, ?_⟩
                refine hK.out _ _ ⟨(blk_cell BK141.out 0).trans rfl, (blk_cell BK141.out 1).trans rfl, (blk_cell BK141.out 2).trans rfl⟩ (fun hHeld => ?_)
                clear hK K
                refine nS 62 ?_
                refine pS 33 66 HT_ ?_
                refine pS 34 67 HT_ ?_
                refine pS 35 68 HT_ ?_
                refine pU 36 69 HT_ ?_
                refine pU 37 70 HT_ ?_
                refine pU 38 71 HT_ ?_
                refine pU 39 72 HT_ ?_
                refine pU 40 73 HT_ ?_
                refine pU 41 74 HT_ ?_
                refine pU 42 75 HT_ ?_
                refine pU 43 76 HT_ ?_
                refine pU 44 77 HT_ ?_
                refine pS 45 78 HT_ ?_
                refine done_ (done_of HT_.out (by kernel_rfl)) ?_
                try go_wp2
                go_meet
                case rel => exact ⟨_, (true), (by first | rfl | (simp; done) | (simp [*]; done)), H', ⟨by have := HK1.out; first | omega | exact Nat.le_refl _⟩, ⟨pxr HO_3⟩, ⟨pxr HO_26⟩, ⟨pxq BK139⟩, ⟨pxq BK141⟩, ⟨pxb HB⟩⟩
              ·rw [if_neg c30] at H
               exact absurd H (by simp)
             ·rw [if_neg c29] at H
              exact absurd H (by simp)
         case rest => as_aux_lemma =>
          clear HC16
          (try clear c1); (try clear c2); (try clear p2); (try clear c3); (try clear p6); (try clear c10); (try clear c29); (try clear c30); (try clear c32); (try clear c32b0); (try clear c32b1)
          obtain ⟨kq, x78_15, rfl, HA, HJ15, HO_3, HO_26, BK139, BK141, HB⟩ := hcut
          cases kq with
          | zero => exact absurd HA.out (by simp [caulkerlaw06_LexWhole.j1])
          | succ kj15 =>
           have H := HA.out
           clear HA
           simp only [caulkerlaw06_LexWhole.j1] at H
           by_cases c37 : x78_15 = true
           ·subst c37
            have H1 : (none) = some r := by rw [if_pos rfl] at H; exact H
            clear H
            have H := H1
            clear H1
            exact absurd H (by simp)
           ·replace c37 := Bool.eq_false_iff.mpr c37
            subst c37
            have H1 : (if ((rd_T32 t134 x28_1).f0) = 0 then (caulkerlaw06_LexWhole.l0 kj15 a0 t134 ((rd_T32 t134 x28_1).f1.f1) t134 (t134.length : Int) (wrap64 (x28_1 + 1))) else (if 0 ≤ ((rd_T32 t134 x28_1).f1.f0) then (if ((rd_T32 t134 x28_1).f1.f0) ≤ ((rd_T32 t134 x28_1).f1.f1) then (if ((rd_T32 t134 x28_1).f1.f1) ≤ (a0.size : Int) then ((lex_Lex.f (a0.extract (((rd_T32 t134 x28_1).f1.f0) : Int).toNat (((rd_T32 t134 x28_1).f1.f1) : Int).toNat)).bind fun bt143 => (if bt143.2.1 = 0 then (if (bt143.1.length : Int) = 2 then (if 0 < (bt143.1.length : Int) then (if ((rd_T32 bt143.1 0).f0) = ((rd_T32 t134 x28_1).f0) then (if ((rd_T32 bt143.1 0).f1.f1) = (wrap64 (((rd_T32 t134 x28_1).f1.f1) - ((rd_T32 t134 x28_1).f1.f0))) then (if ((rd_T32 t134 x28_1).f1.f1) = ((rd_T32 t134 x28_1).f1.f0) then (none) else (caulkerlaw06_LexWhole.l0 kj15 a0 t134 ((rd_T32 t134 x28_1).f1.f1) t134 (t134.length : Int) (wrap64 (x28_1 + 1)))) else (none)) else (none)) else (none)) else (none)) else (none))) else (none)) else (none)) else (none))) = some r := by rw [if_neg (show ¬ (false = true) by decide)] at H; exact H
            clear H
            have H := H1
            clear H1
            by_cases c38 : ((rd_T32 t134 x28_1).f0) = 0
            ·rw [if_pos c38] at H
             have c38b0 : (((rd_T32 t134 x28_1).f0) == 0) = true := beq_iff_eq.mpr c38
             have c38b1 : (((rd_T32 t134 x28_1).f0) != 0) = false := bne_eq_false_iff_eq.mpr c38
             clear c38
             have H' := Aside0.mk H
             clear H
             have hnb39 := NB141_139.out
             have hnc39 := NB139_141.out
             have hcz40_0 : wc.cell? ⟨gb141, 0, none⟩ = some (.int .i64 ((rd_T32 t134 x28_1).f0)) := (blk_cell BK141.out 0).trans rfl
             have hcz40_1 : wc.cell? ⟨gb141, 1, none⟩ = some (.int .i64 ((rd_T32 t134 x28_1).f1.f0)) := (blk_cell BK141.out 1).trans rfl
             have hcz40_2 : wc.cell? ⟨gb141, 2, none⟩ = some (.int .i64 ((rd_T32 t134 x28_1).f1.f1)) := (blk_cell BK141.out 2).trans rfl
             have hfz40_0 := blk_frozen BK141.out 0
             have hfz40_1 := blk_frozen BK141.out 1
             have hfz40_2 := blk_frozen BK141.out 2
             go_wp2
             go_roundg kj15
             case measure => have := HK1.out; have := HJ15.out; omega
             case rel => exact ⟨(((rd_T32 t134 x28_1).f1.f1)), (wrap64 (x28_1 + 1)), (by first | rfl | (simp; done) | (simp [*]; done)), (by first | rfl | (simp; done) | (simp [*]; done)), H', ⟨by have := HK1.out; have := HJ15.out; omega⟩, ⟨by (with_reducible repeat (first | apply Kd.R_alloc | apply Kd.R_drewN | apply Kd.R_drew)); exact Kd.R_mono HO_3.out (fun _ hk => trivial)⟩, ⟨by (with_reducible repeat (first | apply Kd.R_alloc | apply Kd.R_drewN | apply Kd.R_drew)); exact Kd.R_mono HO_26.out (fun _ hk => trivial)⟩, ⟨pxq BK139⟩, ⟨pxb HB⟩⟩
            ·rw [if_neg c38] at H
             have c38b0 : (((rd_T32 t134 x28_1).f0) == 0) = false := beq_eq_false_iff_ne.mpr c38
             have c38b1 : (((rd_T32 t134 x28_1).f0) != 0) = true := bne_iff_ne.mpr c38
             by_cases c41 : 0 ≤ ((rd_T32 t134 x28_1).f1.f0)
             ·rw [if_pos c41] at H
              have c41b0 := eq_true c41
              have c41b1 : decide (0 ≤ ((rd_T32 t134 x28_1).f1.f0)) = true := decide_eq_true c41
              clear c41
              by_cases c42 : ((rd_T32 t134 x28_1).f1.f0) ≤ ((rd_T32 t134 x28_1).f1.f1)
              ·rw [if_pos c42] at H
               have c42b0 := eq_true c42
               have c42b1 : decide (((rd_T32 t134 x28_1).f1.f0) ≤ ((rd_T32 t134 x28_1).f1.f1)) = true := decide_eq_true c42
               clear c42
               by_cases c43 : ((rd_T32 t134 x28_1).f1.f1) ≤ (a0.size : Int)
               ·rw [if_pos c43] at H
                have c43b0 := eq_true c43
                have c43b1 : decide (((rd_T32 t134 x28_1).f1.f1) ≤ (a0.size : Int)) = true := decide_eq_true c43
                clear c43
                replace H := Option.bind_eq_some_iff.mp H
                obtain ⟨⟨t143, t146, t147⟩, A440, H⟩ := H
                replace H : (if t146 = 0 then (if (t143.length : Int) = 2 then (if 0 < (t143.length : Int) then (if ((rd_T32 t143 0).f0) = ((rd_T32 t134 x28_1).f0) then (if ((rd_T32 t143 0).f1.f1) = (wrap64 (((rd_T32 t134 x28_1).f1.f1) - ((rd_T32 t134 x28_1).f1.f0))) then (if ((rd_T32 t134 x28_1).f1.f1) = ((rd_T32 t134 x28_1).f1.f0) then (none) else (caulkerlaw06_LexWhole.l0 kj15 a0 t134 ((rd_T32 t134 x28_1).f1.f1) t134 (t134.length : Int) (wrap64 (x28_1 + 1)))) else (none)) else (none)) else (none)) else (none)) else (none)) = some r := H
                have A44 := Aside0.mk A440
                clear A440
                by_cases c45 : t146 = 0
                ·rw [if_pos c45] at H
                 have c45b0 : (t146 == 0) = true := beq_iff_eq.mpr c45
                 have c45b1 : (t146 != 0) = false := bne_eq_false_iff_eq.mpr c45
                 clear c45
                 by_cases c46 : (t143.length : Int) = 2
                 ·rw [if_pos c46] at H
                  have c46b0 : ((t143.length : Int) == 2) = true := beq_iff_eq.mpr c46
                  have c46b1 : ((t143.length : Int) != 2) = false := bne_eq_false_iff_eq.mpr c46
                  clear c46
                  by_cases c47 : 0 < (t143.length : Int)
                  ·rw [if_pos c47] at H
                   have c47b0 : decide (0 < (t143.length : Int)) = true := decide_eq_true c47
                   have c47b1 : decide (0 < t143.length) = true := decide_eq_true (by omega)
                   clear c47
                   by_cases c48 : ((rd_T32 t143 0).f0) = ((rd_T32 t134 x28_1).f0)
                   ·rw [if_pos c48] at H
                    have c48b0 : (((rd_T32 t143 0).f0) == ((rd_T32 t134 x28_1).f0)) = true := beq_iff_eq.mpr c48
                    have c48b1 : (((rd_T32 t143 0).f0) != ((rd_T32 t134 x28_1).f0)) = false := bne_eq_false_iff_eq.mpr c48
                    clear c48
                    by_cases c49 : ((rd_T32 t143 0).f1.f1) = (wrap64 (((rd_T32 t134 x28_1).f1.f1) - ((rd_T32 t134 x28_1).f1.f0)))
                    ·rw [if_pos c49] at H
                     have c49b0 : (((rd_T32 t143 0).f1.f1) == (wrap64 (((rd_T32 t134 x28_1).f1.f1) - ((rd_T32 t134 x28_1).f1.f0)))) = true := beq_iff_eq.mpr c49
                     have c49b1 : (((rd_T32 t143 0).f1.f1) != (wrap64 (((rd_T32 t134 x28_1).f1.f1) - ((rd_T32 t134 x28_1).f1.f0)))) = false := bne_eq_false_iff_eq.mpr c49
                     clear c49
                     by_cases c50 : ((rd_T32 t134 x28_1).f1.f1) = ((rd_T32 t134 x28_1).f1.f0)
                     ·rw [if_pos c50] at H
                      exact absurd H (by simp)
                     ·rw [if_neg c50] at H
                      have c50b0 : (((rd_T32 t134 x28_1).f1.f1) == ((rd_T32 t134 x28_1).f1.f0)) = false := beq_eq_false_iff_ne.mpr c50
                      have c50b1 : (((rd_T32 t134 x28_1).f1.f1) != ((rd_T32 t134 x28_1).f1.f0)) = true := bne_iff_ne.mpr c50
                      have H' := Aside0.mk H
                      clear H
                      have hnb51 := NB141_139.out
                      have hnc51 := NB139_141.out
                      have hcz52_0 : wc.cell? ⟨gb141, 0, none⟩ = some (.int .i64 ((rd_T32 t134 x28_1).f0)) := (blk_cell BK141.out 0).trans rfl
                      have hcz52_1 : wc.cell? ⟨gb141, 1, none⟩ = some (.int .i64 ((rd_T32 t134 x28_1).f1.f0)) := (blk_cell BK141.out 1).trans rfl
                      have hcz52_2 : wc.cell? ⟨gb141, 2, none⟩ = some (.int .i64 ((rd_T32 t134 x28_1).f1.f1)) := (blk_cell BK141.out 2).trans rfl
                      have hfz52_0 := blk_frozen BK141.out 0
                      have hfz52_1 := blk_frozen BK141.out 1
                      have hfz52_2 := blk_frozen BK141.out 2
                      try go_wp2_with (first | ((with_reducible refine gate_callee (f := 9) rfl ?_); refine goesL_ (some 91) rfl rfl Try.func9 (by kernel_rfl) rfl #[.string (a0.extract (((rd_T32 t134 x28_1).f1.f0) : Int).toNat (((rd_T32 t134 x28_1).f1.f1) : Int).toNat)] rfl (by (try simp only [List.map_toArray, List.map_cons, List.map_nil]); first | done | rfl | (simp only [List.length_drop, List.length_take]; rfl)) ?_; (with_reducible refine (lex_Lex.calls (a0.extract (((rd_T32 t134 x28_1).f1.f0) : Int).toNat (((rd_T32 t134 x28_1).f1.f1) : Int).toNat) t143 t146 t147 _ A44.out ?gv).mono ?_); (case gv => first | exact LexW.GV.later HGV.out (pxb HB) | (repeat (first | exact HGV.out | apply LexW.GV.drewN))); rintro e w53 ⟨v144, rfl, ho0, hb⟩; refine ⟨_, rfl, ?_⟩; have HO145 := Aside0.mk (Kd.R_lower (Kd.R_newB (Kd.R_new' (Kd.R_new' ho0 (Kd.R_lt (pxr HO_3))) (Kd.R_lt (pxr HO_26))) (g := gb141) (o := .cells #[.int .i64 ((rd_T32 t134 x28_1).f0), .int .i64 ((rd_T32 t134 x28_1).f1.f0), .int .i64 ((rd_T32 t134 x28_1).f1.f1)] 32 (0, 0)) (pxq BK141)) (below_size (pxb HB))); replace HO_3 := Aside0.mk (Kd.R_elder' (pxr HO_3) (Kd.R_base ho0) hb); replace HO_26 := Aside0.mk (Kd.R_elder' (pxr HO_26) (Kd.R_base ho0) hb); replace BK139 := pxk BK139 hb; replace BK141 := pxk BK141 hb; replace HB := pxs HB hb; (try clear hb); (try clear hb2); (try clear hk); (try clear hi); (try clear ho0)) | ((with_reducible refine gate_dst (N := 9) rfl ?_); refine box_event ?hg (N := 9) ?hd (cs := #[.int .i64 0, .int .i64 0]) (t := 26) ?hr ?_; (case hd => rfl); (case hg => rfl); (case hr => first | (go_simp; done) | (go_simp; rfl)); intro gb148 hg w54 hbox hb; have BK148 := Aside0.mk (hbox); have GW148 := pxw HB hg; have GE148 := pxw HB hg; have NB139_148 := pxn BK139 hg; have NB148_139 := Aside0.mk (pxn BK139 hg).out.symm; have NB141_148 := pxn BK141 hg; have NB148_141 := Aside0.mk (pxn BK141 hg).out.symm; replace HO_3 := Aside0.mk (Kd.R_below (pxr HO_3) hb); replace HO_26 := Aside0.mk (Kd.R_below (pxr HO_26) hb); replace HO145 := Aside0.mk (Kd.R_below (pxr HO145) hb); replace BK139 := pxk BK139 hb; replace BK141 := pxk BK141 hb; replace HB := pxs HB hb; clear hb hbox hg; have hnb55 := NB148_139.out; have hnc55 := NB139_148.out; have hnb56 := NB148_141.out; have hnc56 := NB141_148.out; obtain ⟨hcz57_0, hcz57_1, hfz57_0, hfz57_1⟩ := pxf2 BK148))
                      have n0_ : Aside0 (Kd.R k32 32 ((w54.setCell ⟨gb148, 0, none⟩ (.int .i64 t146)).setCell ⟨gb148, 1, none⟩ (.int .i64 t147)) w.heap.size (fun k_ => some k_ ≠ (v144 : Value).ownBlock ∧ k_ ≠ gb141) (.slice (some ad140) t134.length co12) t134) := ⟨by (with_reducible repeat (first | apply Kd.R_alloc | apply Kd.R_drewN | apply Kd.R_drew)); exact Kd.R_mono (Kd.R_far (p := ⟨gb148, 1, none⟩) (Kd.R_far (p := ⟨gb148, 0, none⟩) (Kd.R_types HO_3.out BK148.out (by decide)) (fun _ hk => hk.2) (.int .i64 t146)) (fun _ hk => hk.2) (.int .i64 t147)) (fun _ hk => ⟨hk.1.2, hk.1.1⟩)⟩
                      have n1_ : Aside0 (Kd.R k32 32 ((w54.setCell ⟨gb148, 0, none⟩ (.int .i64 t146)).setCell ⟨gb148, 1, none⟩ (.int .i64 t147)) w.heap.size (fun k_ => some k_ ≠ (v144 : Value).ownBlock ∧ k_ ≠ gb141) (.slice (some ad140) t134.length co12) t134) := ⟨by (with_reducible repeat (first | apply Kd.R_alloc | apply Kd.R_drewN | apply Kd.R_drew)); exact Kd.R_mono (Kd.R_far (p := ⟨gb148, 1, none⟩) (Kd.R_far (p := ⟨gb148, 0, none⟩) (Kd.R_types HO_26.out BK148.out (by decide)) (fun _ hk => hk.2) (.int .i64 t146)) (fun _ hk => hk.2) (.int .i64 t147)) (fun _ hk => ⟨hk.1.2, hk.1.1⟩)⟩
                      have n2_ : Aside0 (Kd.R k32 32 ((w54.setCell ⟨gb148, 0, none⟩ (.int .i64 t146)).setCell ⟨gb148, 1, none⟩ (.int .i64 t147)) w.heap.size (fun k_ => some k_ ≠ (.slice (some ad140) t134.length co12 : Value).ownBlock ∧ some k_ ≠ (.slice (some ad140) t134.length co12 : Value).ownBlock ∧ k_ ≠ gb141) v144 t143) := ⟨by (with_reducible repeat (first | apply Kd.R_alloc | apply Kd.R_drewN | apply Kd.R_drew)); exact Kd.R_mono (Kd.R_far (p := ⟨gb148, 1, none⟩) (Kd.R_far (p := ⟨gb148, 0, none⟩) (Kd.R_types HO145.out BK148.out (by decide)) (fun _ hk => hk.2) (.int .i64 t146)) (fun _ hk => hk.2) (.int .i64 t147)) (fun _ hk => ⟨hk.1.1.1.2, ⟨hk.1.1.2, hk.1.2⟩⟩)⟩
                      have n3_ : Aside0 (((w54.setCell ⟨gb148, 0, none⟩ (.int .i64 t146)).setCell ⟨gb148, 1, none⟩ (.int .i64 t147)).heap[gb139]? = some (.cells #[.int .i64 t137, .int .i64 t138] 26 (0, 0))) := ⟨pxp BK139⟩
                      have n4_ : Aside0 (((w54.setCell ⟨gb148, 0, none⟩ (.int .i64 t146)).setCell ⟨gb148, 1, none⟩ (.int .i64 t147)).heap[gb141]? = some (.cells #[.int .i64 ((rd_T32 t134 x28_1).f0), .int .i64 ((rd_T32 t134 x28_1).f1.f0), .int .i64 ((rd_T32 t134 x28_1).f1.f1)] 32 (0, 0))) := ⟨pxp BK141⟩
                      have n5_ : Aside0 (((w54.setCell ⟨gb148, 0, none⟩ (.int .i64 t146)).setCell ⟨gb148, 1, none⟩ (.int .i64 t147)).heap[gb148]? = some (.cells #[.int .i64 t146, .int .i64 t147] 26 (0, 0))) := ⟨pxp BK148⟩
                      have n6_ : Aside0 (Below w.heap.size w ((w54.setCell ⟨gb148, 0, none⟩ (.int .i64 t146)).setCell ⟨gb148, 1, none⟩ (.int .i64 t147))) := ⟨pxb HB⟩
                      (try clear HO_3)
                      (try clear HO_26)
                      (try clear HO145)
                      (try clear BK139)
                      (try clear BK141)
                      (try clear BK148)
                      (try clear HB)
                      generalize ((w54.setCell ⟨gb148, 0, none⟩ (.int .i64 t146)).setCell ⟨gb148, 1, none⟩ (.int .i64 t147)) = w58 at n0_ n1_ n2_ n3_ n4_ n5_ n6_ ⊢
                      have HO_3 := n0_
                      have HO_26 := n1_
                      have HO145 := n2_
                      have BK139 := n3_
                      have BK141 := n4_
                      have BK148 := n5_
                      have HB := n6_
                      clear n0_ n1_ n2_ n3_ n4_ n5_ n6_
                      have n0_ := Aside0.mk (Kd.R_drew HO_3.out)
                      have n1_ := Aside0.mk (Kd.R_drew HO_26.out)
                      have n2_ := Aside0.mk (Kd.R_drew HO145.out)
                      have n3_ := Aside0.mk (blk_drew BK139.out)
                      have n4_ := Aside0.mk (blk_drew BK141.out)
                      have n5_ := Aside0.mk (blk_drew BK148.out)
                      have n6_ := Aside0.mk (below_drew1 HB.out)
                      clear HO_3
                      clear HO_26
                      clear HO145
                      clear BK139
                      clear BK141
                      clear BK148
                      clear HB
                      have HO_3 := n0_
                      have HO_26 := n1_
                      have HO145 := n2_
                      have BK139 := n3_
                      have BK141 := n4_
                      have BK148 := n5_
                      have HB := n6_
                      clear n0_ n1_ n2_ n3_ n4_ n5_ n6_
                      obtain ⟨Ao60, co60, eo60⟩ := Kd.R_slice HO145.out
                      (first | subst eo60 | (injection eo60 with f1_ f2_ f3_; have f4_ := f1_.symm; have f5_ := f3_.symm; clear f1_ f2_ f3_; subst f4_; subst f5_))
                      have p149 : 0 ≤ (0 : Int) := (by omega)
                      have q149 : 0 < (t143.length : Int) := pxd
                      obtain ⟨ad149, e149, hx149_0, hx149_1, hx149_2⟩ := at_T32 (Kd.R_reads' HO145.out).2.2 0 p149 q149
                      cases e149
                      have qi149 : (0 < t143.length) = True := eq_true (by omega)
                      (try rw [show ((0 : Int)).toNat = 0 from rfl] at hx149_0)
                      (try rw [show 0 * 3 = 0 from rfl] at hx149_0)
                      (try rw [Addr.add_zero'] at hx149_0)
                      (try rw [show ((0 : Int)).toNat = 0 from rfl] at hx149_1)
                      (try rw [show 0 * 3 = 0 from rfl] at hx149_1)
                      (try rw [Addr.add_zero'] at hx149_1)
                      (try rw [show ((0 : Int)).toNat = 0 from rfl] at hx149_2)
                      (try rw [show 0 * 3 = 0 from rfl] at hx149_2)
                      (try rw [Addr.add_zero'] at hx149_2)
                      replace p149 := eq_true p149
                      replace q149 := eq_true q149
                      have p150 : 0 ≤ (0 : Int) := (by omega)
                      have q150 : 0 < (t143.length : Int) := pxd
                      obtain ⟨ad150, e150, hx150_0, hx150_1, hx150_2⟩ := at_T32 (Kd.R_reads' HO145.out).2.2 0 p150 q150
                      obtain rfl : ad149 = ad150 := (by injection e150)
                      have qi150 : (0 < t143.length) = True := eq_true (by omega)
                      (try rw [show ((0 : Int)).toNat = 0 from rfl] at hx150_0)
                      (try rw [show 0 * 3 = 0 from rfl] at hx150_0)
                      (try rw [Addr.add_zero'] at hx150_0)
                      (try rw [show ((0 : Int)).toNat = 0 from rfl] at hx150_1)
                      (try rw [show 0 * 3 = 0 from rfl] at hx150_1)
                      (try rw [Addr.add_zero'] at hx150_1)
                      (try rw [show ((0 : Int)).toNat = 0 from rfl] at hx150_2)
                      (try rw [show 0 * 3 = 0 from rfl] at hx150_2)
                      (try rw [Addr.add_zero'] at hx150_2)
                      replace p150 := eq_true p150
                      replace q150 := eq_true q150
                      refine start_ (n := 41) (S := fun w' => w'.cell? ⟨gb148, 0, none⟩ = some (.int .i64 t146) ∧ w'.cell? ⟨gb148, 1, none⟩ = some (.int .i64 t147) ∧ w'.cell? ⟨gb141, 0, none⟩ = some (.int .i64 ((rd_T32 t134 x28_1).f0)) ∧ w'.cell? ⟨gb141, 1, none⟩ = some (.int .i64 ((rd_T32 t134 x28_1).f1.f0)) ∧ w'.cell? ⟨gb141, 2, none⟩ = some (.int .i64 ((rd_T32 t134 x28_1).f1.f1)) ∧ w'.cell? ad149 = some (.int .i64 ((rd_T32 t143 0).f0)) ∧ w'.cell? ⟨ad149.block, ad149.off + 1, none⟩ = some (.int .i64 ((rd_T32 t143 0).f1.f0)) ∧ w'.cell? ⟨ad149.block, ad149.off + 2, none⟩ = some (.int .i64 ((rd_T32 t143 0).f1.f1)) ∧ w'.cell? ad149 = some (.int .i64 ((rd_T32 t143 0).f0)) ∧ w'.cell? ⟨ad149.block, ad149.off + 1, none⟩ = some (.int .i64 ((rd_T32 t143 0).f1.f0)) ∧ w'.cell? ⟨ad149.block, ad149.off + 2, none⟩ = some (.int .i64 ((rd_T32 t143 0).f1.f1))) (ds := []) #[false, false, false, false, false, false, false, false, false, false, false, false, false, false, false, false, false, false, false, false, false, false, false, false, false, false, false, false, false, false, false, false, false, false, false, false, false, false, false, false, false] (by kernel_rfl) rfl rfl ⟨(blk_cell BK148.out 0).trans rfl, (blk_cell BK148.out 1).trans rfl, (blk_cell BK141.out 0).trans rfl, (blk_cell BK141.out 1).trans rfl, (blk_cell BK141.out 2).trans rfl, hx149_0, hx149_1, hx149_2, hx150_0, hx150_1, hx150_2⟩ (fun hHeld => ?_); refine with_tabW caulkerlaw06_LexWhole.tab16 caulkerlaw06_LexWhole.bits16 (fun HT_ HW_ => ?_)
                      generalize w58.drew = w59 at HO_3 HO_26 HO145 BK139 BK141 BK148 HB hx149_0 hx149_1 hx149_2 hx150_0 hx150_1 hx150_2 hHeld ⊢
                      refine pS 0 94 HT_ ?_
                      refine tS 1 95 HT_ HW_ hHeld ?_
                      refine pS 2 96 HT_ ?_
                      refine pS 3 97 HT_ ?_
                      refine pS 4 98 HT_ ?_
                      refine pS 5 99 HT_ ?_
                      refine pS 6 100 HT_ ?_
                      refine pS 7 101 HT_ ?_
                      refine pS 8 102 HT_ ?_
                      refine pS 9 103 HT_ ?_
                      refine pS 10 104 HT_ ?_
                      refine pS 11 105 HT_ ?_
                      refine pS 13 107 HT_ ?_
                      refine tS 12 106 HT_ HW_ hHeld ?_
                      refine tS 14 108 HT_ HW_ hHeld ?_
                      refine pS 15 109 HT_ ?_
                      refine pS 16 110 HT_ ?_
                      refine pS 17 111 HT_ ?_
                      refine pS 18 112 HT_ ?_
                      refine pS 19 113 HT_ ?_
                      refine pS 20 114 HT_ ?_
                      refine pS 21 115 HT_ ?_
                      refine pS 23 117 HT_ ?_
                      refine pS 24 118 HT_ ?_
                      refine pS 26 120 HT_ ?_
                      refine pS 27 121 HT_ ?_
                      refine tS 22 116 HT_ HW_ hHeld ?_
                      refine tS 25 119 HT_ HW_ hHeld ?_
                      refine tS 28 122 HT_ HW_ hHeld ?_
                      refine pS 29 123 HT_ ?_
                      refine pS 30 124 HT_ ?_
                      refine pS 31 125 HT_ ?_
                      refine pS 32 126 HT_ ?_
                      refine pS 33 127 HT_ ?_
                      refine pS 34 128 HT_ ?_
                      refine pS 36 130 HT_ ?_
                      refine pS 37 131 HT_ ?_
                      refine tS 35 129 HT_ HW_ hHeld ?_
                      refine tS 38 132 HT_ HW_ hHeld ?_
                      refine pS 39 133 HT_ ?_
                      refine pS 40 134 HT_ ?_
                      refine done_ (done_of HT_.out (by kernel_rfl)) ?_
                      have hcz61_0 : w59.cell? ⟨gb141, 0, none⟩ = some (.int .i64 ((rd_T32 t134 x28_1).f0)) := (blk_cell BK141.out 0).trans rfl
                      have hcz61_1 : w59.cell? ⟨gb141, 1, none⟩ = some (.int .i64 ((rd_T32 t134 x28_1).f1.f0)) := (blk_cell BK141.out 1).trans rfl
                      have hcz61_2 : w59.cell? ⟨gb141, 2, none⟩ = some (.int .i64 ((rd_T32 t134 x28_1).f1.f1)) := (blk_cell BK141.out 2).trans rfl
                      have hfz61_0 := blk_frozen BK141.out 0
                      have hfz61_1 := blk_frozen BK141.out 1
                      have hfz61_2 := blk_frozen BK141.out 2
                      try go_wp2
                      go_roundg kj15
                      case measure => have := HK1.out; have := HJ15.out; omega
                      case rel => exact ⟨(((rd_T32 t134 x28_1).f1.f1)), (wrap64 (x28_1 + 1)), (by first | rfl | (simp; done) | (simp [*]; done)), (by first | rfl | (simp; done) | (simp [*]; done)), H', ⟨by have := HK1.out; have := HJ15.out; omega⟩, ⟨by (with_reducible repeat (first | apply Kd.R_alloc | apply Kd.R_drewN | apply Kd.R_drew)); exact Kd.R_mono HO_3.out (fun _ hk => trivial)⟩, ⟨by (with_reducible repeat (first | apply Kd.R_alloc | apply Kd.R_drewN | apply Kd.R_drew)); exact Kd.R_mono HO_26.out (fun _ hk => trivial)⟩, ⟨pxq BK139⟩, ⟨pxb HB⟩⟩
                    ·rw [if_neg c49] at H
                     exact absurd H (by simp)
                   ·rw [if_neg c48] at H
                    exact absurd H (by simp)
                  ·rw [if_neg c47] at H
                   exact absurd H (by simp)
                 ·rw [if_neg c46] at H
                  exact absurd H (by simp)
                ·rw [if_neg c45] at H
                 exact absurd H (by simp)
               ·rw [if_neg c43] at H
                exact absurd H (by simp)
              ·rw [if_neg c42] at H
               exact absurd H (by simp)
             ·rw [if_neg c41] at H
              exact absurd H (by simp)
        ·rw [if_neg c15] at H
         exact absurd H (by simp)
       ·rw [if_neg c14] at H
        exact absurd H (by simp)
      ·rw [if_neg c13] at H
       have c13b0 : decide (x28_1 < (t134.length : Int)) = false := decide_eq_false c13
       clear c13
       obtain rfl := Option.some.inj H
       go_wp2
       go_ret
       exact ⟨by first | rfl | (simp [errW_none, errW_some] <;> rfl) | (simp [*, errW_none, errW_some] <;> rfl), pxb HB⟩
   ·rw [if_neg c7] at H
    have c7b0 : (t137 == 0) = false := beq_eq_false_iff_ne.mpr c7
    have c7b1 : (t137 != 0) = true := bne_iff_ne.mpr c7
    obtain rfl := Option.some.inj H
    go_enter Try.func3, Try.ntmps3
    go_wp2_with (first | ((with_reducible refine gate_callee (f := 8) rfl ?_); refine goesL_ (some 10) rfl rfl Try.func8 (by kernel_rfl) rfl #[] rfl (by (try simp only [List.map_toArray, List.map_cons, List.map_nil]); first | done | rfl | (simp only [List.length_drop, List.length_take]; rfl)) ?_; (with_reducible refine (caulkerlaw06_cuts.calls k  true _ A2.out ?gv).mono ?_); (case gv => first | exact LexW.GV.later HGV.out (pxb HB) | (repeat (first | exact HGV.out | apply LexW.GV.drewN))); rintro e w62 ⟨rfl, hb⟩; refine ⟨_, rfl, ?_⟩; replace HB := pxs HB hb; (try clear hb); (try clear hb2); (try clear hk); (try clear hi)) | ((with_reducible refine gate_callee (f := 9) rfl ?_); refine goesL_ (some 17) rfl rfl Try.func9 (by kernel_rfl) rfl #[.string a0] rfl (by (try simp only [List.map_toArray, List.map_cons, List.map_nil]); first | done | rfl | (simp only [List.length_drop, List.length_take]; rfl)) ?_; (with_reducible refine (lex_Lex.calls a0 t134 t137 t138 _ A6.out ?gv).mono ?_); (case gv => first | exact LexW.GV.later HGV.out (pxb HB) | (repeat (first | exact HGV.out | apply LexW.GV.drewN))); rintro e w63 ⟨v135, rfl, ho0, hb⟩; refine ⟨_, rfl, ?_⟩; have HO136 := Aside0.mk (Kd.R_lower ho0 (below_size (pxb HB))); replace HB := pxs HB hb; (try clear hb); (try clear hb2); (try clear hk); (try clear hi); (try clear ho0)) | ((with_reducible refine gate_dst (N := 4) rfl ?_); refine box_event ?hg (N := 4) ?hd (cs := #[.int .i64 0, .int .i64 0]) (t := 26) ?hr ?_; (case hd => rfl); (case hg => rfl); (case hr => first | (go_simp; done) | (go_simp; rfl)); intro gb139 hg w64 hbox hb; have BK139 := Aside0.mk (hbox); have GW139 := pxw HB hg; have GE139 := pxw HB hg; replace HO136 := Aside0.mk (Kd.R_below (pxr HO136) hb); replace HB := pxs HB hb; clear hb hbox hg; obtain ⟨hcz65_0, hcz65_1, hfz65_0, hfz65_1⟩ := pxf2 BK139; obtain ⟨Ao66, co66, eo66⟩ := Kd.R_slice HO136.out; subst eo66))
    go_ret
    exact ⟨by first | rfl | (simp [errW_none, errW_some] <;> rfl) | (simp [*, errW_none, errW_some] <;> rfl), pxb HB⟩
 ·replace c3 := Bool.eq_false_iff.mpr c3
  subst c3
  have H1 : (none) = some r := by rw [if_neg (show ¬ (false = true) by decide)] at H; exact H
  clear H
  have H := H1
  clear H1
  exact absurd H (by simp)

/-- THE ONE PURE STATEMENT of caulkerlaw06_LexWhole. -/
def caulkerlaw06_LexWhole.Pure : Prop := ∀ (a0 : ByteArray), a0.size ≤ 140737488351232 → ∃ k, caulkerlaw06_LexWhole.f k a0 = some true

end Go.Proofs.Ytlcblkjgkaiadaa.X
