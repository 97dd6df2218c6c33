/- The head of the laws about graphs: what is asked of the program first holds. -/
import Derived.Test.YtefgfnhhoidbdaaGraphW7
import Derived.Test.YtefgfnhhoidbdaaGraphW8
namespace Go.Proofs.Ytefgfnhhoidbdaa.GrW
open Go.RowKit Go.Proofs.YtefgfnhhoidbdaaW.PrintWords Go.Proofs.YtefgfnhhoidbdaaW.PrintLast Go.Proofs.Ytefgfnhhoidbdaa.X Go.Proofs.Ytefgfnhhoidbdaa.Gr
set_option linter.unusedVariables false
set_option linter.unusedSimpArgs false
abbrev x1 : S29 := ⟨-1, 1, 2, 5⟩
abbrev x2 : S29 := ⟨1, 0, 0, 0⟩
abbrev es2 : List S29 := [x1, x2]
theorem val2 : ∀ k, k < es2.length → 0 ≤ Tm es2 k ∧ Tm es2 k < (3 : Nat) := by decide
theorem w2_none : wL 3 es2 (fun _ => false) (-1) = [1, 0, -1] := by
  have h := walkL_eq (n := 3) (F := Fm es2) (shut := fun _ => false) (skip := -1) val2
  rw [show bfs es2.length (Fm es2) (Tm es2) (fun _ => false) (-1) (3 + 1) (none0 3) [-1] = some [1, 0, -1] by decide +kernel] at h
  exact (Option.some.inj h).symm
theorem w2_shut : wL 3 es2 (shF [1]) (-1) = [-1, -1, -1] := by
  have h := walkL_eq (n := 3) (F := Fm es2) (shut := shF [1]) (skip := -1) val2
  rw [show bfs es2.length (Fm es2) (Tm es2) (shF [1]) (-1) (3 + 1) (none0 3) [-1] = some [-1, -1, -1] by decide +kernel] at h
  exact (Option.some.inj h).symm
theorem in2_none : comesL (wL 3 es2 (fun _ => false) (-1)) = [true, true, false] := by rw [w2_none]; rfl
theorem path2 : pathV 3 es2 0 = [x1, x2] := by unfold pathV; rw [if_pos (by decide), w2_none]; rfl
theorem cut2 : es2.filter (cutE (innV 3 es2 [1]) [1]) = [x1] := by unfold innV; rw [w2_shut]; rfl
theorem right2 : rightV 3 es2 [true, true, false] = true := by decide +kernel
theorem bool3 {W : World} {base : Nat} {ok : Nat → Prop} {v : Value} {b0 b1 b2 : Bool} (h : Kd.R Kd.bool 4 W base ok v [b0, b1, b2]) : ∃ g c, v = .slice (some ⟨g, 0, none⟩) 3 c ∧ W.cell? ⟨g, 0, none⟩ = some (.bool b0) ∧ W.cell? ⟨g, 1, none⟩ = some (.bool b1) ∧ W.cell? ⟨g, 2, none⟩ = some (.bool b2) := by
  obtain ⟨g, c, rfl, _⟩ := Kd.R_form h (by simp)
  exact ⟨g, c, rfl, (Kd.R_celln false h 0 (by simp) (by simp)).1, (Kd.R_celln false h 1 (by simp) (by simp)).1, (Kd.R_celln false h 2 (by simp) (by simp)).1⟩
theorem edge2 {W : World} {base : Nat} {ok : Nat → Prop} {v : Value} (h : Kd.R k29 29 W base ok v [x1, x2]) : ∃ g c, v = .slice (some ⟨g, 0, none⟩) 2 c ∧ W.cell? ⟨g, 3, none⟩ = some (.int .i64 5) := by
  obtain ⟨g, c, rfl, _⟩ := Kd.R_form h (by decide)
  obtain ⟨ce, _, hM, hc, _⟩ := Kd.R_elem h z29 0 (by decide) (by decide)
  obtain rfl := k29_openM hM
  exact ⟨g, c, rfl, hc 3 _ rfl⟩
theorem G.moved {g B n : Nat} {es : List S29} {O : Nat → Prop} {W W' : World} (h : Aside0 (G g B n es O W)) (hb : Below W.heap.size W W') : Aside0 (G g B n es O W') := ⟨h.out.below hb⟩
theorem litC (W : World) (x : Int) : Kd.C (Kd.int .i64) (W.alloc (.cells #[.int .i64 x] 3)) (some ⟨W.heap.size, 0, none⟩) 1 [x] := by
  have h2 := World.ownsRow_lit (base := W.heap.size) (e := 3) (size := 1) W #[.int .i64 x] 1 (Nat.le_refl _) (by simp [maxLen]) (by simp)
  have h3 : Kd.R (Kd.int .i64) 3 (W.alloc (.cells #[.int .i64 x] 3)) W.heap.size (fun _ => True) (.slice (some ⟨W.heap.size, 0, none⟩) 1 1) [x] := ⟨fun _ _ => trivial, _, h2, reps1 x⟩
  exact (Kd.R_reads' h3).2.2
theorem new3 (w : World) : Calls Try.prog 11 #[.int .i64 3] w fun e w' => ∃ g O, e = .returned (.tuple #[.pointer (some ⟨g, 0, none⟩), .int .i64 0]) ∧ G g w.heap.size 3 [] O w' ∧ Below w.heap.size w w' := new_any 3 w (by decide)
theorem add1 {g B : Nat} {O : Nat → Prop} (w : World) (h : G g B 3 [] O w) (hB : B ≤ w.heap.size) : Calls Try.prog 12 #[.pointer (some ⟨g, 0, none⟩), .agg #[.int .i64 (-1), .int .i64 1, .int .i64 2, .int .i64 5]] w fun e w' => e = .returned (.int .i64 0) ∧ ∃ O', G g B 3 [x1] O' w' ∧ Grew B O w w' ∧ ∀ k, O' k → O k ∨ w.heap.size ≤ k := add_ok x1 w h (by decide) (by decide) (by decide) (by decide) (by simp) (by decide) hB
theorem add2 {g B : Nat} {O : Nat → Prop} (w : World) (h : G g B 3 [x1] O w) (hB : B ≤ w.heap.size) : Calls Try.prog 12 #[.pointer (some ⟨g, 0, none⟩), .agg #[.int .i64 1, .int .i64 0, .int .i64 0, .int .i64 0]] w fun e w' => e = .returned (.int .i64 0) ∧ ∃ O', G g B 3 es2 O' w' ∧ Grew B O w w' ∧ ∀ k, O' k → O k ∨ w.heap.size ≤ k := add_ok x2 w h (by decide) (by decide) (by decide) (by decide) (by simp) (by decide) hB
theorem solve2 {g B : Nat} {O : Nat → Prop} (w : World) (h : G g B 3 es2 O w) : Calls Try.prog 16 #[.pointer (some ⟨g, 0, none⟩)] w fun e w' => ∃ bv, e = .returned bv ∧ Kd.R Kd.bool 4 w' w.heap.size (fun _ => True) bv [true, true, false] ∧ Below w.heap.size w w' := by
  have h := solve_any w h
  rw [in2_none] at h
  exact h
theorem path3 {g B : Nat} {O : Nat → Prop} (w : World) (h : G g B 3 es2 O w) : Calls Try.prog 23 #[.pointer (some ⟨g, 0, none⟩), .int .i64 0] w fun e w' => ∃ bv, e = .returned bv ∧ Kd.R k29 29 w' w.heap.size (fun _ => True) bv [x1, x2] ∧ Below w.heap.size w w' := by
  have h := path_walk 0 w h (by decide) (by decide)
  rw [path2] at h
  exact h
theorem shut2 {g B : Nat} {O : Nat → Prop} (gn : Nat) (w : World) (h : G g B 3 es2 O w) (hC : Kd.C (Kd.int .i64) w (some ⟨gn, 0, none⟩) 1 [1]) : Calls Try.prog 19 #[.pointer (some ⟨g, 0, none⟩), .slice (some ⟨gn, 0, none⟩) 1 1] w fun e w' => ∃ cv dv, e = .returned (.tuple #[cv, dv]) ∧ Kd.R k29 29 w' w.heap.size (fun _ => True) dv [x1] ∧ Below w.heap.size w w' := by
  have h := shut_any (some ⟨gn, 0, none⟩) 1 [1] w h hC (by decide) (by decide)
  rw [cut2] at h
  refine h.mono ?_
  rintro e w' ⟨cv, dv, rfl, _, h2, h3⟩
  exact ⟨cv, dv, rfl, h2, h3⟩
theorem len3 {g B : Nat} {O : Nat → Prop} (w : World) (h : G g B 3 es2 O w) : Calls Try.prog 14 #[.pointer (some ⟨g, 0, none⟩)] w fun e w' => e = .returned (.int .i64 3) ∧ w = w' := len_any w h
theorem right3 {g B : Nat} {O : Nat → Prop} (A0 : Option Addr) (c0 : Nat) (w : World) (h : G g B 3 es2 O w) (hC : Kd.C Kd.bool w A0 3 [true, true, false]) : Calls Try.prog 18 #[.pointer (some ⟨g, 0, none⟩), .slice A0 3 c0] w fun e w' => e = .returned (.bool true) ∧ Below w.heap.size w w' := by
  have h := right_walk A0 c0 [true, true, false] w h hC rfl
  rw [right2] at h
  exact h
set_option maxHeartbeats 16000000 in
set_option maxRecDepth 100000 in
theorem comes_any (w : World) : Calls Try.prog 10 #[] w fun e w' => e = .returned (.bool true) ∧ Below w.heap.size w w' := by
  have HB := Aside0.mk (Below.refl w.heap.size w)
  have tok_1 : True := trivial
  have tok_2 : True := trivial
  have tok_3 : True := trivial
  have tok_4 : True := trivial
  have tok_5 : True := trivial
  have tok_6 : True := trivial
  have tok_7 : True := trivial
  have tok_8 : True := trivial
  have tok_9 : True := trivial
  go_enter Try.func10, Try.ntmps10
  go_wp2_with (first | (clear tok_1; go_at_call 11; (with_reducible refine (new3 _).mono ?_); rintro e w1 ⟨g, O, rfl, hg, hb⟩; have h1 := pxs HB hb; have HG := Aside0.mk hg; clear HB hb hg; have HB := h1; clear h1) | (clear tok_2; go_at_call 12; (with_reducible refine (add1 _ HG.out (pxb HB).size).mono ?_); rintro e w2 ⟨rfl, O1, hg, hgr, _⟩; have h1 := Aside0.mk (Below.trans (pxb HB) hgr.below); have h2 := Aside0.mk hg; clear HB HG hg hgr; have HB := h1; have HG := h2; clear h1 h2) | (clear tok_3; go_at_call 12; (with_reducible refine (add2 _ HG.out (pxb HB).size).mono ?_); rintro e w3 ⟨rfl, O2, hg, hgr, _⟩; have h1 := Aside0.mk (Below.trans (pxb HB) hgr.below); have h2 := Aside0.mk hg; clear HB HG hg hgr; have HB := h1; have HG := h2; clear h1 h2) | (clear tok_4; go_at_call 16; (with_reducible refine (solve2 _ HG.out).mono ?_); rintro e w4 ⟨cv, rfl, hr, hb⟩; have h1 := pxs HB hb; have h2 := G.moved HG hb; have HS := Aside0.mk hr; clear HB HG hb hr; have HB := h1; have HG := h2; clear h1 h2) | (clear tok_5; go_at_call 23; (with_reducible refine (path3 _ HG.out).mono ?_); rintro e w5 ⟨pv, rfl, hr, hb⟩; have h1 := pxs HB hb; have h2 := G.moved HG hb; have HP := Aside0.mk hr; have h3 := Aside0.mk (Kd.R_below HS.out hb); clear HB HG HS hb hr; have HB := h1; have HG := h2; have HS := h3; clear h1 h2 h3) | (clear tok_6; go_at_call 19; (with_reducible refine (shut2 _ _ (HG.out.below (below_alloc (Below.refl _ _) _)) (litC _ 1)).mono ?_); rintro e w6 ⟨iv, dv, rfl, hr, hb⟩; have hb5 := below_step (below_alloc (Below.refl _ _) _) hb; have h1 := pxs HB hb; have h2 := G.moved HG hb5; have h3 := Kd.R_below HS.out hb5; have h4 := Kd.R_below HP.out hb5; obtain ⟨gc, cc, hcv, b0, b1, b2⟩ := bool3 h3; subst hcv; obtain ⟨gp, cp, hpv, p3⟩ := edge2 h4; subst hpv; obtain ⟨Ad, cd, hdv⟩ := Kd.R_slice hr; have hdv : dv = .slice Ad 1 cd := hdv; subst hdv; have h5 := Aside0.mk h3; clear HB HG HS HP hb hb5 hr h3 h4; have HB := h1; have HG := h2; have HS := h5; clear h1 h2 h5) | (clear tok_7; go_at_call 14; (with_reducible refine (len3 _ HG.out).mono ?_); rintro e w7 ⟨rfl, rfl⟩; skip) | (clear tok_8; go_at_call 13; (with_reducible refine (edges_any _ HG.out).mono ?_); rintro e w8 ⟨ev, rfl, hr, hb⟩; obtain ⟨Ae, ce, hev⟩ := Kd.R_slice hr; have hev : ev = .slice Ae 2 ce := hev; subst hev; have h1 := pxs HB hb; have h2 := G.moved HG hb; have h3 := Aside0.mk (Kd.R_below HS.out hb); clear HB HG HS hb hr b0 b1 b2 p3; have HB := h1; have HG := h2; have HS := h3; clear h1 h2 h3) | (clear tok_9; go_at_call 18; (with_reducible refine (right3 _ _ _ HG.out (Kd.R_reads' HS.out).2.2).mono ?_); rintro e w9 ⟨rfl, hb⟩; have h1 := pxs HB hb; clear HB HG HS hb; have HB := h1; clear h1))
  go_ret
  exact ⟨rfl, pxb HB⟩
end Go.Proofs.Ytefgfnhhoidbdaa.GrW
