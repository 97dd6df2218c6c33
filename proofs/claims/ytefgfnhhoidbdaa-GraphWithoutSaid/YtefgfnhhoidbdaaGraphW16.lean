/- GraphLeast: its main way. -/
import Derived.Test.YtefgfnhhoidbdaaGraphW15
import Derived.Test.YtefgfnhhoidbdaaXE41
namespace Go.Proofs.Ytefgfnhhoidbdaa.GrW
open Go.RowKit Go.Proofs.YtefgfnhhoidbdaaW.PrintWords Go.Proofs.YtefgfnhhoidbdaaW.PrintLast Go.Proofs.Ytefgfnhhoidbdaa.X Go.Proofs.Ytefgfnhhoidbdaa.Gr
set_option linter.unusedVariables false
set_option linter.unusedSimpArgs false
theorem rightnil_any {g B n : Nat} {es : List S29} {O : Nat → Prop} (z : Bool) (w : World) (h : G g B n es O w) (hz : decide (n = 0) = z) : Calls Try.prog 18 #[.pointer (some ⟨g, 0, none⟩), .slice none 0 0] w fun e w' => e = .returned (.bool z) ∧ Below w.heap.size w w' := by
  have h1 := right_any none 0 [] w h (Kd.R_reads' (Kd.R_nil Kd.bool 4 w 0 (fun _ => True))).2.2
  rw [right_nil (G.val h)] at h1
  have : (decide (n = 0) && decide (es.length = 0)) = z := by
    rw [hz]
    cases z
    · rfl
    · rw [decide_eq_true_eq] at hz
      subst hz
      have : es.length = 0 := by
        cases es with
        | nil => rfl
        | cons e es => have := G.val h 0 (by simp); omega
      rw [this]
      rfl
  rw [this] at h1
  exact h1
theorem right_set {g B n : Nat} {es : List S29} {O : Nat → Prop} (A0 : Option Addr) (c0 : Nat) (set : List Bool) (N : Nat) (w : World) (h : G g B n es O w) (hC : Kd.C Kd.bool w A0 set.length set) (hN : set.length = N) : Calls Try.prog 18 #[.pointer (some ⟨g, 0, none⟩), .slice A0 N c0] w fun e w' => e = .returned (.bool (rightV n es set)) ∧ Below w.heap.size w w' := by
  subst hN
  exact right_any A0 c0 set w h hC
theorem rd41 {es : List S29} {i : Nat} : rd_T41 (es.map to41) (i : Int) = to41 (es.getD i z29) := by
  unfold rd_T41
  rw [Int.toNat_natCast, List.getD_eq_getElem?_getD, List.getElem?_map, List.getD_eq_getElem?_getD]
  cases es[i]? <;> rfl
theorem rightV_len {n : Nat} {es : List S29} {set : List Bool} (h : set.length ≠ n) : rightV n es set = false := by
  unfold rightV
  rw [decide_eq_false h, Bool.false_and]
theorem es_zero {g B n : Nat} {es : List S29} {O : Nat → Prop} {w : World} (h : G g B n es O w) (hn : n = 0) : es.length = 0 := by
  subst hn
  cases es with
  | nil => rfl
  | cons e es => have := G.val h 0 (by simp); omega
set_option maxHeartbeats 16000000 in
set_option maxRecDepth 100000 in
theorem least_pos_len (N : Nat) (A1 : Option Addr) (c1 : Nat) (l : List S29) (A2 : Option Addr) (c2 : Nat) (set : List Bool) (w : World) (h1 : l.length ≤ 150) (h2 : N ≤ 60) (hC : Kd.C k29 w A1 l.length l) (hS : Kd.C Kd.bool w A2 set.length set) (hz : ¬ N = 0) (hl : set.length ≠ N) : Calls Try.prog 4 #[.int .i64 (N : Int), .slice A1 l.length c1, .slice A2 set.length c2] w fun e w' => e = .returned (.bool true) ∧ Below w.heap.size w w' := by
  have HB := Aside0.mk (Below.refl w.heap.size w)
  have HH := Lib.hid (And.intro h1 h2)
  have HC := Aside0.mk hC
  have HSET := Aside0.mk hS
  have HZ : Aside0 (decide (N = 0) = false) := ⟨decide_eq_false hz⟩
  clear h1 h2 hC hS
  have kz : ((N : Int) == 0) = false := beq_eq_false_iff_ne.2 (by omega)
  have kl : ((set.length : Int) != (N : Int)) = true := bne_iff_ne.2 (by omega)
  have HL := Lib.hid hl
  clear hl hz
  have tok_1 : True := trivial
  have tok_2 : True := trivial
  have tok_3 : True := trivial
  have tok_4 : True := trivial
  have tok_5 : True := trivial
  have tok_6 : True := trivial
  have tok_7 : True := trivial
  have tok_8 : True := trivial
  go_enter Try.func4, Try.ntmps4
  go_wp2_with (first | (clear tok_1; go_at_call 10; (with_reducible refine (comes_any _).mono ?_); rintro e w1 ⟨rfl, hb⟩; have h1 := pxs HB hb; clear HB hb; have HB := h1; clear h1) | (clear tok_2; go_at_call 15; (with_reducible refine (build_main N A1 c1 l _ HH.out.1 HH.out.2 (Kd.C_below HC.out (pxb HB))).mono ?_); rintro e w2 ⟨g, es, O, ov, rfl, hg, hr, hlen, hb⟩; obtain ⟨Av, cv, hov⟩ := Kd.R_slice hr; rw [List.length_map] at hov; subst hov; have h1 := pxs HB hb; have HG := Aside0.mk hg; have HE := Aside0.mk (Kd.R_reads' hr).2.2; have HEC := Aside0.mk (Kd.R_reads' hr).2.1; have HLEN := Lib.hid hlen; clear HB hb hg hr hlen; have HB := h1; clear h1) | (clear tok_3; go_at_call 16; (with_reducible refine (solve_any _ HG.out).mono ?_); rintro e w3 ⟨gv, rfl, hr, hb⟩; have hlw : (comesL (wL N es (fun _ => false) (-1))).length = N := (by obtain ⟨_, _, _, _, hga⟩ := HG.out; unfold comesL; rw [List.length_map]; exact wL_len hga.1 _ _); have hrc : rightV N es (comesL (wL N es (fun _ => false) (-1))) = true := (by obtain ⟨dp, hf⟩ := walkL_fin (n := N) (F := Fm es) (shut := fun _ => false) (skip := -1) (fun k hk => (G.val HG.out k hk).2.2); exact right_comes hf (G.val HG.out)); have hls : ∀ set, rightV N es set = true → ∀ i, i < N → bG (comesL (wL N es (fun _ => false) (-1))) (i : Int) = true → bG set (i : Int) = true := (by obtain ⟨dp, hf⟩ := walkL_fin (n := N) (F := Fm es) (shut := fun _ => false) (skip := -1) (fun k hk => (G.val HG.out k hk).2.2); intro set hr i hi hb; exact least hf hr _ i hi rfl (by have := bG_comes (n := N) (R := wL N es (fun _ => false) (-1)) hf.len (v := (i : Int)) (by omega) (by omega); rw [this, decide_eq_true_eq, Int.toNat_natCast] at hb; exact hb)); have hzz : N = 0 → es.length = 0 := es_zero HG.out; have HZZ := Lib.hid hzz; have HLS := Lib.hid hls; have HLW := Lib.hid hlw; have HRC := Lib.hid hrc; have HVAL := Lib.hid (G.val HG.out); obtain ⟨Ag, cg, hgv⟩ := Kd.R_slice hr; rw [hlw] at hgv; subst hgv; have nHB_ := pxs HB hb; have nHG_ := G.moved HG hb; have nHE_ := Aside0.mk (Kd.C_below HE.out hb); clear HB hb HG HE; have HB := nHB_; clear nHB_; have HG := nHG_; clear nHG_; have HE := nHE_; clear nHE_; have HGOT := Aside0.mk hr; clear hr hlw hrc hls hzz; have HGL : Aside0 (comesL (wL N es (fun _ => false) (-1)) = comesL (wL N es (fun _ => false) (-1))) := ⟨rfl⟩) | (clear tok_4; go_at_call 17; (with_reducible refine (refsolve_any Av cv _ HH.out.2 HLEN.out HVAL.out (by have := HE.out; rwa [List.length_map] at this) HEC.out).mono ?_); rintro e w4 ⟨fv, rfl, hr, hb⟩; obtain ⟨Af, cf, hfv⟩ := Kd.R_slice hr; rw [HLW.out] at hfv; subst hfv; have nHB_ := pxs HB hb; have nHG_ := G.moved HG hb; have nHE_ := Aside0.mk (Kd.C_below HE.out hb); have nHGOT_ := Aside0.mk (Kd.R_below HGOT.out hb); clear HB hb HG HE HGOT; have HB := nHB_; clear nHB_; have HG := nHG_; clear nHG_; have HE := nHE_; clear nHE_; have HGOT := nHGOT_; clear nHGOT_; have HWANT := Aside0.mk hr; clear hr) | (clear tok_5; go_at_call 18; (with_reducible refine (right_set Ag cg _ _ _ HG.out (Kd.R_reads' HGOT.out).2.2 HLW.out).mono ?_); rintro e w5 ⟨rfl, hb⟩; rw [HRC.out]; have nHB_ := pxs HB hb; have nHG_ := G.moved HG hb; have nHE_ := Aside0.mk (Kd.C_below HE.out hb); have nHGOT_ := Aside0.mk (Kd.R_below HGOT.out hb); have nHWANT_ := Aside0.mk (Kd.R_below HWANT.out hb); clear HB hb HG HE HGOT HWANT; have HB := nHB_; clear nHB_; have HG := nHG_; clear nHG_; have HE := nHE_; clear nHE_; have HGOT := nHGOT_; clear nHGOT_; have HWANT := nHWANT_; clear nHWANT_) | (clear tok_6; go_at_call 18; (with_reducible refine (rightnil_any false _ HG.out HZ.out).mono ?_); rintro e w6 ⟨rfl, hb⟩; have nHB_ := pxs HB hb; have nHG_ := G.moved HG hb; have nHE_ := Aside0.mk (Kd.C_below HE.out hb); have nHGOT_ := Aside0.mk (Kd.R_below HGOT.out hb); have nHWANT_ := Aside0.mk (Kd.R_below HWANT.out hb); clear HB hb HG HE HGOT HWANT; have HB := nHB_; clear nHB_; have HG := nHG_; clear nHG_; have HE := nHE_; clear nHE_; have HGOT := nHGOT_; clear nHGOT_; have HWANT := nHWANT_; clear nHWANT_))
  go_loopg [57] N (fun kq v57 w' => ∃ i : Nat, v57 = .int .i64 i ∧ Hid (i ≤ N ∧ kq = N - i) ∧ Aside0 (Below w6.heap.size w6 w'))
  case atStart => exact ⟨0, rfl, ⟨Nat.zero_le _, rfl⟩, ⟨Below.refl _ _⟩⟩
  case round =>
    obtain ⟨i, rfl, HI, HBI⟩ := hrel
    by_cases hi : i < N
    · have hlw := HLW.out
      obtain ⟨adG, haG, xG⟩ := Kd.at_bool (Kd.R_reads' HGOT.out).2.2 (i : Int) (by omega) (by omega)
      cases haG
      replace xG := (HBI.out.cell (World.block_lt_of_cell? _ _ xG)).trans xG
      obtain ⟨adW, haW, xW⟩ := Kd.at_bool (Kd.R_reads' HWANT.out).2.2 (i : Int) (by omega) (by omega)
      cases haW
      replace xW := (HBI.out.cell (World.block_lt_of_cell? _ _ xW)).trans xW
      rw [Int.toNat_natCast] at xG xW
      generalize rdOf false _ (i : Int) = bv at xG xW
      have p3 : (0 ≤ (i : Int)) = True := eq_true (by omega)
      have p4 : ((i : Int) < (N : Int)) = True := eq_true (by omega)
      have p4' : (i < N) = True := eq_true (by omega)
      have k4 : decide (i < N) = true := decide_eq_true (by omega)
      have k5 : decide ((i : Int) < (N : Int)) = true := decide_eq_true (by omega)
      have HLT := Lib.hid hi
      clear hi hlw
      cases bv <;> (go_wp2; go_quiet (fail); go_wp2; go_roundg (N - (i + 1)); (case measure => have := HI.out; have := HLT.out; omega); (case rel => exact ⟨i + 1, by have := HLT.out; have := HH.out.2; rw [wrap_id (by omega) (by omega)]; rfl, ⟨by have := HLT.out; omega, rfl⟩, ⟨pxb HBI⟩⟩))
    · obtain rfl : N = i := by have := HI.out; omega
      have k4 : decide (N < N) = false := decide_eq_false (by omega)
      have k5 : decide ((N : Int) < (N : Int)) = false := decide_eq_false (by omega)
      have hb := HBI.out
      have nHB_ := pxs HB hb; have nHG_ := G.moved HG hb; have nHE_ := Aside0.mk (Kd.C_below HE.out hb); have nHGOT_ := Aside0.mk (Kd.R_below HGOT.out hb); have nHWANT_ := Aside0.mk (Kd.R_below HWANT.out hb); clear HB hb HG HE HGOT HWANT; have HB := nHB_; clear nHB_; have HG := nHG_; clear nHG_; have HE := nHE_; clear nHE_; have HGOT := nHGOT_; clear nHGOT_; have HWANT := nHWANT_; clear nHWANT_
      clear hi HI HBI
      have tok_5 : True := trivial
      go_wp2_with (first | (clear tok_5; go_at_call 18; (with_reducible refine (right_any A2 c2 set _ HG.out (Kd.C_below HSET.out (pxb HB))).mono ?_); rintro e w7 ⟨rfl, hb⟩; rw [rightV_len HL.out]; have nHB_ := pxs HB hb; have nHG_ := G.moved HG hb; have nHE_ := Aside0.mk (Kd.C_below HE.out hb); have nHGOT_ := Aside0.mk (Kd.R_below HGOT.out hb); have nHWANT_ := Aside0.mk (Kd.R_below HWANT.out hb); clear HB hb HG HE HGOT HWANT; have HB := nHB_; clear nHB_; have HG := nHG_; clear nHG_; have HE := nHE_; clear nHE_; have HGOT := nHGOT_; clear nHGOT_; have HWANT := nHWANT_; clear nHWANT_))
      go_ret
      exact ⟨rfl, pxb HB⟩
set_option maxHeartbeats 16000000 in
set_option maxRecDepth 100000 in
theorem least_zero_len (N : Nat) (A1 : Option Addr) (c1 : Nat) (l : List S29) (A2 : Option Addr) (c2 : Nat) (set : List Bool) (w : World) (h1 : l.length ≤ 150) (h2 : N ≤ 60) (hC : Kd.C k29 w A1 l.length l) (hS : Kd.C Kd.bool w A2 set.length set) (hz : N = 0) (hl : set.length ≠ N) : Calls Try.prog 4 #[.int .i64 (N : Int), .slice A1 l.length c1, .slice A2 set.length c2] w fun e w' => e = .returned (.bool true) ∧ Below w.heap.size w w' := by
  have HB := Aside0.mk (Below.refl w.heap.size w)
  have HH := Lib.hid (And.intro h1 h2)
  have HC := Aside0.mk hC
  have HSET := Aside0.mk hS
  have HZ : Aside0 (decide (N = 0) = true) := ⟨decide_eq_true hz⟩
  clear h1 h2 hC hS
  have kz : ((N : Int) == 0) = true := beq_iff_eq.2 (by omega)
  have kl : ((set.length : Int) != (N : Int)) = true := bne_iff_ne.2 (by omega)
  have HL := Lib.hid hl
  clear hl hz
  have tok_1 : True := trivial
  have tok_2 : True := trivial
  have tok_3 : True := trivial
  have tok_4 : True := trivial
  have tok_5 : True := trivial
  have tok_6 : True := trivial
  have tok_7 : True := trivial
  have tok_8 : True := trivial
  go_enter Try.func4, Try.ntmps4
  go_wp2_with (first | (clear tok_1; go_at_call 10; (with_reducible refine (comes_any _).mono ?_); rintro e w1 ⟨rfl, hb⟩; have h1 := pxs HB hb; clear HB hb; have HB := h1; clear h1) | (clear tok_2; go_at_call 15; (with_reducible refine (build_main N A1 c1 l _ HH.out.1 HH.out.2 (Kd.C_below HC.out (pxb HB))).mono ?_); rintro e w2 ⟨g, es, O, ov, rfl, hg, hr, hlen, hb⟩; obtain ⟨Av, cv, hov⟩ := Kd.R_slice hr; rw [List.length_map] at hov; subst hov; have h1 := pxs HB hb; have HG := Aside0.mk hg; have HE := Aside0.mk (Kd.R_reads' hr).2.2; have HEC := Aside0.mk (Kd.R_reads' hr).2.1; have HLEN := Lib.hid hlen; clear HB hb hg hr hlen; have HB := h1; clear h1) | (clear tok_3; go_at_call 16; (with_reducible refine (solve_any _ HG.out).mono ?_); rintro e w3 ⟨gv, rfl, hr, hb⟩; have hlw : (comesL (wL N es (fun _ => false) (-1))).length = N := (by obtain ⟨_, _, _, _, hga⟩ := HG.out; unfold comesL; rw [List.length_map]; exact wL_len hga.1 _ _); have hrc : rightV N es (comesL (wL N es (fun _ => false) (-1))) = true := (by obtain ⟨dp, hf⟩ := walkL_fin (n := N) (F := Fm es) (shut := fun _ => false) (skip := -1) (fun k hk => (G.val HG.out k hk).2.2); exact right_comes hf (G.val HG.out)); have hls : ∀ set, rightV N es set = true → ∀ i, i < N → bG (comesL (wL N es (fun _ => false) (-1))) (i : Int) = true → bG set (i : Int) = true := (by obtain ⟨dp, hf⟩ := walkL_fin (n := N) (F := Fm es) (shut := fun _ => false) (skip := -1) (fun k hk => (G.val HG.out k hk).2.2); intro set hr i hi hb; exact least hf hr _ i hi rfl (by have := bG_comes (n := N) (R := wL N es (fun _ => false) (-1)) hf.len (v := (i : Int)) (by omega) (by omega); rw [this, decide_eq_true_eq, Int.toNat_natCast] at hb; exact hb)); have hzz : N = 0 → es.length = 0 := es_zero HG.out; have HZZ := Lib.hid hzz; have HLS := Lib.hid hls; have HLW := Lib.hid hlw; have HRC := Lib.hid hrc; have HVAL := Lib.hid (G.val HG.out); obtain ⟨Ag, cg, hgv⟩ := Kd.R_slice hr; rw [hlw] at hgv; subst hgv; have nHB_ := pxs HB hb; have nHG_ := G.moved HG hb; have nHE_ := Aside0.mk (Kd.C_below HE.out hb); clear HB hb HG HE; have HB := nHB_; clear nHB_; have HG := nHG_; clear nHG_; have HE := nHE_; clear nHE_; have HGOT := Aside0.mk hr; clear hr hlw hrc hls hzz; have HGL : Aside0 (comesL (wL N es (fun _ => false) (-1)) = comesL (wL N es (fun _ => false) (-1))) := ⟨rfl⟩) | (clear tok_4; go_at_call 17; (with_reducible refine (refsolve_any Av cv _ HH.out.2 HLEN.out HVAL.out (by have := HE.out; rwa [List.length_map] at this) HEC.out).mono ?_); rintro e w4 ⟨fv, rfl, hr, hb⟩; obtain ⟨Af, cf, hfv⟩ := Kd.R_slice hr; rw [HLW.out] at hfv; subst hfv; have nHB_ := pxs HB hb; have nHG_ := G.moved HG hb; have nHE_ := Aside0.mk (Kd.C_below HE.out hb); have nHGOT_ := Aside0.mk (Kd.R_below HGOT.out hb); clear HB hb HG HE HGOT; have HB := nHB_; clear nHB_; have HG := nHG_; clear nHG_; have HE := nHE_; clear nHE_; have HGOT := nHGOT_; clear nHGOT_; have HWANT := Aside0.mk hr; clear hr) | (clear tok_5; go_at_call 18; (with_reducible refine (right_set Ag cg _ _ _ HG.out (Kd.R_reads' HGOT.out).2.2 HLW.out).mono ?_); rintro e w5 ⟨rfl, hb⟩; rw [HRC.out]; have nHB_ := pxs HB hb; have nHG_ := G.moved HG hb; have nHE_ := Aside0.mk (Kd.C_below HE.out hb); have nHGOT_ := Aside0.mk (Kd.R_below HGOT.out hb); have nHWANT_ := Aside0.mk (Kd.R_below HWANT.out hb); clear HB hb HG HE HGOT HWANT; have HB := nHB_; clear nHB_; have HG := nHG_; clear nHG_; have HE := nHE_; clear nHE_; have HGOT := nHGOT_; clear nHGOT_; have HWANT := nHWANT_; clear nHWANT_) | (clear tok_6; go_at_call 18; (with_reducible refine (rightnil_any true _ HG.out HZ.out).mono ?_); rintro e w6 ⟨rfl, hb⟩; have nHB_ := pxs HB hb; have nHG_ := G.moved HG hb; have nHE_ := Aside0.mk (Kd.C_below HE.out hb); have nHGOT_ := Aside0.mk (Kd.R_below HGOT.out hb); have nHWANT_ := Aside0.mk (Kd.R_below HWANT.out hb); clear HB hb HG HE HGOT HWANT; have HB := nHB_; clear nHB_; have HG := nHG_; clear nHG_; have HE := nHE_; clear nHE_; have HGOT := nHGOT_; clear nHGOT_; have HWANT := nHWANT_; clear nHWANT_; have hes0 : es.length = 0 := HZZ.out (of_decide_eq_true HZ.out); have ke : ((es.length : Int) == 0) = true := beq_iff_eq.2 (by omega); have ke2 : (es.length == 0) = true := beq_iff_eq.2 hes0; clear hes0))
  go_loopg [57] N (fun kq v57 w' => ∃ i : Nat, v57 = .int .i64 i ∧ Hid (i ≤ N ∧ kq = N - i) ∧ Aside0 (Below w6.heap.size w6 w'))
  case atStart => exact ⟨0, rfl, ⟨Nat.zero_le _, rfl⟩, ⟨Below.refl _ _⟩⟩
  case round =>
    obtain ⟨i, rfl, HI, HBI⟩ := hrel
    by_cases hi : i < N
    · have hlw := HLW.out
      obtain ⟨adG, haG, xG⟩ := Kd.at_bool (Kd.R_reads' HGOT.out).2.2 (i : Int) (by omega) (by omega)
      cases haG
      replace xG := (HBI.out.cell (World.block_lt_of_cell? _ _ xG)).trans xG
      obtain ⟨adW, haW, xW⟩ := Kd.at_bool (Kd.R_reads' HWANT.out).2.2 (i : Int) (by omega) (by omega)
      cases haW
      replace xW := (HBI.out.cell (World.block_lt_of_cell? _ _ xW)).trans xW
      rw [Int.toNat_natCast] at xG xW
      generalize rdOf false _ (i : Int) = bv at xG xW
      have p3 : (0 ≤ (i : Int)) = True := eq_true (by omega)
      have p4 : ((i : Int) < (N : Int)) = True := eq_true (by omega)
      have p4' : (i < N) = True := eq_true (by omega)
      have k4 : decide (i < N) = true := decide_eq_true (by omega)
      have k5 : decide ((i : Int) < (N : Int)) = true := decide_eq_true (by omega)
      have HLT := Lib.hid hi
      clear hi hlw
      cases bv <;> (go_wp2; go_quiet (fail); go_wp2; go_roundg (N - (i + 1)); (case measure => have := HI.out; have := HLT.out; omega); (case rel => exact ⟨i + 1, by have := HLT.out; have := HH.out.2; rw [wrap_id (by omega) (by omega)]; rfl, ⟨by have := HLT.out; omega, rfl⟩, ⟨pxb HBI⟩⟩))
    · obtain rfl : N = i := by have := HI.out; omega
      have k4 : decide (N < N) = false := decide_eq_false (by omega)
      have k5 : decide ((N : Int) < (N : Int)) = false := decide_eq_false (by omega)
      have hb := HBI.out
      have nHB_ := pxs HB hb; have nHG_ := G.moved HG hb; have nHE_ := Aside0.mk (Kd.C_below HE.out hb); have nHGOT_ := Aside0.mk (Kd.R_below HGOT.out hb); have nHWANT_ := Aside0.mk (Kd.R_below HWANT.out hb); clear HB hb HG HE HGOT HWANT; have HB := nHB_; clear nHB_; have HG := nHG_; clear nHG_; have HE := nHE_; clear nHE_; have HGOT := nHGOT_; clear nHGOT_; have HWANT := nHWANT_; clear nHWANT_
      clear hi HI HBI
      have tok_5 : True := trivial
      go_wp2_with (first | (clear tok_5; go_at_call 18; (with_reducible refine (right_any A2 c2 set _ HG.out (Kd.C_below HSET.out (pxb HB))).mono ?_); rintro e w7 ⟨rfl, hb⟩; rw [rightV_len HL.out]; have nHB_ := pxs HB hb; have nHG_ := G.moved HG hb; have nHE_ := Aside0.mk (Kd.C_below HE.out hb); have nHGOT_ := Aside0.mk (Kd.R_below HGOT.out hb); have nHWANT_ := Aside0.mk (Kd.R_below HWANT.out hb); clear HB hb HG HE HGOT HWANT; have HB := nHB_; clear nHB_; have HG := nHG_; clear nHG_; have HE := nHE_; clear nHE_; have HGOT := nHGOT_; clear nHGOT_; have HWANT := nHWANT_; clear nHWANT_))
      go_ret
      exact ⟨rfl, pxb HB⟩
set_option maxHeartbeats 16000000 in
set_option maxRecDepth 100000 in
theorem least_pos_same (N : Nat) (A1 : Option Addr) (c1 : Nat) (l : List S29) (A2 : Option Addr) (c2 : Nat) (set : List Bool) (w : World) (h1 : l.length ≤ 150) (h2 : N ≤ 60) (hC : Kd.C k29 w A1 l.length l) (hS : Kd.C Kd.bool w A2 set.length set) (hz : ¬ N = 0) (hl : set.length = N) : Calls Try.prog 4 #[.int .i64 (N : Int), .slice A1 l.length c1, .slice A2 N c2] w fun e w' => e = .returned (.bool true) ∧ Below w.heap.size w w' := by
  have HB := Aside0.mk (Below.refl w.heap.size w)
  have HH := Lib.hid (And.intro h1 h2)
  have HC := Aside0.mk hC
  have HSET := Aside0.mk hS
  have HZ : Aside0 (decide (N = 0) = false) := ⟨decide_eq_false hz⟩
  clear h1 h2 hC hS
  have kz : ((N : Int) == 0) = false := beq_eq_false_iff_ne.2 (by omega)
  have HL := Lib.hid hl
  clear hl hz
  have tok_1 : True := trivial
  have tok_2 : True := trivial
  have tok_3 : True := trivial
  have tok_4 : True := trivial
  have tok_5 : True := trivial
  have tok_6 : True := trivial
  have tok_7 : True := trivial
  have tok_8 : True := trivial
  go_enter Try.func4, Try.ntmps4
  go_wp2_with (first | (clear tok_1; go_at_call 10; (with_reducible refine (comes_any _).mono ?_); rintro e w1 ⟨rfl, hb⟩; have h1 := pxs HB hb; clear HB hb; have HB := h1; clear h1) | (clear tok_2; go_at_call 15; (with_reducible refine (build_main N A1 c1 l _ HH.out.1 HH.out.2 (Kd.C_below HC.out (pxb HB))).mono ?_); rintro e w2 ⟨g, es, O, ov, rfl, hg, hr, hlen, hb⟩; obtain ⟨Av, cv, hov⟩ := Kd.R_slice hr; rw [List.length_map] at hov; subst hov; have h1 := pxs HB hb; have HG := Aside0.mk hg; have HE := Aside0.mk (Kd.R_reads' hr).2.2; have HEC := Aside0.mk (Kd.R_reads' hr).2.1; have HLEN := Lib.hid hlen; clear HB hb hg hr hlen; have HB := h1; clear h1) | (clear tok_3; go_at_call 16; (with_reducible refine (solve_any _ HG.out).mono ?_); rintro e w3 ⟨gv, rfl, hr, hb⟩; have hlw : (comesL (wL N es (fun _ => false) (-1))).length = N := (by obtain ⟨_, _, _, _, hga⟩ := HG.out; unfold comesL; rw [List.length_map]; exact wL_len hga.1 _ _); have hrc : rightV N es (comesL (wL N es (fun _ => false) (-1))) = true := (by obtain ⟨dp, hf⟩ := walkL_fin (n := N) (F := Fm es) (shut := fun _ => false) (skip := -1) (fun k hk => (G.val HG.out k hk).2.2); exact right_comes hf (G.val HG.out)); have hls : ∀ set, rightV N es set = true → ∀ i, i < N → bG (comesL (wL N es (fun _ => false) (-1))) (i : Int) = true → bG set (i : Int) = true := (by obtain ⟨dp, hf⟩ := walkL_fin (n := N) (F := Fm es) (shut := fun _ => false) (skip := -1) (fun k hk => (G.val HG.out k hk).2.2); intro set hr i hi hb; exact least hf hr _ i hi rfl (by have := bG_comes (n := N) (R := wL N es (fun _ => false) (-1)) hf.len (v := (i : Int)) (by omega) (by omega); rw [this, decide_eq_true_eq, Int.toNat_natCast] at hb; exact hb)); have hzz : N = 0 → es.length = 0 := es_zero HG.out; have HZZ := Lib.hid hzz; have HLS := Lib.hid hls; have HLW := Lib.hid hlw; have HRC := Lib.hid hrc; have HVAL := Lib.hid (G.val HG.out); obtain ⟨Ag, cg, hgv⟩ := Kd.R_slice hr; rw [hlw] at hgv; subst hgv; have nHB_ := pxs HB hb; have nHG_ := G.moved HG hb; have nHE_ := Aside0.mk (Kd.C_below HE.out hb); clear HB hb HG HE; have HB := nHB_; clear nHB_; have HG := nHG_; clear nHG_; have HE := nHE_; clear nHE_; have HGOT := Aside0.mk hr; clear hr hlw hrc hls hzz; have HGL : Aside0 (comesL (wL N es (fun _ => false) (-1)) = comesL (wL N es (fun _ => false) (-1))) := ⟨rfl⟩) | (clear tok_4; go_at_call 17; (with_reducible refine (refsolve_any Av cv _ HH.out.2 HLEN.out HVAL.out (by have := HE.out; rwa [List.length_map] at this) HEC.out).mono ?_); rintro e w4 ⟨fv, rfl, hr, hb⟩; obtain ⟨Af, cf, hfv⟩ := Kd.R_slice hr; rw [HLW.out] at hfv; subst hfv; have nHB_ := pxs HB hb; have nHG_ := G.moved HG hb; have nHE_ := Aside0.mk (Kd.C_below HE.out hb); have nHGOT_ := Aside0.mk (Kd.R_below HGOT.out hb); clear HB hb HG HE HGOT; have HB := nHB_; clear nHB_; have HG := nHG_; clear nHG_; have HE := nHE_; clear nHE_; have HGOT := nHGOT_; clear nHGOT_; have HWANT := Aside0.mk hr; clear hr) | (clear tok_5; go_at_call 18; (with_reducible refine (right_set Ag cg _ _ _ HG.out (Kd.R_reads' HGOT.out).2.2 HLW.out).mono ?_); rintro e w5 ⟨rfl, hb⟩; rw [HRC.out]; have nHB_ := pxs HB hb; have nHG_ := G.moved HG hb; have nHE_ := Aside0.mk (Kd.C_below HE.out hb); have nHGOT_ := Aside0.mk (Kd.R_below HGOT.out hb); have nHWANT_ := Aside0.mk (Kd.R_below HWANT.out hb); clear HB hb HG HE HGOT HWANT; have HB := nHB_; clear nHB_; have HG := nHG_; clear nHG_; have HE := nHE_; clear nHE_; have HGOT := nHGOT_; clear nHGOT_; have HWANT := nHWANT_; clear nHWANT_) | (clear tok_6; go_at_call 18; (with_reducible refine (rightnil_any false _ HG.out HZ.out).mono ?_); rintro e w6 ⟨rfl, hb⟩; have nHB_ := pxs HB hb; have nHG_ := G.moved HG hb; have nHE_ := Aside0.mk (Kd.C_below HE.out hb); have nHGOT_ := Aside0.mk (Kd.R_below HGOT.out hb); have nHWANT_ := Aside0.mk (Kd.R_below HWANT.out hb); clear HB hb HG HE HGOT HWANT; have HB := nHB_; clear nHB_; have HG := nHG_; clear nHG_; have HE := nHE_; clear nHE_; have HGOT := nHGOT_; clear nHGOT_; have HWANT := nHWANT_; clear nHWANT_))
  go_loopg [57] N (fun kq v57 w' => ∃ i : Nat, v57 = .int .i64 i ∧ Hid (i ≤ N ∧ kq = N - i) ∧ Aside0 (Below w6.heap.size w6 w'))
  case atStart => exact ⟨0, rfl, ⟨Nat.zero_le _, rfl⟩, ⟨Below.refl _ _⟩⟩
  case round =>
    obtain ⟨i, rfl, HI, HBI⟩ := hrel
    by_cases hi : i < N
    · have hlw := HLW.out
      obtain ⟨adG, haG, xG⟩ := Kd.at_bool (Kd.R_reads' HGOT.out).2.2 (i : Int) (by omega) (by omega)
      cases haG
      replace xG := (HBI.out.cell (World.block_lt_of_cell? _ _ xG)).trans xG
      obtain ⟨adW, haW, xW⟩ := Kd.at_bool (Kd.R_reads' HWANT.out).2.2 (i : Int) (by omega) (by omega)
      cases haW
      replace xW := (HBI.out.cell (World.block_lt_of_cell? _ _ xW)).trans xW
      rw [Int.toNat_natCast] at xG xW
      generalize rdOf false _ (i : Int) = bv at xG xW
      have p3 : (0 ≤ (i : Int)) = True := eq_true (by omega)
      have p4 : ((i : Int) < (N : Int)) = True := eq_true (by omega)
      have p4' : (i < N) = True := eq_true (by omega)
      have k4 : decide (i < N) = true := decide_eq_true (by omega)
      have k5 : decide ((i : Int) < (N : Int)) = true := decide_eq_true (by omega)
      have HLT := Lib.hid hi
      clear hi hlw
      cases bv <;> (go_wp2; go_quiet (fail); go_wp2; go_roundg (N - (i + 1)); (case measure => have := HI.out; have := HLT.out; omega); (case rel => exact ⟨i + 1, by have := HLT.out; have := HH.out.2; rw [wrap_id (by omega) (by omega)]; rfl, ⟨by have := HLT.out; omega, rfl⟩, ⟨pxb HBI⟩⟩))
    · obtain rfl : N = i := by have := HI.out; omega
      have k4 : decide (N < N) = false := decide_eq_false (by omega)
      have k5 : decide ((N : Int) < (N : Int)) = false := decide_eq_false (by omega)
      have hb := HBI.out
      have nHB_ := pxs HB hb; have nHG_ := G.moved HG hb; have nHE_ := Aside0.mk (Kd.C_below HE.out hb); have nHGOT_ := Aside0.mk (Kd.R_below HGOT.out hb); have nHWANT_ := Aside0.mk (Kd.R_below HWANT.out hb); clear HB hb HG HE HGOT HWANT; have HB := nHB_; clear nHB_; have HG := nHG_; clear nHG_; have HE := nHE_; clear nHE_; have HGOT := nHGOT_; clear nHGOT_; have HWANT := nHWANT_; clear nHWANT_
      clear hi HI HBI
      have tok_5 : True := trivial
      go_wp2
      obtain ⟨wE, rfl⟩ : ∃ wE, wE = wr := ⟨_, rfl⟩
      go_loopg [13, 80] es.length (fun kq v13 v80 w' => ∃ (i : Nat) (b : Bool), v80 = .int .i64 i ∧ v13 = .bool b ∧ Hid (i ≤ es.length ∧ kq = es.length - i ∧ b = (es.take i).all fun e => !badE set e) ∧ Aside0 (Below wE.heap.size wE w'))
      case atStart => exact ⟨0, true, rfl, rfl, ⟨Nat.zero_le _, rfl, rfl⟩, ⟨Below.refl _ _⟩⟩
      case round =>
        obtain ⟨i, b, rfl, rfl, HI, HBI⟩ := hrel
        by_cases hi : i < es.length
        · have hvk := HVAL.out i hi
          unfold Fm Tm at hvk
          obtain ⟨adE, hadE, he0, he1, he2, he3⟩ := at_T41 HE.out (i : Int) (by omega) (by rw [List.length_map]; omega)
          subst hadE
          replace he0 := (HBI.out.cell (World.block_lt_of_cell? _ _ he0)).trans he0
          replace he1 := (HBI.out.cell (World.block_lt_of_cell? _ _ he1)).trans he1
          replace he2 := (HBI.out.cell (World.block_lt_of_cell? _ _ he2)).trans he2
          replace he3 := (HBI.out.cell (World.block_lt_of_cell? _ _ he3)).trans he3
          rw [rd41, Int.toNat_natCast] at he0 he1 he2 he3
          have HTK : (es.take (i + 1)).all (fun e => !badE set e) = (b && !badE set (es.getD i z29)) := by rw [List.take_succ_eq_append_getElem hi, List.all_append, HI.out.2.2, List.getD_eq_getElem?_getD, List.getElem?_eq_getElem hi, Option.getD_some]; simp
          have hbad : badE set (es.getD i z29) = ((decide ((es.getD i z29).f0 = -1) || bG set (es.getD i z29).f0) && !bG set (es.getD i z29).f1) := rfl
          generalize es.getD i z29 = e at *
          replace he0 : _ = some (Value.int .i64 e.f0) := he0
          replace he1 : _ = some (Value.int .i64 e.f1) := he1
          replace he2 : _ = some (Value.int .i64 e.f2) := he2
          replace he3 : _ = some (Value.int .i64 e.f3) := he3
          have hl := HL.out
          have p3 : (0 ≤ (i : Int)) = True := eq_true (by omega)
          have p4 : ((i : Int) < (es.length : Int)) = True := eq_true (by omega)
          have p4' : (i < es.length) = True := eq_true (by omega)
          have k4 : decide (i < es.length) = true := decide_eq_true (by omega)
          have k5 : decide ((i : Int) < (es.length : Int)) = true := decide_eq_true (by omega)
          have q0 : (0 ≤ e.f1) = True := eq_true (by omega)
          have q1 : (e.f1 < (N : Int)) = True := eq_true (by omega)
          have HLT := Lib.hid hi
          clear hi
          obtain ⟨adT, haT, xT⟩ := Kd.at_bool HSET.out e.f1 (by omega) (by omega)
          cases haT
          rw [show rdOf false set e.f1 = bG set e.f1 from rfl] at xT
          have YT := Aside0.mk xT
          clear xT
          have HB0 := pxs HB HBI.out
          clear HB
          have HB := HB0
          clear HB0
          cases b
          · clear YT
            have HN := Aside0.mk (show (es.take (i + 1)).all (fun e => !badE set e) = false by rw [HTK, hbad]; rfl)
            clear HTK hbad hvk
            go_wp2_with (first | ((with_reducible refine gate_dst (N := 15) rfl ?_); refine box_event ?hg (N := 15) ?hd (cs := #[.int .i64 0, .int .i64 0, .int .i64 0, .int .i64 0]) (t := 41) ?hr ?_; (case hd => rfl); (case hg => rfl); (case hr => first | (go_simp; done) | (go_simp; rfl)); intro gx hg w7 hbox hb; have NWXB := Aside0.mk hbox; have GWXB := Aside0.mk ((by rw [hg]; exact (below_size (pxb HB)) : w.heap.size ≤ gx)); have GWHBIXB := Aside0.mk ((by rw [hg]; exact (below_size (pxb HBI))) : wE.heap.size ≤ gx); clear hg hbox; have n0_ := pxs HB hb; have nHBI_ := pxs HBI hb; clear HB HBI ; have HB := n0_; clear n0_; have HBI := nHBI_; clear nHBI_; have XB := NWXB; clear NWXB hb; obtain ⟨xXB0, xXB1, xXB2, xXB3, yXB0, yXB1, yXB2, yXB3⟩ := pxf4 XB))
            go_roundg (es.length - (i + 1))
            case measure => have := HI.out; have := HLT.out; omega
            case rel => exact ⟨i + 1, false, by have := HLT.out; have := HLEN.out; rw [wrap_id (by omega) (by omega)]; rfl, rfl, ⟨by have := HLT.out; omega, rfl, HN.out.symm⟩, ⟨pxb HBI⟩⟩
          · by_cases h0 : e.f0 = -1
            · have k6 : (e.f0 == -1) = true := beq_iff_eq.2 h0
              rw [decide_eq_true h0, Bool.true_or, Bool.true_and] at hbad
              clear h0
              cases hb1 : bG set e.f1
              · have YT := Aside0.mk (Eq.trans YT.out (by rw [hb1]) : w.cell? _ = some (.bool false)); rw [hb1] at hbad; clear hb1
                have HN := Aside0.mk (show (es.take (i + 1)).all (fun e => !badE set e) = false by rw [HTK, hbad]; rfl)
                clear HTK hbad hvk
                go_wp2_with (first | ((with_reducible refine gate_dst (N := 15) rfl ?_); refine box_event ?hg (N := 15) ?hd (cs := #[.int .i64 0, .int .i64 0, .int .i64 0, .int .i64 0]) (t := 41) ?hr ?_; (case hd => rfl); (case hg => rfl); (case hr => first | (go_simp; done) | (go_simp; rfl)); intro gx hg w7 hbox hb; have NWXB := Aside0.mk hbox; have GWXB := Aside0.mk ((by rw [hg]; exact (below_size (pxb HB)) : w.heap.size ≤ gx)); have GWHBIXB := Aside0.mk ((by rw [hg]; exact (below_size (pxb HBI))) : wE.heap.size ≤ gx); clear hg hbox; have n0_ := pxs HB hb; have nHBI_ := pxs HBI hb; clear HB HBI ; have HB := n0_; clear n0_; have HBI := nHBI_; clear nHBI_; have XB := NWXB; clear NWXB hb; obtain ⟨xXB0, xXB1, xXB2, xXB3, yXB0, yXB1, yXB2, yXB3⟩ := pxf4 XB; have xT := far4 (gx := gx) (v0 := .int .i64 e.f0) (v1 := .int .i64 e.f1) (v2 := .int .i64 e.f2) (v3 := .int .i64 e.f3) ((HB.out.cell (World.block_lt_of_cell? w _ YT.out)).trans YT.out) (pxo' YT.out GWXB)))
                go_roundg (es.length - (i + 1))
                case measure => have := HI.out; have := HLT.out; omega
                case rel => exact ⟨i + 1, false, by have := HLT.out; have := HLEN.out; rw [wrap_id (by omega) (by omega)]; rfl, rfl, ⟨by have := HLT.out; omega, rfl, HN.out.symm⟩, ⟨pxb HBI⟩⟩
              · have YT := Aside0.mk (Eq.trans YT.out (by rw [hb1]) : w.cell? _ = some (.bool true)); rw [hb1] at hbad; clear hb1
                have HN := Aside0.mk (show (es.take (i + 1)).all (fun e => !badE set e) = true by rw [HTK, hbad]; rfl)
                clear HTK hbad hvk
                go_wp2_with (first | ((with_reducible refine gate_dst (N := 15) rfl ?_); refine box_event ?hg (N := 15) ?hd (cs := #[.int .i64 0, .int .i64 0, .int .i64 0, .int .i64 0]) (t := 41) ?hr ?_; (case hd => rfl); (case hg => rfl); (case hr => first | (go_simp; done) | (go_simp; rfl)); intro gx hg w7 hbox hb; have NWXB := Aside0.mk hbox; have GWXB := Aside0.mk ((by rw [hg]; exact (below_size (pxb HB)) : w.heap.size ≤ gx)); have GWHBIXB := Aside0.mk ((by rw [hg]; exact (below_size (pxb HBI))) : wE.heap.size ≤ gx); clear hg hbox; have n0_ := pxs HB hb; have nHBI_ := pxs HBI hb; clear HB HBI ; have HB := n0_; clear n0_; have HBI := nHBI_; clear nHBI_; have XB := NWXB; clear NWXB hb; obtain ⟨xXB0, xXB1, xXB2, xXB3, yXB0, yXB1, yXB2, yXB3⟩ := pxf4 XB; have xT := far4 (gx := gx) (v0 := .int .i64 e.f0) (v1 := .int .i64 e.f1) (v2 := .int .i64 e.f2) (v3 := .int .i64 e.f3) ((HB.out.cell (World.block_lt_of_cell? w _ YT.out)).trans YT.out) (pxo' YT.out GWXB)))
                go_roundg (es.length - (i + 1))
                case measure => have := HI.out; have := HLT.out; omega
                case rel => exact ⟨i + 1, true, by have := HLT.out; have := HLEN.out; rw [wrap_id (by omega) (by omega)]; rfl, rfl, ⟨by have := HLT.out; omega, rfl, HN.out.symm⟩, ⟨pxb HBI⟩⟩
            · have k6 : (e.f0 == -1) = false := beq_eq_false_iff_ne.2 h0
              rw [decide_eq_false h0, Bool.false_or] at hbad
              have q2 : (0 ≤ e.f0) = True := eq_true (by omega)
              have q3 : (e.f0 < (N : Int)) = True := eq_true (by omega)
              obtain ⟨adF, haF, xF⟩ := Kd.at_bool HSET.out e.f0 (by omega) (by omega)
              cases haF
              rw [show rdOf false set e.f0 = bG set e.f0 from rfl] at xF
              have YF := Aside0.mk xF
              clear xF h0
              cases hb0 : bG set e.f0
              · clear YT; have YF := Aside0.mk (Eq.trans YF.out (by rw [hb0]) : w.cell? _ = some (.bool false)); rw [hb0] at hbad; clear hb0
                have HN := Aside0.mk (show (es.take (i + 1)).all (fun e => !badE set e) = true by rw [HTK, hbad]; rfl)
                clear HTK hbad hvk
                go_wp2_with (first | ((with_reducible refine gate_dst (N := 15) rfl ?_); refine box_event ?hg (N := 15) ?hd (cs := #[.int .i64 0, .int .i64 0, .int .i64 0, .int .i64 0]) (t := 41) ?hr ?_; (case hd => rfl); (case hg => rfl); (case hr => first | (go_simp; done) | (go_simp; rfl)); intro gx hg w7 hbox hb; have NWXB := Aside0.mk hbox; have GWXB := Aside0.mk ((by rw [hg]; exact (below_size (pxb HB)) : w.heap.size ≤ gx)); have GWHBIXB := Aside0.mk ((by rw [hg]; exact (below_size (pxb HBI))) : wE.heap.size ≤ gx); clear hg hbox; have n0_ := pxs HB hb; have nHBI_ := pxs HBI hb; clear HB HBI ; have HB := n0_; clear n0_; have HBI := nHBI_; clear nHBI_; have XB := NWXB; clear NWXB hb; obtain ⟨xXB0, xXB1, xXB2, xXB3, yXB0, yXB1, yXB2, yXB3⟩ := pxf4 XB; have xF := far4 (gx := gx) (v0 := .int .i64 e.f0) (v1 := .int .i64 e.f1) (v2 := .int .i64 e.f2) (v3 := .int .i64 e.f3) ((HB.out.cell (World.block_lt_of_cell? w _ YF.out)).trans YF.out) (pxo' YF.out GWXB)))
                go_roundg (es.length - (i + 1))
                case measure => have := HI.out; have := HLT.out; omega
                case rel => exact ⟨i + 1, true, by have := HLT.out; have := HLEN.out; rw [wrap_id (by omega) (by omega)]; rfl, rfl, ⟨by have := HLT.out; omega, rfl, HN.out.symm⟩, ⟨pxb HBI⟩⟩
              · have YF := Aside0.mk (Eq.trans YF.out (by rw [hb0]) : w.cell? _ = some (.bool true)); rw [hb0] at hbad; clear hb0
                cases hb1 : bG set e.f1
                · have YT := Aside0.mk (Eq.trans YT.out (by rw [hb1]) : w.cell? _ = some (.bool false)); rw [hb1] at hbad; clear hb1
                  have HN := Aside0.mk (show (es.take (i + 1)).all (fun e => !badE set e) = false by rw [HTK, hbad]; rfl)
                  clear HTK hbad hvk
                  go_wp2_with (first | ((with_reducible refine gate_dst (N := 15) rfl ?_); refine box_event ?hg (N := 15) ?hd (cs := #[.int .i64 0, .int .i64 0, .int .i64 0, .int .i64 0]) (t := 41) ?hr ?_; (case hd => rfl); (case hg => rfl); (case hr => first | (go_simp; done) | (go_simp; rfl)); intro gx hg w7 hbox hb; have NWXB := Aside0.mk hbox; have GWXB := Aside0.mk ((by rw [hg]; exact (below_size (pxb HB)) : w.heap.size ≤ gx)); have GWHBIXB := Aside0.mk ((by rw [hg]; exact (below_size (pxb HBI))) : wE.heap.size ≤ gx); clear hg hbox; have n0_ := pxs HB hb; have nHBI_ := pxs HBI hb; clear HB HBI ; have HB := n0_; clear n0_; have HBI := nHBI_; clear nHBI_; have XB := NWXB; clear NWXB hb; obtain ⟨xXB0, xXB1, xXB2, xXB3, yXB0, yXB1, yXB2, yXB3⟩ := pxf4 XB; have xF := far4 (gx := gx) (v0 := .int .i64 e.f0) (v1 := .int .i64 e.f1) (v2 := .int .i64 e.f2) (v3 := .int .i64 e.f3) ((HB.out.cell (World.block_lt_of_cell? w _ YF.out)).trans YF.out) (pxo' YF.out GWXB); have xT := far4 (gx := gx) (v0 := .int .i64 e.f0) (v1 := .int .i64 e.f1) (v2 := .int .i64 e.f2) (v3 := .int .i64 e.f3) ((HB.out.cell (World.block_lt_of_cell? w _ YT.out)).trans YT.out) (pxo' YT.out GWXB)))
                  go_roundg (es.length - (i + 1))
                  case measure => have := HI.out; have := HLT.out; omega
                  case rel => exact ⟨i + 1, false, by have := HLT.out; have := HLEN.out; rw [wrap_id (by omega) (by omega)]; rfl, rfl, ⟨by have := HLT.out; omega, rfl, HN.out.symm⟩, ⟨pxb HBI⟩⟩
                · have YT := Aside0.mk (Eq.trans YT.out (by rw [hb1]) : w.cell? _ = some (.bool true)); rw [hb1] at hbad; clear hb1
                  have HN := Aside0.mk (show (es.take (i + 1)).all (fun e => !badE set e) = true by rw [HTK, hbad]; rfl)
                  clear HTK hbad hvk
                  go_wp2_with (first | ((with_reducible refine gate_dst (N := 15) rfl ?_); refine box_event ?hg (N := 15) ?hd (cs := #[.int .i64 0, .int .i64 0, .int .i64 0, .int .i64 0]) (t := 41) ?hr ?_; (case hd => rfl); (case hg => rfl); (case hr => first | (go_simp; done) | (go_simp; rfl)); intro gx hg w7 hbox hb; have NWXB := Aside0.mk hbox; have GWXB := Aside0.mk ((by rw [hg]; exact (below_size (pxb HB)) : w.heap.size ≤ gx)); have GWHBIXB := Aside0.mk ((by rw [hg]; exact (below_size (pxb HBI))) : wE.heap.size ≤ gx); clear hg hbox; have n0_ := pxs HB hb; have nHBI_ := pxs HBI hb; clear HB HBI ; have HB := n0_; clear n0_; have HBI := nHBI_; clear nHBI_; have XB := NWXB; clear NWXB hb; obtain ⟨xXB0, xXB1, xXB2, xXB3, yXB0, yXB1, yXB2, yXB3⟩ := pxf4 XB; have xF := far4 (gx := gx) (v0 := .int .i64 e.f0) (v1 := .int .i64 e.f1) (v2 := .int .i64 e.f2) (v3 := .int .i64 e.f3) ((HB.out.cell (World.block_lt_of_cell? w _ YF.out)).trans YF.out) (pxo' YF.out GWXB); have xT := far4 (gx := gx) (v0 := .int .i64 e.f0) (v1 := .int .i64 e.f1) (v2 := .int .i64 e.f2) (v3 := .int .i64 e.f3) ((HB.out.cell (World.block_lt_of_cell? w _ YT.out)).trans YT.out) (pxo' YT.out GWXB)))
                  go_roundg (es.length - (i + 1))
                  case measure => have := HI.out; have := HLT.out; omega
                  case rel => exact ⟨i + 1, true, by have := HLT.out; have := HLEN.out; rw [wrap_id (by omega) (by omega)]; rfl, rfl, ⟨by have := HLT.out; omega, rfl, HN.out.symm⟩, ⟨pxb HBI⟩⟩
        · obtain rfl : es.length = i := by have := HI.out; omega
          have k4 : decide (es.length < es.length) = false := decide_eq_false (by omega)
          have k5 : decide ((es.length : Int) < (es.length : Int)) = false := decide_eq_false (by omega)
          have hrv : rightV N es set = b := by rw [HI.out.2.2, List.take_length]; unfold rightV; rw [decide_eq_true HL.out, Bool.true_and]
          have HRV := Aside0.mk hrv
          have hb := HBI.out
          have nHB_ := pxs HB hb; have nHG_ := G.moved HG hb; have nHE_ := Aside0.mk (Kd.C_below HE.out hb); have nHGOT_ := Aside0.mk (Kd.R_below HGOT.out hb); have nHWANT_ := Aside0.mk (Kd.R_below HWANT.out hb); clear HB hb HG HE HGOT HWANT; have HB := nHB_; clear nHB_; have HG := nHG_; clear nHG_; have HE := nHE_; clear nHE_; have HGOT := nHGOT_; clear nHGOT_; have HWANT := nHWANT_; clear nHWANT_
          clear hi HI HBI hrv
          obtain ⟨wF, rfl⟩ : ∃ wF, wF = wr := ⟨_, rfl⟩
          cases b
          · have tok_5 : True := trivial
            go_wp2_with (first | (clear tok_5; go_at_call 18; (with_reducible refine (right_set A2 c2 set N _ HG.out (Kd.C_below HSET.out (pxb HB)) HL.out).mono ?_); rintro e w8 ⟨rfl, hb⟩; rw [HRV.out]; have nHB_ := pxs HB hb; have nHG_ := G.moved HG hb; have nHE_ := Aside0.mk (Kd.C_below HE.out hb); have nHGOT_ := Aside0.mk (Kd.R_below HGOT.out hb); have nHWANT_ := Aside0.mk (Kd.R_below HWANT.out hb); clear HB hb HG HE HGOT HWANT; have HB := nHB_; clear nHB_; have HG := nHG_; clear nHG_; have HE := nHE_; clear nHE_; have HGOT := nHGOT_; clear nHGOT_; have HWANT := nHWANT_; clear nHWANT_))
            go_loopg [114] N (fun kq v114 w' => ∃ i : Nat, v114 = .int .i64 i ∧ Hid (i ≤ N ∧ kq = N - i) ∧ Aside0 (Below w8.heap.size w8 w'))
            case atStart => exact ⟨0, rfl, ⟨Nat.zero_le _, rfl⟩, ⟨Below.refl _ _⟩⟩
            case round =>
              obtain ⟨i, rfl, HI, HBI⟩ := hrel
              by_cases hi : i < N
              · have hlw := HLW.out
                have hl := HL.out
                obtain ⟨adG, haG, xG⟩ := Kd.at_bool (Kd.R_reads' HGOT.out).2.2 (i : Int) (by omega) (by omega)
                cases haG
                replace xG := (HBI.out.cell (World.block_lt_of_cell? _ _ xG)).trans xG
                obtain ⟨adS, haS, xS⟩ := Kd.at_bool (Kd.C_below HSET.out HB.out) (i : Int) (by omega) (by omega)
                cases haS
                replace xS := (HBI.out.cell (World.block_lt_of_cell? _ _ xS)).trans xS
                rw [Int.toNat_natCast] at xG xS
                rw [show rdOf false (comesL (wL N es (fun _ => false) (-1))) (i : Int) = bG (comesL (wL N es (fun _ => false) (-1))) (i : Int) from rfl] at xG
                rw [show rdOf false set (i : Int) = bG set (i : Int) from rfl] at xS
                have p3 : (0 ≤ (i : Int)) = True := eq_true (by omega)
                have p4 : ((i : Int) < (N : Int)) = True := eq_true (by omega)
                have p4' : (i < N) = True := eq_true (by omega)
                have k4 : decide (i < N) = true := decide_eq_true (by omega)
                have k5 : decide ((i : Int) < (N : Int)) = true := decide_eq_true (by omega)
                have HLT := Lib.hid hi
                clear hi hlw hl
                go_wp2; go_roundg (N - (i + 1)); (case measure => have := HI.out; have := HLT.out; omega); (case rel => exact ⟨i + 1, by have := HLT.out; have := HH.out.2; rw [wrap_id (by omega) (by omega)]; rfl, ⟨by have := HLT.out; omega, rfl⟩, ⟨pxb HBI⟩⟩)
              · obtain rfl : N = i := by have := HI.out; omega
                have k4 : decide (N < N) = false := decide_eq_false (by omega)
                have k5 : decide ((N : Int) < (N : Int)) = false := decide_eq_false (by omega)
                go_wp2
                go_ret
                exact ⟨rfl, below_step HB.out HBI.out⟩
          · have tok_5 : True := trivial
            go_wp2_with (first | (clear tok_5; go_at_call 18; (with_reducible refine (right_set A2 c2 set N _ HG.out (Kd.C_below HSET.out (pxb HB)) HL.out).mono ?_); rintro e w8 ⟨rfl, hb⟩; rw [HRV.out]; have nHB_ := pxs HB hb; have nHG_ := G.moved HG hb; have nHE_ := Aside0.mk (Kd.C_below HE.out hb); have nHGOT_ := Aside0.mk (Kd.R_below HGOT.out hb); have nHWANT_ := Aside0.mk (Kd.R_below HWANT.out hb); clear HB hb HG HE HGOT HWANT; have HB := nHB_; clear nHB_; have HG := nHG_; clear nHG_; have HE := nHE_; clear nHE_; have HGOT := nHGOT_; clear nHGOT_; have HWANT := nHWANT_; clear nHWANT_))
            go_loopg [114] N (fun kq v114 w' => ∃ i : Nat, v114 = .int .i64 i ∧ Hid (i ≤ N ∧ kq = N - i) ∧ Aside0 (Below w8.heap.size w8 w'))
            case atStart => exact ⟨0, rfl, ⟨Nat.zero_le _, rfl⟩, ⟨Below.refl _ _⟩⟩
            case round =>
              obtain ⟨i, rfl, HI, HBI⟩ := hrel
              by_cases hi : i < N
              · have hlw := HLW.out
                have hl := HL.out
                obtain ⟨adG, haG, xG⟩ := Kd.at_bool (Kd.R_reads' HGOT.out).2.2 (i : Int) (by omega) (by omega)
                cases haG
                replace xG := (HBI.out.cell (World.block_lt_of_cell? _ _ xG)).trans xG
                obtain ⟨adS, haS, xS⟩ := Kd.at_bool (Kd.C_below HSET.out HB.out) (i : Int) (by omega) (by omega)
                cases haS
                replace xS := (HBI.out.cell (World.block_lt_of_cell? _ _ xS)).trans xS
                rw [Int.toNat_natCast] at xG xS
                have hle : bG (comesL (wL N es (fun _ => false) (-1))) (i : Int) = true → bG set (i : Int) = true := HLS.out set HRV.out i hi
                rw [show rdOf false (comesL (wL N es (fun _ => false) (-1))) (i : Int) = bG (comesL (wL N es (fun _ => false) (-1))) (i : Int) from rfl] at xG
                rw [show rdOf false set (i : Int) = bG set (i : Int) from rfl] at xS
                have p3 : (0 ≤ (i : Int)) = True := eq_true (by omega)
                have p4 : ((i : Int) < (N : Int)) = True := eq_true (by omega)
                have p4' : (i < N) = True := eq_true (by omega)
                have k4 : decide (i < N) = true := decide_eq_true (by omega)
                have k5 : decide ((i : Int) < (N : Int)) = true := decide_eq_true (by omega)
                have HLT := Lib.hid hi
                clear hi hlw hl
                cases hgq : bG (comesL (wL N es (fun _ => false) (-1))) (i : Int)
                · rw [hgq] at xG; clear hle hgq xS
                  go_wp2; go_roundg (N - (i + 1)); (case measure => have := HI.out; have := HLT.out; omega); (case rel => exact ⟨i + 1, by have := HLT.out; have := HH.out.2; rw [wrap_id (by omega) (by omega)]; rfl, ⟨by have := HLT.out; omega, rfl⟩, ⟨pxb HBI⟩⟩)
                · rw [hgq] at xG; rw [hle hgq] at xS; clear hle hgq
                  go_wp2; go_roundg (N - (i + 1)); (case measure => have := HI.out; have := HLT.out; omega); (case rel => exact ⟨i + 1, by have := HLT.out; have := HH.out.2; rw [wrap_id (by omega) (by omega)]; rfl, ⟨by have := HLT.out; omega, rfl⟩, ⟨pxb HBI⟩⟩)
              · obtain rfl : N = i := by have := HI.out; omega
                have k4 : decide (N < N) = false := decide_eq_false (by omega)
                have k5 : decide ((N : Int) < (N : Int)) = false := decide_eq_false (by omega)
                go_wp2
                go_ret
                exact ⟨rfl, below_step HB.out HBI.out⟩
set_option maxHeartbeats 16000000 in
set_option maxRecDepth 100000 in
theorem least_zero_same (N : Nat) (A1 : Option Addr) (c1 : Nat) (l : List S29) (A2 : Option Addr) (c2 : Nat) (set : List Bool) (w : World) (h1 : l.length ≤ 150) (h2 : N ≤ 60) (hC : Kd.C k29 w A1 l.length l) (hS : Kd.C Kd.bool w A2 set.length set) (hz : N = 0) (hl : set.length = N) : Calls Try.prog 4 #[.int .i64 (N : Int), .slice A1 l.length c1, .slice A2 N c2] w fun e w' => e = .returned (.bool true) ∧ Below w.heap.size w w' := by
  have HB := Aside0.mk (Below.refl w.heap.size w)
  have HH := Lib.hid (And.intro h1 h2)
  have HC := Aside0.mk hC
  have HSET := Aside0.mk hS
  have HZ : Aside0 (decide (N = 0) = true) := ⟨decide_eq_true hz⟩
  clear h1 h2 hC hS
  have kz : ((N : Int) == 0) = true := beq_iff_eq.2 (by omega)
  have HL := Lib.hid hl
  clear hl hz
  have tok_1 : True := trivial
  have tok_2 : True := trivial
  have tok_3 : True := trivial
  have tok_4 : True := trivial
  have tok_5 : True := trivial
  have tok_6 : True := trivial
  have tok_7 : True := trivial
  have tok_8 : True := trivial
  go_enter Try.func4, Try.ntmps4
  go_wp2_with (first | (clear tok_1; go_at_call 10; (with_reducible refine (comes_any _).mono ?_); rintro e w1 ⟨rfl, hb⟩; have h1 := pxs HB hb; clear HB hb; have HB := h1; clear h1) | (clear tok_2; go_at_call 15; (with_reducible refine (build_main N A1 c1 l _ HH.out.1 HH.out.2 (Kd.C_below HC.out (pxb HB))).mono ?_); rintro e w2 ⟨g, es, O, ov, rfl, hg, hr, hlen, hb⟩; obtain ⟨Av, cv, hov⟩ := Kd.R_slice hr; rw [List.length_map] at hov; subst hov; have h1 := pxs HB hb; have HG := Aside0.mk hg; have HE := Aside0.mk (Kd.R_reads' hr).2.2; have HEC := Aside0.mk (Kd.R_reads' hr).2.1; have HLEN := Lib.hid hlen; clear HB hb hg hr hlen; have HB := h1; clear h1) | (clear tok_3; go_at_call 16; (with_reducible refine (solve_any _ HG.out).mono ?_); rintro e w3 ⟨gv, rfl, hr, hb⟩; have hlw : (comesL (wL N es (fun _ => false) (-1))).length = N := (by obtain ⟨_, _, _, _, hga⟩ := HG.out; unfold comesL; rw [List.length_map]; exact wL_len hga.1 _ _); have hrc : rightV N es (comesL (wL N es (fun _ => false) (-1))) = true := (by obtain ⟨dp, hf⟩ := walkL_fin (n := N) (F := Fm es) (shut := fun _ => false) (skip := -1) (fun k hk => (G.val HG.out k hk).2.2); exact right_comes hf (G.val HG.out)); have hls : ∀ set, rightV N es set = true → ∀ i, i < N → bG (comesL (wL N es (fun _ => false) (-1))) (i : Int) = true → bG set (i : Int) = true := (by obtain ⟨dp, hf⟩ := walkL_fin (n := N) (F := Fm es) (shut := fun _ => false) (skip := -1) (fun k hk => (G.val HG.out k hk).2.2); intro set hr i hi hb; exact least hf hr _ i hi rfl (by have := bG_comes (n := N) (R := wL N es (fun _ => false) (-1)) hf.len (v := (i : Int)) (by omega) (by omega); rw [this, decide_eq_true_eq, Int.toNat_natCast] at hb; exact hb)); have hzz : N = 0 → es.length = 0 := es_zero HG.out; have HZZ := Lib.hid hzz; have HLS := Lib.hid hls; have HLW := Lib.hid hlw; have HRC := Lib.hid hrc; have HVAL := Lib.hid (G.val HG.out); obtain ⟨Ag, cg, hgv⟩ := Kd.R_slice hr; rw [hlw] at hgv; subst hgv; have nHB_ := pxs HB hb; have nHG_ := G.moved HG hb; have nHE_ := Aside0.mk (Kd.C_below HE.out hb); clear HB hb HG HE; have HB := nHB_; clear nHB_; have HG := nHG_; clear nHG_; have HE := nHE_; clear nHE_; have HGOT := Aside0.mk hr; clear hr hlw hrc hls hzz; have HGL : Aside0 (comesL (wL N es (fun _ => false) (-1)) = comesL (wL N es (fun _ => false) (-1))) := ⟨rfl⟩) | (clear tok_4; go_at_call 17; (with_reducible refine (refsolve_any Av cv _ HH.out.2 HLEN.out HVAL.out (by have := HE.out; rwa [List.length_map] at this) HEC.out).mono ?_); rintro e w4 ⟨fv, rfl, hr, hb⟩; obtain ⟨Af, cf, hfv⟩ := Kd.R_slice hr; rw [HLW.out] at hfv; subst hfv; have nHB_ := pxs HB hb; have nHG_ := G.moved HG hb; have nHE_ := Aside0.mk (Kd.C_below HE.out hb); have nHGOT_ := Aside0.mk (Kd.R_below HGOT.out hb); clear HB hb HG HE HGOT; have HB := nHB_; clear nHB_; have HG := nHG_; clear nHG_; have HE := nHE_; clear nHE_; have HGOT := nHGOT_; clear nHGOT_; have HWANT := Aside0.mk hr; clear hr) | (clear tok_5; go_at_call 18; (with_reducible refine (right_set Ag cg _ _ _ HG.out (Kd.R_reads' HGOT.out).2.2 HLW.out).mono ?_); rintro e w5 ⟨rfl, hb⟩; rw [HRC.out]; have nHB_ := pxs HB hb; have nHG_ := G.moved HG hb; have nHE_ := Aside0.mk (Kd.C_below HE.out hb); have nHGOT_ := Aside0.mk (Kd.R_below HGOT.out hb); have nHWANT_ := Aside0.mk (Kd.R_below HWANT.out hb); clear HB hb HG HE HGOT HWANT; have HB := nHB_; clear nHB_; have HG := nHG_; clear nHG_; have HE := nHE_; clear nHE_; have HGOT := nHGOT_; clear nHGOT_; have HWANT := nHWANT_; clear nHWANT_) | (clear tok_6; go_at_call 18; (with_reducible refine (rightnil_any true _ HG.out HZ.out).mono ?_); rintro e w6 ⟨rfl, hb⟩; have nHB_ := pxs HB hb; have nHG_ := G.moved HG hb; have nHE_ := Aside0.mk (Kd.C_below HE.out hb); have nHGOT_ := Aside0.mk (Kd.R_below HGOT.out hb); have nHWANT_ := Aside0.mk (Kd.R_below HWANT.out hb); clear HB hb HG HE HGOT HWANT; have HB := nHB_; clear nHB_; have HG := nHG_; clear nHG_; have HE := nHE_; clear nHE_; have HGOT := nHGOT_; clear nHGOT_; have HWANT := nHWANT_; clear nHWANT_; have hes0 : es.length = 0 := HZZ.out (of_decide_eq_true HZ.out); have ke : ((es.length : Int) == 0) = true := beq_iff_eq.2 (by omega); have ke2 : (es.length == 0) = true := beq_iff_eq.2 hes0; clear hes0))
  go_loopg [57] N (fun kq v57 w' => ∃ i : Nat, v57 = .int .i64 i ∧ Hid (i ≤ N ∧ kq = N - i) ∧ Aside0 (Below w6.heap.size w6 w'))
  case atStart => exact ⟨0, rfl, ⟨Nat.zero_le _, rfl⟩, ⟨Below.refl _ _⟩⟩
  case round =>
    obtain ⟨i, rfl, HI, HBI⟩ := hrel
    by_cases hi : i < N
    · have hlw := HLW.out
      obtain ⟨adG, haG, xG⟩ := Kd.at_bool (Kd.R_reads' HGOT.out).2.2 (i : Int) (by omega) (by omega)
      cases haG
      replace xG := (HBI.out.cell (World.block_lt_of_cell? _ _ xG)).trans xG
      obtain ⟨adW, haW, xW⟩ := Kd.at_bool (Kd.R_reads' HWANT.out).2.2 (i : Int) (by omega) (by omega)
      cases haW
      replace xW := (HBI.out.cell (World.block_lt_of_cell? _ _ xW)).trans xW
      rw [Int.toNat_natCast] at xG xW
      generalize rdOf false _ (i : Int) = bv at xG xW
      have p3 : (0 ≤ (i : Int)) = True := eq_true (by omega)
      have p4 : ((i : Int) < (N : Int)) = True := eq_true (by omega)
      have p4' : (i < N) = True := eq_true (by omega)
      have k4 : decide (i < N) = true := decide_eq_true (by omega)
      have k5 : decide ((i : Int) < (N : Int)) = true := decide_eq_true (by omega)
      have HLT := Lib.hid hi
      clear hi hlw
      cases bv <;> (go_wp2; go_quiet (fail); go_wp2; go_roundg (N - (i + 1)); (case measure => have := HI.out; have := HLT.out; omega); (case rel => exact ⟨i + 1, by have := HLT.out; have := HH.out.2; rw [wrap_id (by omega) (by omega)]; rfl, ⟨by have := HLT.out; omega, rfl⟩, ⟨pxb HBI⟩⟩))
    · obtain rfl : N = i := by have := HI.out; omega
      have k4 : decide (N < N) = false := decide_eq_false (by omega)
      have k5 : decide ((N : Int) < (N : Int)) = false := decide_eq_false (by omega)
      have hb := HBI.out
      have nHB_ := pxs HB hb; have nHG_ := G.moved HG hb; have nHE_ := Aside0.mk (Kd.C_below HE.out hb); have nHGOT_ := Aside0.mk (Kd.R_below HGOT.out hb); have nHWANT_ := Aside0.mk (Kd.R_below HWANT.out hb); clear HB hb HG HE HGOT HWANT; have HB := nHB_; clear nHB_; have HG := nHG_; clear nHG_; have HE := nHE_; clear nHE_; have HGOT := nHGOT_; clear nHGOT_; have HWANT := nHWANT_; clear nHWANT_
      clear hi HI HBI
      have tok_5 : True := trivial
      go_wp2
      obtain ⟨wE, rfl⟩ : ∃ wE, wE = wr := ⟨_, rfl⟩
      go_loopg [13, 80] es.length (fun kq v13 v80 w' => ∃ (i : Nat) (b : Bool), v80 = .int .i64 i ∧ v13 = .bool b ∧ Hid (i ≤ es.length ∧ kq = es.length - i ∧ b = (es.take i).all fun e => !badE set e) ∧ Aside0 (Below wE.heap.size wE w'))
      case atStart => exact ⟨0, true, rfl, rfl, ⟨Nat.zero_le _, rfl, rfl⟩, ⟨Below.refl _ _⟩⟩
      case round =>
        obtain ⟨i, b, rfl, rfl, HI, HBI⟩ := hrel
        by_cases hi : i < es.length
        · have hvk := HVAL.out i hi
          unfold Fm Tm at hvk
          obtain ⟨adE, hadE, he0, he1, he2, he3⟩ := at_T41 HE.out (i : Int) (by omega) (by rw [List.length_map]; omega)
          subst hadE
          replace he0 := (HBI.out.cell (World.block_lt_of_cell? _ _ he0)).trans he0
          replace he1 := (HBI.out.cell (World.block_lt_of_cell? _ _ he1)).trans he1
          replace he2 := (HBI.out.cell (World.block_lt_of_cell? _ _ he2)).trans he2
          replace he3 := (HBI.out.cell (World.block_lt_of_cell? _ _ he3)).trans he3
          rw [rd41, Int.toNat_natCast] at he0 he1 he2 he3
          have HTK : (es.take (i + 1)).all (fun e => !badE set e) = (b && !badE set (es.getD i z29)) := by rw [List.take_succ_eq_append_getElem hi, List.all_append, HI.out.2.2, List.getD_eq_getElem?_getD, List.getElem?_eq_getElem hi, Option.getD_some]; simp
          have hbad : badE set (es.getD i z29) = ((decide ((es.getD i z29).f0 = -1) || bG set (es.getD i z29).f0) && !bG set (es.getD i z29).f1) := rfl
          generalize es.getD i z29 = e at *
          replace he0 : _ = some (Value.int .i64 e.f0) := he0
          replace he1 : _ = some (Value.int .i64 e.f1) := he1
          replace he2 : _ = some (Value.int .i64 e.f2) := he2
          replace he3 : _ = some (Value.int .i64 e.f3) := he3
          have hl := HL.out
          have p3 : (0 ≤ (i : Int)) = True := eq_true (by omega)
          have p4 : ((i : Int) < (es.length : Int)) = True := eq_true (by omega)
          have p4' : (i < es.length) = True := eq_true (by omega)
          have k4 : decide (i < es.length) = true := decide_eq_true (by omega)
          have k5 : decide ((i : Int) < (es.length : Int)) = true := decide_eq_true (by omega)
          have q0 : (0 ≤ e.f1) = True := eq_true (by omega)
          have q1 : (e.f1 < (N : Int)) = True := eq_true (by omega)
          have HLT := Lib.hid hi
          clear hi
          obtain ⟨adT, haT, xT⟩ := Kd.at_bool HSET.out e.f1 (by omega) (by omega)
          cases haT
          rw [show rdOf false set e.f1 = bG set e.f1 from rfl] at xT
          have YT := Aside0.mk xT
          clear xT
          have HB0 := pxs HB HBI.out
          clear HB
          have HB := HB0
          clear HB0
          cases b
          · clear YT
            have HN := Aside0.mk (show (es.take (i + 1)).all (fun e => !badE set e) = false by rw [HTK, hbad]; rfl)
            clear HTK hbad hvk
            go_wp2_with (first | ((with_reducible refine gate_dst (N := 15) rfl ?_); refine box_event ?hg (N := 15) ?hd (cs := #[.int .i64 0, .int .i64 0, .int .i64 0, .int .i64 0]) (t := 41) ?hr ?_; (case hd => rfl); (case hg => rfl); (case hr => first | (go_simp; done) | (go_simp; rfl)); intro gx hg w7 hbox hb; have NWXB := Aside0.mk hbox; have GWXB := Aside0.mk ((by rw [hg]; exact (below_size (pxb HB)) : w.heap.size ≤ gx)); have GWHBIXB := Aside0.mk ((by rw [hg]; exact (below_size (pxb HBI))) : wE.heap.size ≤ gx); clear hg hbox; have n0_ := pxs HB hb; have nHBI_ := pxs HBI hb; clear HB HBI ; have HB := n0_; clear n0_; have HBI := nHBI_; clear nHBI_; have XB := NWXB; clear NWXB hb; obtain ⟨xXB0, xXB1, xXB2, xXB3, yXB0, yXB1, yXB2, yXB3⟩ := pxf4 XB))
            go_roundg (es.length - (i + 1))
            case measure => have := HI.out; have := HLT.out; omega
            case rel => exact ⟨i + 1, false, by have := HLT.out; have := HLEN.out; rw [wrap_id (by omega) (by omega)]; rfl, rfl, ⟨by have := HLT.out; omega, rfl, HN.out.symm⟩, ⟨pxb HBI⟩⟩
          · by_cases h0 : e.f0 = -1
            · have k6 : (e.f0 == -1) = true := beq_iff_eq.2 h0
              rw [decide_eq_true h0, Bool.true_or, Bool.true_and] at hbad
              clear h0
              cases hb1 : bG set e.f1
              · have YT := Aside0.mk (Eq.trans YT.out (by rw [hb1]) : w.cell? _ = some (.bool false)); rw [hb1] at hbad; clear hb1
                have HN := Aside0.mk (show (es.take (i + 1)).all (fun e => !badE set e) = false by rw [HTK, hbad]; rfl)
                clear HTK hbad hvk
                go_wp2_with (first | ((with_reducible refine gate_dst (N := 15) rfl ?_); refine box_event ?hg (N := 15) ?hd (cs := #[.int .i64 0, .int .i64 0, .int .i64 0, .int .i64 0]) (t := 41) ?hr ?_; (case hd => rfl); (case hg => rfl); (case hr => first | (go_simp; done) | (go_simp; rfl)); intro gx hg w7 hbox hb; have NWXB := Aside0.mk hbox; have GWXB := Aside0.mk ((by rw [hg]; exact (below_size (pxb HB)) : w.heap.size ≤ gx)); have GWHBIXB := Aside0.mk ((by rw [hg]; exact (below_size (pxb HBI))) : wE.heap.size ≤ gx); clear hg hbox; have n0_ := pxs HB hb; have nHBI_ := pxs HBI hb; clear HB HBI ; have HB := n0_; clear n0_; have HBI := nHBI_; clear nHBI_; have XB := NWXB; clear NWXB hb; obtain ⟨xXB0, xXB1, xXB2, xXB3, yXB0, yXB1, yXB2, yXB3⟩ := pxf4 XB; have xT := far4 (gx := gx) (v0 := .int .i64 e.f0) (v1 := .int .i64 e.f1) (v2 := .int .i64 e.f2) (v3 := .int .i64 e.f3) ((HB.out.cell (World.block_lt_of_cell? w _ YT.out)).trans YT.out) (pxo' YT.out GWXB)))
                go_roundg (es.length - (i + 1))
                case measure => have := HI.out; have := HLT.out; omega
                case rel => exact ⟨i + 1, false, by have := HLT.out; have := HLEN.out; rw [wrap_id (by omega) (by omega)]; rfl, rfl, ⟨by have := HLT.out; omega, rfl, HN.out.symm⟩, ⟨pxb HBI⟩⟩
              · have YT := Aside0.mk (Eq.trans YT.out (by rw [hb1]) : w.cell? _ = some (.bool true)); rw [hb1] at hbad; clear hb1
                have HN := Aside0.mk (show (es.take (i + 1)).all (fun e => !badE set e) = true by rw [HTK, hbad]; rfl)
                clear HTK hbad hvk
                go_wp2_with (first | ((with_reducible refine gate_dst (N := 15) rfl ?_); refine box_event ?hg (N := 15) ?hd (cs := #[.int .i64 0, .int .i64 0, .int .i64 0, .int .i64 0]) (t := 41) ?hr ?_; (case hd => rfl); (case hg => rfl); (case hr => first | (go_simp; done) | (go_simp; rfl)); intro gx hg w7 hbox hb; have NWXB := Aside0.mk hbox; have GWXB := Aside0.mk ((by rw [hg]; exact (below_size (pxb HB)) : w.heap.size ≤ gx)); have GWHBIXB := Aside0.mk ((by rw [hg]; exact (below_size (pxb HBI))) : wE.heap.size ≤ gx); clear hg hbox; have n0_ := pxs HB hb; have nHBI_ := pxs HBI hb; clear HB HBI ; have HB := n0_; clear n0_; have HBI := nHBI_; clear nHBI_; have XB := NWXB; clear NWXB hb; obtain ⟨xXB0, xXB1, xXB2, xXB3, yXB0, yXB1, yXB2, yXB3⟩ := pxf4 XB; have xT := far4 (gx := gx) (v0 := .int .i64 e.f0) (v1 := .int .i64 e.f1) (v2 := .int .i64 e.f2) (v3 := .int .i64 e.f3) ((HB.out.cell (World.block_lt_of_cell? w _ YT.out)).trans YT.out) (pxo' YT.out GWXB)))
                go_roundg (es.length - (i + 1))
                case measure => have := HI.out; have := HLT.out; omega
                case rel => exact ⟨i + 1, true, by have := HLT.out; have := HLEN.out; rw [wrap_id (by omega) (by omega)]; rfl, rfl, ⟨by have := HLT.out; omega, rfl, HN.out.symm⟩, ⟨pxb HBI⟩⟩
            · have k6 : (e.f0 == -1) = false := beq_eq_false_iff_ne.2 h0
              rw [decide_eq_false h0, Bool.false_or] at hbad
              have q2 : (0 ≤ e.f0) = True := eq_true (by omega)
              have q3 : (e.f0 < (N : Int)) = True := eq_true (by omega)
              obtain ⟨adF, haF, xF⟩ := Kd.at_bool HSET.out e.f0 (by omega) (by omega)
              cases haF
              rw [show rdOf false set e.f0 = bG set e.f0 from rfl] at xF
              have YF := Aside0.mk xF
              clear xF h0
              cases hb0 : bG set e.f0
              · clear YT; have YF := Aside0.mk (Eq.trans YF.out (by rw [hb0]) : w.cell? _ = some (.bool false)); rw [hb0] at hbad; clear hb0
                have HN := Aside0.mk (show (es.take (i + 1)).all (fun e => !badE set e) = true by rw [HTK, hbad]; rfl)
                clear HTK hbad hvk
                go_wp2_with (first | ((with_reducible refine gate_dst (N := 15) rfl ?_); refine box_event ?hg (N := 15) ?hd (cs := #[.int .i64 0, .int .i64 0, .int .i64 0, .int .i64 0]) (t := 41) ?hr ?_; (case hd => rfl); (case hg => rfl); (case hr => first | (go_simp; done) | (go_simp; rfl)); intro gx hg w7 hbox hb; have NWXB := Aside0.mk hbox; have GWXB := Aside0.mk ((by rw [hg]; exact (below_size (pxb HB)) : w.heap.size ≤ gx)); have GWHBIXB := Aside0.mk ((by rw [hg]; exact (below_size (pxb HBI))) : wE.heap.size ≤ gx); clear hg hbox; have n0_ := pxs HB hb; have nHBI_ := pxs HBI hb; clear HB HBI ; have HB := n0_; clear n0_; have HBI := nHBI_; clear nHBI_; have XB := NWXB; clear NWXB hb; obtain ⟨xXB0, xXB1, xXB2, xXB3, yXB0, yXB1, yXB2, yXB3⟩ := pxf4 XB; have xF := far4 (gx := gx) (v0 := .int .i64 e.f0) (v1 := .int .i64 e.f1) (v2 := .int .i64 e.f2) (v3 := .int .i64 e.f3) ((HB.out.cell (World.block_lt_of_cell? w _ YF.out)).trans YF.out) (pxo' YF.out GWXB)))
                go_roundg (es.length - (i + 1))
                case measure => have := HI.out; have := HLT.out; omega
                case rel => exact ⟨i + 1, true, by have := HLT.out; have := HLEN.out; rw [wrap_id (by omega) (by omega)]; rfl, rfl, ⟨by have := HLT.out; omega, rfl, HN.out.symm⟩, ⟨pxb HBI⟩⟩
              · have YF := Aside0.mk (Eq.trans YF.out (by rw [hb0]) : w.cell? _ = some (.bool true)); rw [hb0] at hbad; clear hb0
                cases hb1 : bG set e.f1
                · have YT := Aside0.mk (Eq.trans YT.out (by rw [hb1]) : w.cell? _ = some (.bool false)); rw [hb1] at hbad; clear hb1
                  have HN := Aside0.mk (show (es.take (i + 1)).all (fun e => !badE set e) = false by rw [HTK, hbad]; rfl)
                  clear HTK hbad hvk
                  go_wp2_with (first | ((with_reducible refine gate_dst (N := 15) rfl ?_); refine box_event ?hg (N := 15) ?hd (cs := #[.int .i64 0, .int .i64 0, .int .i64 0, .int .i64 0]) (t := 41) ?hr ?_; (case hd => rfl); (case hg => rfl); (case hr => first | (go_simp; done) | (go_simp; rfl)); intro gx hg w7 hbox hb; have NWXB := Aside0.mk hbox; have GWXB := Aside0.mk ((by rw [hg]; exact (below_size (pxb HB)) : w.heap.size ≤ gx)); have GWHBIXB := Aside0.mk ((by rw [hg]; exact (below_size (pxb HBI))) : wE.heap.size ≤ gx); clear hg hbox; have n0_ := pxs HB hb; have nHBI_ := pxs HBI hb; clear HB HBI ; have HB := n0_; clear n0_; have HBI := nHBI_; clear nHBI_; have XB := NWXB; clear NWXB hb; obtain ⟨xXB0, xXB1, xXB2, xXB3, yXB0, yXB1, yXB2, yXB3⟩ := pxf4 XB; have xF := far4 (gx := gx) (v0 := .int .i64 e.f0) (v1 := .int .i64 e.f1) (v2 := .int .i64 e.f2) (v3 := .int .i64 e.f3) ((HB.out.cell (World.block_lt_of_cell? w _ YF.out)).trans YF.out) (pxo' YF.out GWXB); have xT := far4 (gx := gx) (v0 := .int .i64 e.f0) (v1 := .int .i64 e.f1) (v2 := .int .i64 e.f2) (v3 := .int .i64 e.f3) ((HB.out.cell (World.block_lt_of_cell? w _ YT.out)).trans YT.out) (pxo' YT.out GWXB)))
                  go_roundg (es.length - (i + 1))
                  case measure => have := HI.out; have := HLT.out; omega
                  case rel => exact ⟨i + 1, false, by have := HLT.out; have := HLEN.out; rw [wrap_id (by omega) (by omega)]; rfl, rfl, ⟨by have := HLT.out; omega, rfl, HN.out.symm⟩, ⟨pxb HBI⟩⟩
                · have YT := Aside0.mk (Eq.trans YT.out (by rw [hb1]) : w.cell? _ = some (.bool true)); rw [hb1] at hbad; clear hb1
                  have HN := Aside0.mk (show (es.take (i + 1)).all (fun e => !badE set e) = true by rw [HTK, hbad]; rfl)
                  clear HTK hbad hvk
                  go_wp2_with (first | ((with_reducible refine gate_dst (N := 15) rfl ?_); refine box_event ?hg (N := 15) ?hd (cs := #[.int .i64 0, .int .i64 0, .int .i64 0, .int .i64 0]) (t := 41) ?hr ?_; (case hd => rfl); (case hg => rfl); (case hr => first | (go_simp; done) | (go_simp; rfl)); intro gx hg w7 hbox hb; have NWXB := Aside0.mk hbox; have GWXB := Aside0.mk ((by rw [hg]; exact (below_size (pxb HB)) : w.heap.size ≤ gx)); have GWHBIXB := Aside0.mk ((by rw [hg]; exact (below_size (pxb HBI))) : wE.heap.size ≤ gx); clear hg hbox; have n0_ := pxs HB hb; have nHBI_ := pxs HBI hb; clear HB HBI ; have HB := n0_; clear n0_; have HBI := nHBI_; clear nHBI_; have XB := NWXB; clear NWXB hb; obtain ⟨xXB0, xXB1, xXB2, xXB3, yXB0, yXB1, yXB2, yXB3⟩ := pxf4 XB; have xF := far4 (gx := gx) (v0 := .int .i64 e.f0) (v1 := .int .i64 e.f1) (v2 := .int .i64 e.f2) (v3 := .int .i64 e.f3) ((HB.out.cell (World.block_lt_of_cell? w _ YF.out)).trans YF.out) (pxo' YF.out GWXB); have xT := far4 (gx := gx) (v0 := .int .i64 e.f0) (v1 := .int .i64 e.f1) (v2 := .int .i64 e.f2) (v3 := .int .i64 e.f3) ((HB.out.cell (World.block_lt_of_cell? w _ YT.out)).trans YT.out) (pxo' YT.out GWXB)))
                  go_roundg (es.length - (i + 1))
                  case measure => have := HI.out; have := HLT.out; omega
                  case rel => exact ⟨i + 1, true, by have := HLT.out; have := HLEN.out; rw [wrap_id (by omega) (by omega)]; rfl, rfl, ⟨by have := HLT.out; omega, rfl, HN.out.symm⟩, ⟨pxb HBI⟩⟩
        · obtain rfl : es.length = i := by have := HI.out; omega
          have k4 : decide (es.length < es.length) = false := decide_eq_false (by omega)
          have k5 : decide ((es.length : Int) < (es.length : Int)) = false := decide_eq_false (by omega)
          have hrv : rightV N es set = b := by rw [HI.out.2.2, List.take_length]; unfold rightV; rw [decide_eq_true HL.out, Bool.true_and]
          have HRV := Aside0.mk hrv
          have hb := HBI.out
          have nHB_ := pxs HB hb; have nHG_ := G.moved HG hb; have nHE_ := Aside0.mk (Kd.C_below HE.out hb); have nHGOT_ := Aside0.mk (Kd.R_below HGOT.out hb); have nHWANT_ := Aside0.mk (Kd.R_below HWANT.out hb); clear HB hb HG HE HGOT HWANT; have HB := nHB_; clear nHB_; have HG := nHG_; clear nHG_; have HE := nHE_; clear nHE_; have HGOT := nHGOT_; clear nHGOT_; have HWANT := nHWANT_; clear nHWANT_
          clear hi HI HBI hrv
          obtain ⟨wF, rfl⟩ : ∃ wF, wF = wr := ⟨_, rfl⟩
          cases b
          · have tok_5 : True := trivial
            go_wp2_with (first | (clear tok_5; go_at_call 18; (with_reducible refine (right_set A2 c2 set N _ HG.out (Kd.C_below HSET.out (pxb HB)) HL.out).mono ?_); rintro e w8 ⟨rfl, hb⟩; rw [HRV.out]; have nHB_ := pxs HB hb; have nHG_ := G.moved HG hb; have nHE_ := Aside0.mk (Kd.C_below HE.out hb); have nHGOT_ := Aside0.mk (Kd.R_below HGOT.out hb); have nHWANT_ := Aside0.mk (Kd.R_below HWANT.out hb); clear HB hb HG HE HGOT HWANT; have HB := nHB_; clear nHB_; have HG := nHG_; clear nHG_; have HE := nHE_; clear nHE_; have HGOT := nHGOT_; clear nHGOT_; have HWANT := nHWANT_; clear nHWANT_))
            go_loopg [114] N (fun kq v114 w' => ∃ i : Nat, v114 = .int .i64 i ∧ Hid (i ≤ N ∧ kq = N - i) ∧ Aside0 (Below w8.heap.size w8 w'))
            case atStart => exact ⟨0, rfl, ⟨Nat.zero_le _, rfl⟩, ⟨Below.refl _ _⟩⟩
            case round =>
              obtain ⟨i, rfl, HI, HBI⟩ := hrel
              by_cases hi : i < N
              · have hlw := HLW.out
                have hl := HL.out
                obtain ⟨adG, haG, xG⟩ := Kd.at_bool (Kd.R_reads' HGOT.out).2.2 (i : Int) (by omega) (by omega)
                cases haG
                replace xG := (HBI.out.cell (World.block_lt_of_cell? _ _ xG)).trans xG
                obtain ⟨adS, haS, xS⟩ := Kd.at_bool (Kd.C_below HSET.out HB.out) (i : Int) (by omega) (by omega)
                cases haS
                replace xS := (HBI.out.cell (World.block_lt_of_cell? _ _ xS)).trans xS
                rw [Int.toNat_natCast] at xG xS
                rw [show rdOf false (comesL (wL N es (fun _ => false) (-1))) (i : Int) = bG (comesL (wL N es (fun _ => false) (-1))) (i : Int) from rfl] at xG
                rw [show rdOf false set (i : Int) = bG set (i : Int) from rfl] at xS
                have p3 : (0 ≤ (i : Int)) = True := eq_true (by omega)
                have p4 : ((i : Int) < (N : Int)) = True := eq_true (by omega)
                have p4' : (i < N) = True := eq_true (by omega)
                have k4 : decide (i < N) = true := decide_eq_true (by omega)
                have k5 : decide ((i : Int) < (N : Int)) = true := decide_eq_true (by omega)
                have HLT := Lib.hid hi
                clear hi hlw hl
                go_wp2; go_roundg (N - (i + 1)); (case measure => have := HI.out; have := HLT.out; omega); (case rel => exact ⟨i + 1, by have := HLT.out; have := HH.out.2; rw [wrap_id (by omega) (by omega)]; rfl, ⟨by have := HLT.out; omega, rfl⟩, ⟨pxb HBI⟩⟩)
              · obtain rfl : N = i := by have := HI.out; omega
                have k4 : decide (N < N) = false := decide_eq_false (by omega)
                have k5 : decide ((N : Int) < (N : Int)) = false := decide_eq_false (by omega)
                go_wp2
                go_ret
                exact ⟨rfl, below_step HB.out HBI.out⟩
          · have tok_5 : True := trivial
            go_wp2_with (first | (clear tok_5; go_at_call 18; (with_reducible refine (right_set A2 c2 set N _ HG.out (Kd.C_below HSET.out (pxb HB)) HL.out).mono ?_); rintro e w8 ⟨rfl, hb⟩; rw [HRV.out]; have nHB_ := pxs HB hb; have nHG_ := G.moved HG hb; have nHE_ := Aside0.mk (Kd.C_below HE.out hb); have nHGOT_ := Aside0.mk (Kd.R_below HGOT.out hb); have nHWANT_ := Aside0.mk (Kd.R_below HWANT.out hb); clear HB hb HG HE HGOT HWANT; have HB := nHB_; clear nHB_; have HG := nHG_; clear nHG_; have HE := nHE_; clear nHE_; have HGOT := nHGOT_; clear nHGOT_; have HWANT := nHWANT_; clear nHWANT_))
            go_loopg [114] N (fun kq v114 w' => ∃ i : Nat, v114 = .int .i64 i ∧ Hid (i ≤ N ∧ kq = N - i) ∧ Aside0 (Below w8.heap.size w8 w'))
            case atStart => exact ⟨0, rfl, ⟨Nat.zero_le _, rfl⟩, ⟨Below.refl _ _⟩⟩
            case round =>
              obtain ⟨i, rfl, HI, HBI⟩ := hrel
              by_cases hi : i < N
              · have hlw := HLW.out
                have hl := HL.out
                obtain ⟨adG, haG, xG⟩ := Kd.at_bool (Kd.R_reads' HGOT.out).2.2 (i : Int) (by omega) (by omega)
                cases haG
                replace xG := (HBI.out.cell (World.block_lt_of_cell? _ _ xG)).trans xG
                obtain ⟨adS, haS, xS⟩ := Kd.at_bool (Kd.C_below HSET.out HB.out) (i : Int) (by omega) (by omega)
                cases haS
                replace xS := (HBI.out.cell (World.block_lt_of_cell? _ _ xS)).trans xS
                rw [Int.toNat_natCast] at xG xS
                have hle : bG (comesL (wL N es (fun _ => false) (-1))) (i : Int) = true → bG set (i : Int) = true := HLS.out set HRV.out i hi
                rw [show rdOf false (comesL (wL N es (fun _ => false) (-1))) (i : Int) = bG (comesL (wL N es (fun _ => false) (-1))) (i : Int) from rfl] at xG
                rw [show rdOf false set (i : Int) = bG set (i : Int) from rfl] at xS
                have p3 : (0 ≤ (i : Int)) = True := eq_true (by omega)
                have p4 : ((i : Int) < (N : Int)) = True := eq_true (by omega)
                have p4' : (i < N) = True := eq_true (by omega)
                have k4 : decide (i < N) = true := decide_eq_true (by omega)
                have k5 : decide ((i : Int) < (N : Int)) = true := decide_eq_true (by omega)
                have HLT := Lib.hid hi
                clear hi hlw hl
                cases hgq : bG (comesL (wL N es (fun _ => false) (-1))) (i : Int)
                · rw [hgq] at xG; clear hle hgq xS
                  go_wp2; go_roundg (N - (i + 1)); (case measure => have := HI.out; have := HLT.out; omega); (case rel => exact ⟨i + 1, by have := HLT.out; have := HH.out.2; rw [wrap_id (by omega) (by omega)]; rfl, ⟨by have := HLT.out; omega, rfl⟩, ⟨pxb HBI⟩⟩)
                · rw [hgq] at xG; rw [hle hgq] at xS; clear hle hgq
                  go_wp2; go_roundg (N - (i + 1)); (case measure => have := HI.out; have := HLT.out; omega); (case rel => exact ⟨i + 1, by have := HLT.out; have := HH.out.2; rw [wrap_id (by omega) (by omega)]; rfl, ⟨by have := HLT.out; omega, rfl⟩, ⟨pxb HBI⟩⟩)
              · obtain rfl : N = i := by have := HI.out; omega
                have k4 : decide (N < N) = false := decide_eq_false (by omega)
                have k5 : decide ((N : Int) < (N : Int)) = false := decide_eq_false (by omega)
                go_wp2
                go_ret
                exact ⟨rfl, below_step HB.out HBI.out⟩
theorem least_any (nodes : Int) (A1 : Option Addr) (c1 : Nat) (l : List S29) (A2 : Option Addr) (c2 : Nat) (set : List Bool) (w : World) (hC : Kd.C k29 w A1 l.length l) (hS : Kd.C Kd.bool w A2 set.length set) : Calls Try.prog 4 #[.int .i64 nodes, .slice A1 l.length c1, .slice A2 set.length c2] w fun e w' => e = .returned (.bool true) ∧ Below w.heap.size w w' := by
  by_cases h : nodes < 0 ∨ 60 < nodes ∨ 150 < l.length
  · exact least_refused nodes A1 c1 l A2 c2 set w h
  · obtain ⟨N, rfl⟩ : ∃ N : Nat, nodes = (N : Int) := ⟨nodes.toNat, by omega⟩
    by_cases hz : N = 0 <;> by_cases hl : set.length = N
    · have h1 := least_zero_same N A1 c1 l A2 c2 set w (by omega) (by omega) hC hS hz hl
      rw [← hl] at h1 ⊢
      exact h1
    · exact least_zero_len N A1 c1 l A2 c2 set w (by omega) (by omega) hC hS hz hl
    · have h1 := least_pos_same N A1 c1 l A2 c2 set w (by omega) (by omega) hC hS hz hl
      rw [← hl] at h1 ⊢
      exact h1
    · exact least_pos_len N A1 c1 l A2 c2 set w (by omega) (by omega) hC hS hz hl
end Go.Proofs.Ytefgfnhhoidbdaa.GrW
