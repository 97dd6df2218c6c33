/- Edits that are taken back make the text that was, and taken back twice are the same, as the statement EditInverts says; every input. -/
import Derived.Test.YtfnemjejfccecaaPureEditLib2
import Derived.Test.YtfnemjejfccecaaX10
namespace Go.Proofs.Ytfnemjejfccecaa.Pure
open Go.RowKit Go.Proofs.Ytfnemjejfccecaa.X Go.Proofs.YtfnemjejfccecaaW.PrintWords Go.Proofs.YtfnemjejfccecaaW.PrintLast Go.Proofs.Ytfnemjejfccecaa.Ed
set_option linter.unusedVariables false

theorem ordB_of_val {n : Nat} : ∀ {l : List E} {at_ : Nat}, Val n at_ l → ordB (l.map ofE) = true
  | [], _, _ => rfl
  | x :: l, at_, h => by
    obtain ⟨h1, h2, h3, h4⟩ := h
    rw [List.map_cons, ordB, ordB_of_val h4, Bool.and_true]
    cases l with
    | nil => rfl
    | cons y l =>
      have := h4.1
      simp only [List.map_cons, ordH, ofE]
      simp
      omega
theorem chk1_of_val {n : Nat} (hn : n ≤ 65536) : ∀ {l : List E} {at_ : Nat}, Val n at_ l → (∀ x ∈ l, x.t.length ≤ 65536) → chk1 (n : Int) (l.map ofE) = 0
  | [], _, _, _ => rfl
  | x :: l, at_, h, ht => by
    obtain ⟨h1, h2, h3, h4⟩ := h
    have ih := chk1_of_val hn h4 (fun y hy => ht y (List.mem_cons_of_mem _ hy))
    have hx := ht x List.mem_cons_self
    have es : (ofE x).f1.size = x.t.length := by simp [ofE, ByteArray.size]
    rw [List.map_cons, chk1, if_neg (by rw [es]; omega), if_pos (okE_iff.2 ⟨by simp [ofE], by simp [ofE]; omega, by simp [ofE]; omega, by omega⟩), ih]
theorem map_toE_ofE (l : List E) : (l.map ofE).map toE = l := by
  rw [List.map_map]
  conv => rhs; rw [← List.map_id l]
  apply List.map_congr_left
  intro x _
  exact toE_ofE x
theorem map_ofE_toE {l : List S60} (h : ∀ x ∈ l, 0 ≤ x.f0.f0 ∧ x.f0.f0 ≤ x.f0.f1) : (l.map toE).map ofE = l := by
  rw [List.map_map]
  conv => rhs; rw [← List.map_id l]
  apply List.map_congr_left
  intro x hx
  have := h x hx
  exact ofE_toE this.1 (by omega)
theorem chkV_of_val {n : Nat} (hn : n ≤ 65536) {l : List E} (hl : l.length ≤ 4096) (h : Val n 0 l) (ht : ∀ x ∈ l, x.t.length ≤ 65536) : chkV (n : Int) (l.map ofE) = 0 := by
  unfold chkV chk2
  rw [if_neg (by rw [List.length_map]; omega), if_pos (chk1_of_val hn h ht), if_pos (ordB_of_val h)]
theorem inv_small (s : List UInt8) (hs : s.length ≤ 65536) : ∀ (l : List E) (at_ at' : Nat), ∀ x ∈ inv s at_ at' l, x.t.length ≤ 65536
  | [], _, _, x, hx => by simp [inv] at hx
  | y :: l, at_, at', x, hx => by
    rw [inv] at hx
    rcases List.mem_cons.1 hx with rfl | hx
    · simp only [List.length_take, List.length_drop]
      omega
    · exact inv_small s hs l _ _ x hx
theorem same_from (x1 x7 l : List S60) (r : Bool) (hlen : l.length ≤ 9223372036854775807) (heq : x1 = l) (hk : Ev (fun k => (edit_Cost.f k x7).bind fun t361 => (edit_Cost.f k x1).bind fun t362 => some (t361 == t362)) r) : ∀ (d i : Nat), l.length - i = d → i ≤ l.length →
    Ev (fun k => caulkerlaw03_EditInverts.l0 k x1 x7 l (l.length : Int) (i : Int)) r := by
  subst heq
  intro d
  induction d with
  | zero =>
    intro i h1 h2
    refine Ev.step (fun k => by rw [caulkerlaw03_EditInverts.l0]) (Ev.neg (by omega) hk)
  | succ d ih =>
    intro i h1 h2
    have hi : i < x1.length := by omega
    refine Ev.step (fun k => by rw [caulkerlaw03_EditInverts.l0]) (Ev.pos (by omega) (Ev.pos (by omega) (Ev.pos (by omega) (Ev.pos (by omega) ?_))))
    rw [wrap_succ hi hlen]
    exact Ev.neg (by simp) (ih (i + 1) (by omega) (by omega))
theorem EditInverts : caulkerlaw03_EditInverts.Pure := by
  intro s l h1 h2 h3 hg
  apply Ev.rounds
  unfold caulkerlaw03_EditInverts.f
  refine Ev.bind edits_any (Ev.pos rfl (Ev.bind (small_any s l) ?_))
  refine Ev.ite (fun _ => ?_) (fun _ => Ev.now _)
  refine Ev.bind (ref_apply_any s l h2) (Ev.bind (invert_any s l h2) ?_)
  by_cases h : (applyV s l).2 = 0
  · refine Ev.pos h ?_
    obtain ⟨hs, hP, hgr, ha⟩ := applied h
    have ei : invertV s l = ((inv s.data.toList 0 0 (l.map toE)).map ofE, 0) := by unfold invertV; rw [if_pos h]
    have hv : Val s.data.toList.length 0 (l.map toE) := by rw [← ba_size]; exact hP.val
    have hal := app_length hv
    have hgi := growI_eq hP.ok
    have esz : s.data.toList.length = s.size := (ba_size s).symm
    rw [ei, ha]
    have hnl : (⟨(app s.data.toList 0 (l.map toE)).toArray⟩ : ByteArray).data.toList = app s.data.toList 0 (l.map toE) := rfl
    have hns : (⟨(app s.data.toList 0 (l.map toE)).toArray⟩ : ByteArray).size = (app s.data.toList 0 (l.map toE)).length := by rw [ba_size, hnl]
    generalize hS : (⟨(app s.data.toList 0 (l.map toE)).toArray⟩ : ByteArray) = S at hnl hns ⊢
    have hSle : S.size ≤ 65536 := by rw [hns]; omega
    have hiv : Val S.size 0 (inv s.data.toList 0 0 (l.map toE)) := inv_val hv (by rw [hns]; omega)
    have hch : chkV (S.size : Int) ((inv s.data.toList 0 0 (l.map toE)).map ofE) = 0 := chkV_of_val hSle (by rw [inv_length, List.length_map]; exact hP.len) hiv (inv_small _ (by omega) _ _ _)
    have hP2 := pass_of hch
    have hgi2 := growI_eq hP2.ok
    rw [map_toE_ofE, inv_puts hv, inv_takes] at hgi2
    have hback : applyV S ((inv s.data.toList 0 0 (l.map toE)).map ofE) = (s, 0) := by
      unfold applyV
      rw [if_neg (by omega), if_pos hch, if_neg (by rw [hgi2, hns]; omega), map_toE_ofE, hnl]
      have := app_inv [] hv
      rw [List.nil_append, List.length_nil, List.drop_zero] at this
      rw [this, toArray_data]
    have hback2 : invertV S ((inv s.data.toList 0 0 (l.map toE)).map ofE) = (l, 0) := by
      unfold invertV
      rw [hback, if_pos rfl, map_toE_ofE, hnl]
      have := inv_inv [] hv
      rw [List.nil_append, List.length_nil] at this
      rw [this, map_ofE_toE (fun x hx => ⟨(hP.ok x hx).1, (hP.ok x hx).2.1⟩)]
    have hL : ((inv s.data.toList 0 0 (l.map toE)).map ofE).length ≤ 9223372036854775807 := by rw [List.length_map, inv_length, List.length_map]; exact h2
    refine Ev.bind (apply_any _ _ hL) (Ev.bind (invert_any _ _ hL) ?_)
    rw [hback, hback2]
    refine Ev.pos (show wrap64 (wrap64 (0 + 0) + 0) = 0 by decide +kernel) (Ev.pos rfl ?_)
    simp only [bne_self_eq_false]
    refine Ev.step (fun k => by rw [caulkerlaw03_EditInverts.j0]) (Ev.neg (by decide) ?_)
    refine same_from l _ l true h2 rfl ?_ _ 0 rfl (by omega)
    refine Ev.bind (cost_any hP2) (Ev.bind (cost_any hP) (Ev.cast (Ev.now _) ?_))
    rw [map_toE_ofE, inv_puts hv, inv_takes, Nat.add_comm]
    simp
  · refine Ev.neg h ?_
    have ei : invertV s l = ([], (applyV s l).2) := by unfold invertV; rw [if_neg h]
    rw [ei]
    exact Ev.pos rfl (Ev.now _)
end Go.Proofs.Ytfnemjejfccecaa.Pure
