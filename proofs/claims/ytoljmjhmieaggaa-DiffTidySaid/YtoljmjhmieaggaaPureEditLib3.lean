/- Edits of the theory as the program's, and that a check lets them by; under the sizes named. -/
import Derived.Test.YtoljmjhmieaggaaPureEditLib2
namespace Go.Proofs.Ytoljmjhmieaggaa.Pure
open Go.RowKit Go.Proofs.Ytoljmjhmieaggaa.X Go.Proofs.YtoljmjhmieaggaaW.PrintWords Go.Proofs.YtoljmjhmieaggaaW.PrintLast Go.Proofs.Ytoljmjhmieaggaa.Ed
set_option linter.unusedVariables false

theorem ordB_of_val {n : Nat} : ∀ {l : List E} {at_ : Nat}, Val n at_ l → ordB (l.map ofE) = true
  | [], _, _ => rfl
  | x :: l, at_, h => by
    obtain ⟨h1, h2, h3, h4⟩ := h
    rw [List.map_cons, ordB, ordB_of_val h4, Bool.and_true]
    cases l with
    | nil => rfl
    | cons y l =>
      have := h4.1
      simp only [List.map_cons, ordH, ofE]
      simp
      omega
theorem chk1_of_val {n : Nat} (hn : n ≤ 65536) : ∀ {l : List E} {at_ : Nat}, Val n at_ l → (∀ x ∈ l, x.t.length ≤ 65536) → chk1 (n : Int) (l.map ofE) = 0
  | [], _, _, _ => rfl
  | x :: l, at_, h, ht => by
    obtain ⟨h1, h2, h3, h4⟩ := h
    have ih := chk1_of_val hn h4 (fun y hy => ht y (List.mem_cons_of_mem _ hy))
    have hx := ht x List.mem_cons_self
    have es : (ofE x).f1.size = x.t.length := by simp [ofE, ByteArray.size]
    rw [List.map_cons, chk1, if_neg (by rw [es]; omega), if_pos (okE_iff.2 ⟨by simp [ofE], by simp [ofE]; omega, by simp [ofE]; omega, by omega⟩), ih]
theorem map_toE_ofE (l : List E) : (l.map ofE).map toE = l := by
  rw [List.map_map]
  conv => rhs; rw [← List.map_id l]
  apply List.map_congr_left
  intro x _
  exact toE_ofE x
theorem map_ofE_toE {l : List S41} (h : ∀ x ∈ l, 0 ≤ x.f0.f0 ∧ x.f0.f0 ≤ x.f0.f1) : (l.map toE).map ofE = l := by
  rw [List.map_map]
  conv => rhs; rw [← List.map_id l]
  apply List.map_congr_left
  intro x hx
  have := h x hx
  exact ofE_toE this.1 (by omega)
theorem chkV_of_val {n : Nat} (hn : n ≤ 65536) {l : List E} (hl : l.length ≤ 4096) (h : Val n 0 l) (ht : ∀ x ∈ l, x.t.length ≤ 65536) : chkV (n : Int) (l.map ofE) = 0 := by
  unfold chkV chk2
  rw [if_neg (by rw [List.length_map]; omega), if_pos (chk1_of_val hn h ht), if_pos (ordB_of_val h)]
theorem inv_small (s : List UInt8) (hs : s.length ≤ 65536) : ∀ (l : List E) (at_ at' : Nat), ∀ x ∈ inv s at_ at' l, x.t.length ≤ 65536
  | [], _, _, x, hx => by simp [inv] at hx
  | y :: l, at_, at', x, hx => by
    rw [inv] at hx
    rcases List.mem_cons.1 hx with rfl | hx
    · simp only [List.length_take, List.length_drop]
      omega
    · exact inv_small s hs l _ _ x hx
end Go.Proofs.Ytoljmjhmieaggaa.Pure
