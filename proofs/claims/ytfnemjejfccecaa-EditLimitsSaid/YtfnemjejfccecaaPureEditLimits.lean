/- As many edits as may be are made, and one more isn't; a text grows up to the most, as the statement EditLimits says; every input. -/
import Derived.Test.YtfnemjejfccecaaPureEditLib2
import Derived.Test.YtfnemjejfccecaaX11
namespace Go.Proofs.Ytfnemjejfccecaa.Pure
open Go.RowKit Go.Proofs.Ytfnemjejfccecaa.X Go.Proofs.YtfnemjejfccecaaW.PrintWords Go.Proofs.YtfnemjejfccecaaW.PrintLast Go.Proofs.Ytfnemjejfccecaa.Ed
set_option linter.unusedVariables false

theorem nums_size (l : List Int) : (strOfNums l).size = l.length := by
  simp [strOfNums, ByteArray.size]
def ones : Nat → List S60
  | 0 => []
  | n + 1 => ones n ++ [⟨⟨n, n⟩, ⟨#[120]⟩⟩]
theorem ones_length : ∀ n, (ones n).length = n
  | 0 => rfl
  | n + 1 => by rw [ones, List.length_append, ones_length n]; rfl
theorem ones_get {n i : Nat} (h : i < (ones n).length) : (ones n)[i] = ⟨⟨i, i⟩, ⟨#[120]⟩⟩ := by
  induction n with
  | zero => simp [ones] at h
  | succ n ih =>
    have hn := ones_length n
    simp only [ones] at h ⊢
    by_cases hi : i < (ones n).length
    · rw [List.getElem_append_left hi]
      exact ih hi
    · rw [List.length_append, hn] at h
      have e : i = n := by simp at h; omega
      subst e
      rw [List.getElem_append_right (by omega)]
      simp [hn]
theorem ones_mem {n : Nat} {x : S60} (h : x ∈ ones n) : ∃ i : Nat, i < n ∧ x = ⟨⟨i, i⟩, ⟨#[120]⟩⟩ := by
  obtain ⟨i, hi, rfl⟩ := List.mem_iff_getElem.1 h
  exact ⟨i, by rw [ones_length] at hi; exact hi, ones_get hi⟩
theorem ordB_iff : ∀ {l : List S60}, (∀ (i : Nat) (h : i + 1 < l.length), l[i].f0.f1 ≤ l[i + 1].f0.f0) → ordB l = true
  | [], _ => rfl
  | [x], _ => rfl
  | x :: y :: l, h => by
    have h0 := h 0 (by simp)
    have ih := ordB_iff (l := y :: l) (fun i hi => h (i + 1) (by simpa using hi))
    rw [ordB, ih, ordH]
    simpa using h0
theorem chk1_iff {n : Int} : ∀ {l : List S60}, (∀ x ∈ l, okE n x = true ∧ (x.f1.size : Int) ≤ 65536) → chk1 n l = 0
  | [], _ => rfl
  | x :: l, h => by
    have hx := h x List.mem_cons_self
    rw [chk1, if_neg (by omega), if_pos hx.1, chk1_iff (fun y hy => h y (List.mem_cons_of_mem _ hy))]
theorem ones_chk {n : Nat} (h : n ≤ 4096) : chkV 5000 (ones n) = 0 := by
  have hl := ones_length n
  have hA : chk1 5000 (ones n) = 0 := chk1_iff (fun x hx => by
    obtain ⟨i, hi, rfl⟩ := ones_mem hx
    exact ⟨okE_iff.2 ⟨by simp, by simp, by simp; omega, by omega⟩, (show (((⟨#[120]⟩ : ByteArray).size : Nat) : Int) ≤ 65536 by decide)⟩)
  have hB : ordB (ones n) = true := ordB_iff (fun i hi => by
    rw [ones_get (by omega), ones_get hi]
    simp
    omega)
  unfold chkV chk2
  rw [if_neg (by omega), if_pos hA, if_pos hB]
theorem ones_grow : ∀ n : Nat, growI (ones n) = n
  | 0 => rfl
  | n + 1 => by
    have ga : ∀ l m : List S60, growI (l ++ m) = growI l + growI m := by
      intro l
      induction l with
      | nil => intro m; simp [growI]
      | cons x l ih => intro m; rw [List.cons_append, growI, growI, ih]; omega
    rw [ones, ga, ones_grow n]
    have : growI [⟨⟨(n : Int), n⟩, ⟨#[120]⟩⟩] = 1 := by
      simp only [growI]
      have : (⟨#[120]⟩ : ByteArray).size = 1 := by decide
      rw [this]
      omega
    rw [this]
    omega
theorem limits_j3 (s : ByteArray) (hs : s.size = 5000) (m : Int) (h0 : 0 ≤ m) (h1 : m ≤ 70000) : Ev (fun k => caulkerlaw03_EditLimits.j3 k m s false) true := by
  refine Ev.step (fun k => by rw [caulkerlaw03_EditLimits.j3]) (Ev.neg (by decide) (Ev.pos h0 (Ev.pos (by omega) ?_)))
  refine Ev.bind (apply_any _ _ (by simp)) ?_
  have hsz : (strOfNums (List.replicate m.toNat 0)).size = m.toNat := by rw [nums_size, List.length_replicate]
  generalize strOfNums (List.replicate m.toNat 0) = T at hsz ⊢
  have e1 : chkV (s.size : Int) [⟨⟨0, 0⟩, T⟩] = if m > 65536 then 2 else 0 := by
    have hc : chk1 5000 [⟨⟨0, 0⟩, T⟩] = if m > 65536 then 2 else 0 := by
      by_cases h : m > 65536
      · rw [if_pos h, chk1, if_pos (by show (T.size : Int) > 65536; omega)]
      · rw [if_neg h, chk1, if_neg (by show ¬ (T.size : Int) > 65536; omega), if_pos (okE_iff.2 ⟨by simp, by simp, by simp, by simp⟩), chk1]
    unfold chkV chk2
    rw [if_neg (by simp), hs]
    show (if chk1 5000 [⟨⟨0, 0⟩, T⟩] = 0 then (if ordB [⟨⟨0, 0⟩, T⟩] = true then 0 else 7) else chk1 5000 [⟨⟨0, 0⟩, T⟩]) = _
    rw [hc]
    by_cases h : m > 65536
    · rw [if_pos h, if_neg (by decide)]
    · rw [if_neg h, if_pos rfl]
      rfl
  have e2 : growI [⟨⟨0, 0⟩, T⟩] = m := by
    simp only [growI]
    omega
  by_cases h : m > 60536
  · have e3 : applyV s [⟨⟨0, 0⟩, T⟩] = (⟨#[]⟩, 2) := by
      unfold applyV
      rw [if_neg (by omega), e1]
      by_cases h2 : m > 65536
      · rw [if_pos h2, if_neg (by decide)]
      · rw [if_neg h2, if_pos rfl, e2, if_pos (by omega)]
    rw [e3]
    refine Ev.pos h (Ev.pos rfl (Ev.cast (Ev.now _) (by decide +kernel)))
  · have hch : chkV (s.size : Int) [⟨⟨0, 0⟩, T⟩] = 0 := by rw [e1, if_neg (by omega)]
    have hP := pass_of hch
    have hv : Val s.data.toList.length 0 ([⟨⟨0, 0⟩, T⟩].map toE) := by rw [← ba_size]; exact hP.val
    have hal := app_length hv
    have hgi := growI_eq hP.ok
    have e3 : applyV s [⟨⟨0, 0⟩, T⟩] = (⟨(app s.data.toList 0 ([⟨⟨0, 0⟩, T⟩].map toE)).toArray⟩, 0) := by
      unfold applyV
      rw [if_neg (by omega), if_pos hch, e2, if_neg (by omega)]
    rw [e3]
    refine Ev.neg h (Ev.pos rfl (Ev.cast (Ev.now _) ?_))
    rw [e2] at hgi
    rw [← ba_size] at hal
    have e4 : (⟨(app s.data.toList 0 ([⟨⟨0, 0⟩, T⟩].map toE)).toArray⟩ : ByteArray).size = (app s.data.toList 0 ([⟨⟨0, 0⟩, T⟩].map toE)).length := by simp [ByteArray.size]
    rw [e4, wrap_id (by omega) (by omega)]
    simp only [beq_iff_eq]
    omega
theorem limits_j2 (s : ByteArray) (hs : s.size = 5000) (n : Nat) (m : Int) (hn : n ≤ 4200) (h0 : 0 ≤ m) (h1 : m ≤ 70000) : Ev (fun k => caulkerlaw03_EditLimits.j2 k (n : Int) m s (ones n) (if (n : Int) > 4096 then 2 else 0)) true := by
  have hl := ones_length n
  refine Ev.step (fun k => by rw [caulkerlaw03_EditLimits.j2]) (Ev.bind (apply_any _ _ (by omega)) ?_)
  by_cases h : (n : Int) > 4096
  · have e3 : applyV s (ones n) = (⟨#[]⟩, 2) := by
      have : chkV (s.size : Int) (ones n) = 2 := by unfold chkV; rw [if_pos (by omega)]
      unfold applyV
      rw [if_neg (by omega), this, if_neg (by decide)]
    rw [e3, if_pos h]
    exact Ev.pos rfl (Ev.neg (by decide) (limits_j3 s hs m h0 h1))
  · have hch : chkV (s.size : Int) (ones n) = 0 := by rw [hs]; exact ones_chk (by omega)
    have hP := pass_of hch
    have hv : Val s.data.toList.length 0 ((ones n).map toE) := by rw [← ba_size]; exact hP.val
    have hal := app_length hv
    have hgi := growI_eq hP.ok
    have hg := ones_grow n
    have e3 : applyV s (ones n) = (⟨(app s.data.toList 0 ((ones n).map toE)).toArray⟩, 0) := by
      unfold applyV
      rw [if_neg (by omega), if_pos hch, if_neg (by omega)]
    rw [e3, if_neg h]
    refine Ev.pos rfl (Ev.pos rfl ?_)
    rw [← ba_size] at hal
    have e4 : (⟨(app s.data.toList 0 ((ones n).map toE)).toArray⟩ : ByteArray).size = (app s.data.toList 0 ((ones n).map toE)).length := by simp [ByteArray.size]
    have e5 : (((⟨(app s.data.toList 0 ((ones n).map toE)).toArray⟩ : ByteArray).size : Int) != wrap64 (5000 + (n : Int))) = false := by
      rw [e4, wrap_id (by omega) (by omega)]
      simp only [bne_eq_false_iff_eq]
      omega
    rw [e5]
    exact limits_j3 s hs m h0 h1
theorem limits_l0 (s : ByteArray) (hs : s.size = 5000) (n : Nat) (m : Int) (hn : n ≤ 4200) (h0 : 0 ≤ m) (h1 : m ≤ 70000) : ∀ (d i : Nat), n - i = d → i ≤ n → Ev (fun k => caulkerlaw03_EditLimits.l0 k (n : Int) m s (ones i) (n : Int) (i : Int)) true := by
  intro d
  induction d with
  | zero =>
    intro i h2 h3
    have : i = n := by omega
    subst this
    refine Ev.step (fun k => by rw [caulkerlaw03_EditLimits.l0]) (Ev.neg (by omega) ?_)
    have := limits_j2 s hs i m hn h0 h1
    by_cases h : (i : Int) > 4096
    · rw [if_pos h] at this
      exact Ev.pos h this
    · rw [if_neg h] at this
      exact Ev.neg h this
  | succ d ih =>
    intro i h2 h3
    have hl := ones_length i
    refine Ev.step (fun k => by rw [caulkerlaw03_EditLimits.l0]) (Ev.pos (by omega) (Ev.pos (by omega) ?_))
    rw [wrap_id (by omega) (by omega)]
    exact ih (i + 1) (by omega) (by omega)
theorem EditLimits : caulkerlaw03_EditLimits.Pure := by
  intro n m w0 w1
  apply Ev.rounds
  unfold caulkerlaw03_EditLimits.f
  refine Ev.bind edits_any (Ev.pos rfl ?_)
  have out : Ev (fun k => caulkerlaw03_EditLimits.j0 k n m true) true := by
    refine Ev.step (fun k => by rw [caulkerlaw03_EditLimits.j0]) ?_
    exact Ev.pos rfl (Ev.now _)
  by_cases a : n < 0
  · exact Ev.pos a out
  · by_cases b : n > 4200
    · exact Ev.neg a (Ev.pos b out)
    · by_cases c : m < 0
      · exact Ev.neg a (Ev.neg b (Ev.pos c out))
      · refine Ev.neg a (Ev.neg b (Ev.neg c ?_))
        by_cases e : m > 70000
        · rw [show decide (m > 70000) = true by simp; omega]
          exact out
        · rw [show decide (m > 70000) = false by simp; omega]
          refine Ev.step (fun k => by rw [caulkerlaw03_EditLimits.j0]) (Ev.neg (by decide) (Ev.pos (by decide) ?_))
          obtain ⟨n', rfl⟩ := Int.eq_ofNat_of_zero_le (show 0 ≤ n by omega)
          exact limits_l0 _ (by rw [nums_size, List.length_replicate]) n' m (by omega) (by omega) (by omega) _ 0 rfl (by omega)
end Go.Proofs.Ytfnemjejfccecaa.Pure
