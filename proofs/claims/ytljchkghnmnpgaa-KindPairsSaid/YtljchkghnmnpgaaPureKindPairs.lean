/- Of any two types: whether they are the same but for their marks, or but for the last ones, and whether one has fewer, as the statement KindPairs says; every input. -/
import Derived.Test.YtljchkghnmnpgaaX3
import Derived.Test.YtljchkghnmnpgaaPureKindSorts
import Derived.Test.YtljchkghnmnpgaaPureKindBytes
namespace Go.Proofs.Ytljchkghnmnpgaa.Pure
open Go.RowKit Go.Proofs.Ytljchkghnmnpgaa.X Go.Proofs.YtljchkghnmnpgaaW.PrintWords Go.Proofs.YtljchkghnmnpgaaW.PrintLast
def insFrom (m1 m2 : ByteArray) : Nat → Nat → Bool
 | 0, _ => true
 | n + 1, i => (bt m1 (i : Int) == bt m2 (i : Int) || decide (i + 1 = m1.size)) && insFrom m1 m2 n (i + 1)
theorem insFrom_iff (m1 m2 : ByteArray) : ∀ n i, insFrom m1 m2 n i = true ↔ ∀ j, i ≤ j → j < i + n → bt m1 (j : Int) = bt m2 (j : Int) ∨ j + 1 = m1.size
  | 0, i => by simp only [insFrom, true_iff]; intro j h1 h2; omega
  | n + 1, i => by
    rw [insFrom, Bool.and_eq_true, insFrom_iff m1 m2 n (i + 1), Bool.or_eq_true, beq_iff_eq, decide_eq_true_iff]
    constructor
    · intro ⟨h1, h2⟩ j hj hk
      rcases Nat.eq_or_lt_of_le hj with rfl | h
      · exact h1
      · exact h2 j h (by omega)
    · intro h
      exact ⟨h i (Nat.le_refl _) (by omega), fun j hj hk => h j (by omega) (by omega)⟩
section
variable (b1 : Int) (n1 : ByteArray) (d1 : Int) (m1 : ByteArray) (b2 : Int) (n2 : ByteArray) (d2 : Int) (m2 : ByteArray) (hn1 : n1.size ≤ 1000000) (hm1 : m1.size ≤ 1000000) (hn2 : n2.size ≤ 1000000) (hm2 : m2.size ≤ 1000000)
include hn1 hm1 hn2 hm2
theorem pairs_loop (a : Bool) (he : a = true → m1.size = m2.size) (hA : A b1 n1 d1 m1 b2 n2 d2 m2 = a) : ∀ (n i : Nat) (x y : Bool), i + n = m1.size →
    I b1 n1 d1 m1 b2 n2 d2 m2 = (x && (!a || insFrom m1 m2 n i)) → L b1 n1 d1 m1 b2 n2 d2 m2 = (y && (!a || lessFrom m1 m2 n i)) →
    Ev (fun k => caulkerlaw10_KindPairs.l0 k a x y (m1.size : Int) (i : Int) b1 n1 d1 m1 b2 n2 d2 m2) true
  | 0, i, x, y, h, hI, hL => by
    rw [insFrom, Bool.or_true, Bool.and_true] at hI
    rw [lessFrom, Bool.or_true, Bool.and_true] at hL
    have a_ := alike_ev b1 n1 d1 m1 b2 n2 d2 m2 hn1 hm1 hn2 hm2
    have i_ := inside_ev b1 n1 d1 m1 b2 n2 d2 m2 hn1 hm1 hn2 hm2
    have l_ := less_ev b1 n1 d1 m1 b2 n2 d2 m2 hn1 hm1 hn2 hm2
    rw [hA] at a_
    rw [hI] at i_
    rw [hL] at l_
    refine Ev.step (fun k => by rw [caulkerlaw10_KindPairs.l0]) (Ev.neg (by omega) ?_)
    exact Ev.bind a_ (Ev.pos (beq_self_eq_true _) (Ev.bind i_ (Ev.pos (beq_self_eq_true _) (Ev.bind l_ (Ev.cast (Ev.now_ _) (beq_self_eq_true _))))))
  | n + 1, i, x, y, h, hI, hL => by
    have hw : wrap64 ((i : Int) + 1) = ((i + 1 : Nat) : Int) := wrap_succ (n := m1.size) (by omega) (by omega)
    have ih := fun x y => pairs_loop a he hA n (i + 1) x y (by omega)
    rw [← hw] at ih
    refine Ev.step (fun k => by rw [caulkerlaw10_KindPairs.l0]) (Ev.pos (by omega) ?_)
    cases a with
    | false =>
      exact Ev.neg (by simp) (ih x y (by simpa using hI) (by simpa using hL))
    | true =>
      have hs := he rfl
      refine Ev.pos rfl (Ev.pos (by omega) (Ev.pos (by omega) (Ev.pos (by omega) ?_)))
      rw [insFrom] at hI
      rw [lessFrom] at hL
      simp only [Bool.not_true, Bool.false_or] at ih hI hL
      have e1 : wrap64 ((m1.size : Int) - 1) = (m1.size : Int) - 1 := wrap_id (by omega) (by omega)
      have e2 : ((i : Int) == (m1.size : Int) - 1) = decide (i + 1 = m1.size) := by
        rw [Bool.eq_iff_iff, beq_iff_eq, decide_eq_true_iff]
        omega
      rw [e1, e2]
      refine Ev.ite (fun h1 => ?_) (fun h1 => ?_)
      · have e3 : (bt m1 (i : Int) == bt m2 (i : Int)) = true := by simpa using h1
        rw [e3, Bool.true_or, Bool.true_and] at hI hL
        exact ih x y hI hL
      · have e3 : (bt m1 (i : Int) == bt m2 (i : Int)) = false := by simpa using h1
        rw [e3, Bool.false_or] at hI hL
        cases x <;> cases y
        · exact Ev.neg (by simp) (Ev.neg (by simp) (ih false false (by simpa only [Bool.false_and] using hI) (by simpa only [Bool.false_and] using hL)))
        · exact Ev.neg (by simp) (Ev.pos rfl (ih false _ (by simpa only [Bool.false_and] using hI) (by simpa only [Bool.true_and] using hL)))
        · exact Ev.pos rfl (Ev.neg (by simp) (ih _ false (by simpa only [Bool.true_and] using hI) (by simpa only [Bool.false_and] using hL)))
        · exact Ev.pos rfl (Ev.pos rfl (ih _ _ (by simpa only [Bool.true_and] using hI) (by simpa only [Bool.true_and] using hL)))
theorem pairs_no (h : ¬ (R b1 n1 d1 m1 = true ∧ R b2 n2 d2 m2 = true)) : Ev (fun k => caulkerlaw10_KindPairs.j0 k true b1 n1 d1 m1 b2 n2 d2 m2) true := by
  have hA : A b1 n1 d1 m1 b2 n2 d2 m2 = false := by
    cases e : A b1 n1 d1 m1 b2 n2 d2 m2 with
    | false => rfl
    | true => exact absurd ⟨(A_at.1 e).1, (A_at.1 e).2.1⟩ h
  have a := alike_ev b1 n1 d1 m1 b2 n2 d2 m2 hn1 hm1 hn2 hm2
  have i := inside_ev b1 n1 d1 m1 b2 n2 d2 m2 hn1 hm1 hn2 hm2
  have l := less_ev b1 n1 d1 m1 b2 n2 d2 m2 hn1 hm1 hn2 hm2
  rw [hA] at a
  rw [I, hA, Bool.false_and] at i
  rw [L, hA, Bool.false_and] at l
  refine Ev.step (fun k => by rw [caulkerlaw10_KindPairs.j0]) ?_
  exact Ev.pos rfl (Ev.bind a (Ev.neg (by simp) (Ev.bind i (Ev.neg (by simp) (Ev.bind l (Ev.now_ _))))))
theorem pairs_yes (h1 : R b1 n1 d1 m1 = true) (h2 : R b2 n2 d2 m2 = true) : Ev (fun k => caulkerlaw10_KindPairs.j0 k false b1 n1 d1 m1 b2 n2 d2 m2) true := by
  have s1 := R_size h1
  have s2 := R_size h2
  have go : ∀ a, a = A b1 n1 d1 m1 b2 n2 d2 m2 → Ev (fun k => caulkerlaw10_KindPairs.j1 k a b1 n1 d1 m1 b2 n2 d2 m2) true := by
    rintro a ha
    have he : a = true → m1.size = m2.size := by
      intro h
      rw [ha] at h
      have := (A_at.1 h).2.2.2.2
      omega
    have fin : I b1 n1 d1 m1 b2 n2 d2 m2 = (a && (!a || insFrom m1 m2 m1.size 0)) ∧ L b1 n1 d1 m1 b2 n2 d2 m2 = (a && (!a || lessFrom m1 m2 m1.size 0)) := by
      rw [I, L, ha]
      cases hA : A b1 n1 d1 m1 b2 n2 d2 m2 with
      | false => exact ⟨rfl, rfl⟩
      | true =>
        have hd := (A_at.1 hA).2.2.2.2
        have hsz := he (by rw [ha, hA])
        have e : ((m1.extract 0 d1.toNat).toList == (m2.extract 0 d2.toNat).toList) = insFrom m1 m2 m1.size 0 := by
          rw [Bool.eq_iff_iff, beq_iff_eq, ← hd, cut_eq m1 m2 d1.toNat (by omega) (by omega), insFrom_iff]
          constructor
          · intro h j _ hj
            by_cases hjd : j < d1.toNat
            · exact .inl (h j hjd)
            · exact .inr (by omega)
          · intro h j hj
            rcases h j (Nat.zero_le _) (by omega) with h | h
            · exact h
            · omega
        rw [e]
        exact ⟨rfl, rfl⟩
    have l := pairs_loop b1 n1 d1 m1 b2 n2 d2 m2 hn1 hm1 hn2 hm2 a he ha.symm m1.size 0 a a (by omega) fin.1 fin.2
    rw [show ((0 : Nat) : Int) = 0 from rfl] at l
    exact Ev.step (fun k => by rw [caulkerlaw10_KindPairs.j1]) l
  refine Ev.step (fun k => by rw [caulkerlaw10_KindPairs.j0]) (Ev.neg (by simp) ?_)
  refine Ev.ite (fun e1 => Ev.ite (fun e2 => go _ ?_) (fun e2 => go _ ?_)) (fun e1 => go _ ?_)
  · rw [A, h1, h2, (beq_iff_eq.mpr e1 : (b1 == b2) = true), (beq_iff_eq.mpr e2 : (n1.toList == n2.toList) = true)]; rfl
  · rw [A, h1, h2, (beq_iff_eq.mpr e1 : (b1 == b2) = true), (beq_eq_false_iff_ne.mpr e2 : (n1.toList == n2.toList) = false)]; rfl
  · rw [A, h1, h2, (beq_eq_false_iff_ne.mpr e1 : (b1 == b2) = false)]; rfl
end
theorem KindPairs : caulkerlaw10_KindPairs.Pure := by
  intro b1 n1 d1 m1 b2 n2 d2 m2 _ _
  apply Ev.rounds
  unfold caulkerlaw10_KindPairs.f
  refine Ev.bind sorts_any (Ev.pos rfl (Ev.bind (small_ev _ (by simp)) (Ev.ite (fun hs => ?_) (fun _ => Ev.now_ _))))
  have ⟨hn1, hm1⟩ := small_sizes (b := b1) (nm := n1) (d := d1) (m := m1) hs (by simp)
  have ⟨hn2, hm2⟩ := small_sizes (b := b2) (nm := n2) (d := d2) (m := m2) hs (by simp)
  refine Ev.bind (rightL_ev b1 n1 d1 m1 hm1) (Ev.ite (fun h1 => ?_) (fun h1 => pairs_no b1 n1 d1 m1 b2 n2 d2 m2 hn1 hm1 hn2 hm2 (fun h => h1 h.1)))
  refine Ev.bind (rightL_ev b2 n2 d2 m2 hm2) ?_
  by_cases h2 : R b2 n2 d2 m2 = true
  · rw [h2]
    exact pairs_yes b1 n1 d1 m1 b2 n2 d2 m2 hn1 hm1 hn2 hm2 h1 h2
  · rw [Bool.eq_false_iff.mpr h2]
    exact pairs_no b1 n1 d1 m1 b2 n2 d2 m2 hn1 hm1 hn2 hm2 (fun h => h2 h.2)
end Go.Proofs.Ytljchkghnmnpgaa.Pure
