/- The elements of an array of a type are of that type, and what is no array has none, as the statement KindArrays says; every input. -/
import Derived.Test.YtljchkghnmnpgaaX5
import Derived.Test.YtljchkghnmnpgaaPureKindSorts
import Derived.Test.YtljchkghnmnpgaaPureKindBytes
namespace Go.Proofs.Ytljchkghnmnpgaa.Pure
open Go.RowKit Go.Proofs.Ytljchkghnmnpgaa.X Go.Proofs.YtljchkghnmnpgaaW.PrintWords Go.Proofs.YtljchkghnmnpgaaW.PrintLast
def elemT (b : Int) (nm : ByteArray) (d : Int) (m : ByteArray) : Int × ByteArray × Int × ByteArray × Int := if R b nm d m = true ∧ d ≠ 0 then (b, nm, d - 1, m.extract 0 d.toNat, 0) else zeroT 130
section
variable (b : Int) (nm : ByteArray) (d : Int) (m : ByteArray) (hn : nm.size ≤ 1000000) (hm : m.size ≤ 1000000) (hR : R b nm d m = true)
include hn hm hR
omit hn in
theorem tail_any : Ev (fun k => (caulkerlaw10_plain.f k b nm d m).bind fun t299 => (if t299 = true then (if d = 0 then (if (elemT b nm d m).2.2.2.2 = 130 then (some ((elemT b nm d m).1 == 0 && ((elemT b nm d m).2.1.toList == ([] : List UInt8) && ((elemT b nm d m).2.2.1 == 0 && ((elemT b nm d m).2.2.2.1.toList == ([] : List UInt8)))))) else (none)) else (if 0 ≤ d then (if d ≤ (m.size : Int) then (if (elemT b nm d m).2.2.2.2 = 0 then (some ((elemT b nm d m).1 == b && ((elemT b nm d m).2.1.toList == nm.toList && ((elemT b nm d m).2.2.1 == (wrap64 (d - 1)) && ((elemT b nm d m).2.2.2.1.toList == ((m.extract 0 (d : Int).toNat).toList)))))) else (none)) else (none)) else (none))) else (if (elemT b nm d m).2.2.2.2 = 130 then (some ((elemT b nm d m).1 == 0 && ((elemT b nm d m).2.1.toList == ([] : List UInt8) && ((elemT b nm d m).2.2.1 == 0 && ((elemT b nm d m).2.2.2.1.toList == ([] : List UInt8)))))) else (none)))) true := by
  have hs := R_size hR
  refine Ev.bind (plain_ev b nm d m hm) ?_
  by_cases h0 : d = 0
  · have e : elemT b nm d m = zeroT 130 := by rw [elemT, if_neg (fun h => h.2 h0)]
    rw [e]
    refine Ev.ite (fun ht => Ev.pos h0 (Ev.pos rfl (Ev.cast (Ev.now_ _) ?_))) (fun ht => Ev.pos rfl (Ev.cast (Ev.now_ _) ?_))
    · simp only [zeroT, toList_empty]; rfl
    · simp only [zeroT, toList_empty]; rfl
  · have e : elemT b nm d m = (b, nm, d - 1, m.extract 0 d.toNat, 0) := by rw [elemT, if_pos ⟨hR, h0⟩]
    have ht : T b nm d m = true := by
      rcases R_cases hR with k | k | k
      · exact absurd (null_at k).2.2.1 h0
      · exact absurd (none_at k).2.2.1 h0
      · exact k
    rw [e, wrap_id (by omega) (by omega)]
    refine Ev.pos ht (Ev.neg h0 (Ev.pos (by omega) (Ev.pos (by omega) (Ev.pos rfl (Ev.cast (Ev.now_ _) ?_)))))
    simp
omit hn in
theorem tail_1 : ∀ x, x = false → Ev (fun k => caulkerlaw10_KindArrays.j1 k (elemT b nm d m).2.2.2.2 x b nm d m (elemT b nm d m).1 (elemT b nm d m).2.1 (elemT b nm d m).2.2.1 (elemT b nm d m).2.2.2.1) true := by
  rintro x rfl
  refine Ev.step (fun k => by rw [caulkerlaw10_KindArrays.j1]) ?_
  exact Ev.neg (by simp) (tail_any b nm d m hm hR)
omit hn in
theorem tail_2 : ∀ x, x = false → Ev (fun k => caulkerlaw10_KindArrays.j2 k (elemT b nm d m).2.2.2.2 x b nm d m (elemT b nm d m).1 (elemT b nm d m).2.1 (elemT b nm d m).2.2.1 (elemT b nm d m).2.2.2.1) true := by
  rintro x rfl
  refine Ev.step (fun k => by rw [caulkerlaw10_KindArrays.j2]) ?_
  exact Ev.neg (by simp) (tail_any b nm d m hm hR)
omit hn in
theorem tail_3 : ∀ x, x = false → Ev (fun k => caulkerlaw10_KindArrays.j3 k (elemT b nm d m).2.2.2.2 x b nm d m (elemT b nm d m).1 (elemT b nm d m).2.1 (elemT b nm d m).2.2.1 (elemT b nm d m).2.2.2.1) true := by
  rintro x rfl
  refine Ev.step (fun k => by rw [caulkerlaw10_KindArrays.j3]) ?_
  exact Ev.neg (by simp) (tail_any b nm d m hm hR)
end
theorem longer_T {b : Int} {nm : ByteArray} {d : Int} {m : ByteArray} (h : T b nm d m = true) (h6 : b ≠ 6) (ho : bt m d ≠ 111) (h4 : d ≠ 4) : T b nm (d + 1) (m ++ (⟨#[32]⟩ : ByteArray)) = true := by
  obtain ⟨h1, h2, h3⟩ := T_at.1 h
  have hh := head_at h1
  have e1 : (⟨#[32]⟩ : ByteArray).size = 1 := rfl
  refine T_at.2 ⟨?_, by rw [ByteArray.size_append, e1]; omega, fun j hj => ?_⟩
  · simp only [headOk, Bool.and_eq_true, decide_eq_true_iff, beq_iff_eq, Bool.or_eq_true, bne_iff_ne]
    exact ⟨by omega, by omega, by omega, by omega, hh.2.2.2.2.1, .inl h6⟩
  · rw [ByteArray.size_append, e1] at hj
    by_cases hj2 : j < m.size
    · rw [bt_left _ _ _ hj2]
      have := h3 j hj2
      simp only [okMark, Bool.or_eq_true, Bool.and_eq_true, beq_iff_eq, decide_eq_true_iff, bne_iff_ne] at this ⊢
      rcases this with h | ⟨hc, hd, he⟩
      · exact .inl h
      · refine .inr ⟨hc, hd, .inl ?_⟩
        rcases he with h | h
        · exact h
        · have : (j : Int) = d := by omega
          rw [this]
          exact ho
    · have : j = m.size := by omega
      subst this
      rw [bt_right _ _ _ (Nat.le_refl _) (by omega), Nat.sub_self]
      rfl
theorem KindArrays : caulkerlaw10_KindArrays.Pure := by
  intro b nm d m _
  apply Ev.rounds
  unfold caulkerlaw10_KindArrays.f
  refine Ev.bind sorts_any (Ev.pos rfl (Ev.bind (small_ev _ (by simp)) (Ev.ite (fun hs => ?_) (fun _ => Ev.now_ _))))
  have ⟨hn, hm⟩ := small_sizes (b := b) (nm := nm) (d := d) (m := m) hs (by simp)
  have e1 : (⟨#[32]⟩ : ByteArray).size = 1 := rfl
  have el : Ev (fun k => kind_Elem.f k b nm d m) (elemT b nm d m) := elem_ev b nm d m hn hm
  have ar := array_ev b nm d m hn hm
  have zz : ((!((zeroT 130).1 == 0) || (!((zeroT 130).2.1.toList == ([] : List UInt8)) || (!((zeroT 130).2.2.1 == 0) || (!((zeroT 130).2.2.2.1.toList == ([] : List UInt8))))))) = false := by
    simp only [zeroT, toList_empty]; rfl
  have z2 : ((!((zeroT 2).1 == 0) || (!((zeroT 2).2.1.toList == ([] : List UInt8)) || (!((zeroT 2).2.2.1 == 0) || (!((zeroT 2).2.2.2.1.toList == ([] : List UInt8))))))) = false := by
    simp only [zeroT, toList_empty]; rfl
  by_cases hR : ¬ R b nm d m = true
  · rw [if_neg (fun h => hR (T_R h.1))] at ar
    have e : elemT b nm d m = zeroT 130 := by rw [elemT, if_neg (fun h => hR h.1)]
    rw [e] at el
    refine Ev.bind ar (Ev.bind el (Ev.bind (rightL_ev b nm d m hm) (Ev.neg hR (Ev.pos rfl (Ev.pos rfl (Ev.pos ?_ (Ev.cast (Ev.now_ _) ?_)))))))
    · simp only [zeroT, toList_empty]; rfl
    · simp only [zeroT, toList_empty]; rfl
  replace hR : R b nm d m = true := Decidable.byContradiction hR
  by_cases hok : T b nm d m = true ∧ b ≠ 6 ∧ bt m d ≠ 111
  · have hs := R_size hR
    rw [if_pos hok] at ar
    obtain ⟨ht, h6, ho⟩ := hok
    have eo : (bt m d == 111) = false := by simpa using ho
    by_cases h4 : d = 4
    · rw [if_pos h4] at ar
      refine Ev.bind ar (Ev.bind el (Ev.bind (rightL_ev b nm d m hm) (Ev.pos hR (Ev.bind (plain_ev b nm d m hm) (Ev.pos ht (Ev.neg h6 (Ev.pos (by omega) (Ev.pos (by omega) ?_))))))))
      rw [eo]
      refine Ev.step (fun k => by rw [caulkerlaw10_KindArrays.j0]) ?_
      exact Ev.neg (by simp) (Ev.pos h4 (Ev.pos rfl (tail_2 b nm d m hm hR _ z2)))
    · rw [if_neg h4] at ar
      refine Ev.bind ar (Ev.bind el (Ev.bind (rightL_ev b nm d m hm) (Ev.pos hR (Ev.bind (plain_ev b nm d m hm) (Ev.pos ht (Ev.neg h6 (Ev.pos (by omega) (Ev.pos (by omega) ?_))))))))
      rw [eo]
      have ht2 := longer_T ht h6 ho h4
      have zs : (m ++ (⟨#[32]⟩ : ByteArray)).size ≤ 1000000 := by rw [ByteArray.size_append, e1]; omega
      have el2 := elem_ev b nm (d + 1) (m ++ (⟨#[32]⟩ : ByteArray)) hn zs
      rw [if_pos ⟨T_R ht2, by omega⟩, show d + 1 - 1 = d by omega, show (d + 1).toNat = m.size by omega, cut_whole] at el2
      have ou := outer_ev b nm (d + 1) (m ++ (⟨#[32]⟩ : ByteArray)) hn zs
      have hb : bt (m ++ (⟨#[32]⟩ : ByteArray)) (d + 1) = 32 := by
        rw [show d + 1 = (m.size : Int) by omega, bt_right _ _ _ (Nat.le_refl _) (by omega), Nat.sub_self]
        rfl
      rw [if_pos (T_R ht2), hb] at ou
      refine Ev.step (fun k => by rw [caulkerlaw10_KindArrays.j0]) ?_
      refine Ev.neg (by simp) (Ev.neg h4 (Ev.bind el2 (Ev.pos rfl (Ev.pos rfl (Ev.neg (by simp) (Ev.pos (by omega) (Ev.pos rfl (Ev.bind ou ?_))))))))
      exact tail_3 b nm d m hm hR _ rfl
  · rw [if_neg hok] at ar
    refine Ev.bind ar (Ev.bind el (Ev.bind (rightL_ev b nm d m hm) (Ev.pos hR (Ev.bind (plain_ev b nm d m hm) ?_))))
    have go : ∀ x, x = true → Ev (fun k => caulkerlaw10_KindArrays.j0 k (zeroT 130).2.2.2.2 (elemT b nm d m).2.2.2.2 x b nm d m (zeroT 130).1 (zeroT 130).2.1 (zeroT 130).2.2.1 (zeroT 130).2.2.2.1 (elemT b nm d m).1 (elemT b nm d m).2.1 (elemT b nm d m).2.2.1 (elemT b nm d m).2.2.2.1) true := by
      rintro x rfl
      refine Ev.step (fun k => by rw [caulkerlaw10_KindArrays.j0]) ?_
      exact Ev.pos rfl (Ev.pos rfl (tail_1 b nm d m hm hR _ zz))
    refine Ev.ite (fun ht => Ev.ite (fun h6 => go _ rfl) (fun h6 => ?_)) (fun ht => go _ rfl)
    have hs := R_size hR
    refine Ev.pos (by omega) (Ev.pos (by omega) (go _ ?_))
    rw [beq_iff_eq]
    exact Decidable.byContradiction fun ho => hok ⟨ht, h6, ho⟩
end Go.Proofs.Ytljchkghnmnpgaa.Pure
