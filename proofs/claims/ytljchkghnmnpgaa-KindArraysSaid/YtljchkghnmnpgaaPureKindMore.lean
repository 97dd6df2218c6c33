/- What the functions that make types of types answer; any types whose texts are not too long. -/
import Derived.Test.YtljchkghnmnpgaaPureKindFns
import Derived.Test.YtljchkghnmnpgaaX15
import Derived.Test.YtljchkghnmnpgaaX16
import Derived.Test.YtljchkghnmnpgaaX19
import Derived.Test.YtljchkghnmnpgaaX20
import Derived.Test.YtljchkghnmnpgaaX23
import Derived.Test.YtljchkghnmnpgaaX24
import Derived.Test.YtljchkghnmnpgaaX25
import Derived.Test.YtljchkghnmnpgaaX27
namespace Go.Proofs.Ytljchkghnmnpgaa.Pure
open Go.RowKit Go.Proofs.Ytljchkghnmnpgaa.X Go.Proofs.YtljchkghnmnpgaaW.PrintWords Go.Proofs.YtljchkghnmnpgaaW.PrintLast
def zeroT (e : Int) : Int × ByteArray × Int × ByteArray × Int := (0, (⟨#[]⟩ : ByteArray), 0, (⟨#[]⟩ : ByteArray), e)
section
variable (b : Int) (nm : ByteArray) (d : Int) (m : ByteArray) (hn : nm.size ≤ 1000000) (hm : m.size ≤ 1000000)
include hn hm
theorem array_ev : Ev (fun k => kind_Array.f k b nm d m) (if T b nm d m = true ∧ b ≠ 6 ∧ bt m d ≠ 111 then (if d = 4 then zeroT 2 else (b, nm, d + 1, m ++ (⟨#[32]⟩ : ByteArray), 0)) else zeroT 130) := by
  have bad : ∀ x, x = true → Ev (fun k => kind_Array.j0 k x b nm d m) (zeroT 130) := by
    rintro x rfl
    refine Ev.step (fun k => by rw [kind_Array.j0]) ?_
    exact Ev.pos rfl (Ev.now_ _)
  unfold kind_Array.f
  refine Ev.bind (right_ev b nm d m hn hm) (Ev.ite (fun h => ?_) (fun h => Ev.cast (bad _ rfl) ?_))
  · refine Ev.ite (fun h6 => Ev.cast (bad _ rfl) ?_) (fun h6 => Ev.ite (fun h7 => Ev.cast (bad _ rfl) ?_) (fun h7 => Ev.ite (fun h8 => Ev.cast (bad _ rfl) ?_) (fun h8 => ?_)))
    · rw [if_neg (fun hh => hh.2.1 h6)]
    · rw [if_neg (fun hh => by have := notT (nm := nm) (d := d) (m := m) (.inl h7); rw [this] at hh; cases hh.1)]
    · rw [if_neg (fun hh => by have := notT (nm := nm) (d := d) (m := m) (.inr h8); rw [this] at hh; cases hh.1)]
    · have ht := R_T h h7 h8
      have hs := R_size h
      refine Ev.bind (outer_ev b nm d m hn hm) ?_
      rw [if_pos h]
      by_cases ho : bt m d = 111
      · refine Ev.cast (bad _ (by simpa using ho)) ?_
        rw [if_neg (fun hh => hh.2.2 ho)]
      · have e : (bt m d == 111) = false := by simpa using ho
        rw [e, if_pos (show T b nm d m = true ∧ b ≠ 6 ∧ bt m d ≠ 111 from ⟨ht, h6, ho⟩)]
        refine Ev.step (fun k => by rw [kind_Array.j0]) (Ev.neg (by simp) (Ev.ite (fun h4 => ?_) (fun h4 => ?_)))
        · rw [if_pos h4]; exact Ev.now_ _
        · rw [if_neg h4, wrap_id (by omega) (by omega)]
          exact Ev.pos (by omega) (Ev.now_ _)
  · rw [if_neg (fun hh => h (T_R hh.1))]
theorem elem_ev : Ev (fun k => kind_Elem.f k b nm d m) (if R b nm d m = true ∧ d ≠ 0 then (b, nm, d - 1, m.extract 0 d.toNat, 0) else zeroT 130) := by
  unfold kind_Elem.f
  refine Ev.bind (right_ev b nm d m hn hm) (Ev.ite (fun h => Ev.ite (fun h0 => ?_) (fun h0 => ?_)) (fun h => ?_))
  · rw [if_neg (fun hh => hh.2 h0)]; exact Ev.now_ _
  · have hs := R_size h
    rw [if_pos (show R b nm d m = true ∧ d ≠ 0 from ⟨h, h0⟩), wrap_id (i := d - 1) (by omega) (by omega), show d - 1 + 1 = d by omega, wrap_id (i := d) (by omega) (by omega)]
    exact Ev.pos (by omega) (Ev.pos (by omega) (Ev.now_ _))
  · rw [if_neg (fun hh => h hh.1)]; exact Ev.now_ _
theorem ref__ev : Ev (fun k => kind_Ref.f k b nm d m) (R b nm d m && (decide (d > 0) || (b == 5 || (b == 7 || b == 8)))) := by
  unfold kind_Ref.f
  refine Ev.bind (right_ev b nm d m hn hm) (Ev.ite (fun h => ?_) (fun h => Ev.cast (Ev.now_ _) (by simp [Bool.eq_false_iff.mpr h])))
  rw [h, Bool.true_and]
  refine Ev.ite (fun h1 => Ev.cast (Ev.now_ _) (by simp [h1])) (fun h1 => Ev.ite (fun h2 => Ev.cast (Ev.now_ _) (by simp [h2])) (fun h2 => Ev.ite (fun h3 => Ev.cast (Ev.now_ _) (by simp [h3])) (fun h3 => Ev.cast (Ev.now_ _) ?_)))
  have e5 : (b == 5) = false := by simpa using h2
  have e7 : (b == 7) = false := by simpa using h3
  simp [h1, e5, e7]
theorem with_ev (x : Int) : Ev (fun k => kind_With.f k b nm d m x) (if T b nm d m = true ∧ (d > 0 ∨ b = 5) then (if T b nm d (m.extract 0 d.toNat ++ strOfNums [x]) = true then (b, nm, d, m.extract 0 d.toNat ++ strOfNums [x], 0) else zeroT 81) else zeroT 130) := by
  have bad : ∀ y, y = true → Ev (fun k => kind_With.j0 k x y b nm d m) (zeroT 130) := by
    rintro y rfl
    refine Ev.step (fun k => by rw [kind_With.j0]) ?_
    exact Ev.pos rfl (Ev.now_ _)
  unfold kind_With.f
  refine Ev.bind (ref__ev b nm d m hn hm) (Ev.ite (fun h => ?_) (fun h => Ev.cast (bad _ rfl) ?_))
  · rw [Bool.and_eq_true] at h
    refine Ev.ite (fun h7 => Ev.cast (bad _ rfl) ?_) (fun h7 => ?_)
    · rw [if_neg (fun hh => by have := notT (nm := nm) (d := d) (m := m) (.inl h7); rw [this] at hh; cases hh.1)]
    · by_cases h8 : b = 8
      · refine Ev.cast (bad _ (by simpa using h8)) ?_
        rw [if_neg (fun hh => by have := notT (nm := nm) (d := d) (m := m) (.inr h8); rw [this] at hh; cases hh.1)]
      · have ht := R_T h.1 h7 h8
        have hs := R_size h.1
        have e8 : (b == 8) = false := by simpa using h8
        have e7 : (b == 7) = false := by simpa using h7
        have hd : d > 0 ∨ b = 5 := by
          have := h.2
          rw [e7, e8] at this
          simpa using this
        rw [e8, if_pos (show T b nm d m = true ∧ (d > 0 ∨ b = 5) from ⟨ht, hd⟩)]
        have z1 : (m.extract 0 d.toNat).size ≤ 10 := by rw [ByteArray.size_extract]; omega
        have z2 : (strOfNums [x]).size = 1 := rfl
        have z3 : (m.extract 0 d.toNat ++ strOfNums [x]).size ≤ 1000000 := by rw [ByteArray.size_append, z2]; omega
        refine Ev.step (fun k => by rw [kind_With.j0]) ?_
        refine Ev.neg (by simp) (Ev.pos (by omega) (Ev.pos (by omega) (Ev.bind (Ev.now_ _) (Ev.pos (by omega) (Ev.bind (right_ev b nm d _ hn z3) ?_)))))
        rw [R_eq_T h7 h8]
        refine Ev.ite (fun h => ?_) (fun h => ?_)
        · rw [if_pos h]; exact Ev.now_ _
        · rw [if_neg h]; exact Ev.now_ _
  · rw [if_neg (fun hh => h (by
      rw [T_R hh.1]
      rcases hh.2 with h | h <;> simp [h]))]
def markAt (m : ByteArray) (i x : Int) : ByteArray := strOfNums ((bytesOf m).set i.toNat x)
omit hn hm in
theorem markAt_size (m : ByteArray) (i x : Int) : (markAt m i x).size = m.size := by
  show (List.map _ ((bytesOf m).set i.toNat x)).toArray.size = _
  rw [List.size_toArray, List.length_map, List.length_set, bytesOf, List.length_map]
  exact Array.length_toList
theorem mark_ev (i x : Int) : Ev (fun k => kind_Mark.f k b nm d m i x) (if T b nm d m = true then (if i < 0 ∨ i > d then zeroT 1 else (if T b nm d (markAt m i x) = true then (b, nm, d, markAt m i x, 0) else zeroT 81)) else zeroT 130) := by
  unfold kind_Mark.f
  refine Ev.bind (right_ev b nm d m hn hm) (Ev.ite (fun h => ?_) (fun h => ?_))
  · refine Ev.ite (fun h7 => ?_) (fun h7 => Ev.ite (fun h8 => ?_) (fun h8 => ?_))
    · rw [notT (.inl h7)]; exact Ev.now_ _
    · rw [notT (.inr h8)]; exact Ev.now_ _
    · have ht := R_T h h7 h8
      have hs := R_size h
      rw [if_pos ht]
      refine Ev.ite (fun h1 => ?_) (fun h1 => Ev.ite (fun h2 => ?_) (fun h2 => ?_))
      · rw [if_pos (.inl h1)]; exact Ev.now_ _
      · rw [if_pos (.inr h2)]; exact Ev.now_ _
      · rw [if_neg (by omega)]
        have z := markAt_size m i x
        refine Ev.pos (by omega) (Ev.bind (right_ev b nm d (markAt m i x) hn (by omega)) ?_)
        rw [R_eq_T h7 h8]
        refine Ev.ite (fun h => ?_) (fun h => ?_)
        · rw [if_pos h]; exact Ev.now_ _
        · rw [if_neg h]; exact Ev.now_ _
  · rw [if_neg (fun hh => h (T_R hh))]; exact Ev.now_ _
theorem is_ev (x : Int) : Ev (fun k => kind_Is.f k b nm d m x) (R b nm d m && (d == 0 && (b == x && x != 5))) := by
  unfold kind_Is.f
  refine Ev.bind (right_ev b nm d m hn hm) (Ev.ite (fun h => ?_) (fun h => Ev.cast (Ev.now_ _) (by simp [Bool.eq_false_iff.mpr h])))
  rw [h, Bool.true_and]
  refine Ev.ite (fun h1 => Ev.ite (fun h2 => Ev.cast (Ev.now_ _) (by simp [h1, h2])) (fun h2 => Ev.cast (Ev.now_ _) ?_)) (fun h1 => Ev.cast (Ev.now_ _) ?_)
  · simp [h2]
  · simp [h1]
theorem number_ev : Ev (fun k => kind_Number.f k b nm d m) (R b nm d m && (d == 0 && (b == 1 || b == 3))) := by
  unfold kind_Number.f
  refine Ev.bind (right_ev b nm d m hn hm) (Ev.ite (fun h => ?_) (fun h => Ev.cast (Ev.now_ _) (by simp [Bool.eq_false_iff.mpr h])))
  rw [h, Bool.true_and]
  refine Ev.ite (fun h1 => Ev.ite (fun h2 => Ev.cast (Ev.now_ _) (by simp [h1, h2])) (fun h2 => Ev.cast (Ev.now_ _) ?_)) (fun h1 => Ev.cast (Ev.now_ _) ?_)
  · simp [h1, h2]
  · simp [h1]
end
theorem of_ev (b : Int) (nm : ByteArray) (d : Int) (hn : nm.size ≤ 1000000) (hd : -9223372036854775808 ≤ d ∧ d ≤ 9223372036854775807) : Ev (fun k => kind_Of.f k b nm d) (if headOk b nm d = true then (b, nm, d, blanks (d + 1).toNat, 0) else zeroT 5) := by
  have e0 : (⟨#[]⟩ : ByteArray).size = 0 := rfl
  have no : ¬ (0 ≤ d ∧ d ≤ 4) → ∀ y, y = false → Ev (fun k => kind_Of.j0 k d y b nm d (⟨#[]⟩ : ByteArray)) (if headOk b nm d = true then (b, nm, d, blanks (d + 1).toNat, 0) else zeroT 5) := by
    rintro h y rfl
    refine Ev.step (fun k => by rw [kind_Of.j0]) (Ev.neg (by simp) (Ev.bind (right_ev b nm d _ hn (by rw [e0]; omega)) ?_))
    have hr : ¬ R b nm d (⟨#[]⟩ : ByteArray) = true := fun hr => h (by have := R_size hr; omega)
    refine Ev.neg hr ?_
    rw [if_neg (fun hh => h (by have := head_at hh; omega))]
    exact Ev.now_ _
  unfold kind_Of.f
  refine Ev.ite (fun h0 => ?_) (fun h0 => no (by omega) _ rfl)
  by_cases h4 : d ≤ 4
  · rw [decide_eq_true h4]
    have z := blanks_size (d + 1).toNat
    refine Ev.step (fun k => by rw [kind_Of.j0]) (Ev.pos rfl (Ev.bind (Ev.eq (repeat_blanks d h0 h4)) (Ev.bind (right_ev b nm d (blanks (d + 1).toNat) hn (by omega)) ?_)))
    have hl : ∀ c : UInt8, c ≠ 32 → ∀ d' : Int, d' = 0 → (blanks (d' + 1).toNat).toList ≠ [c] := by
      rintro c hc _ rfl hh
      have : (blanks ((0 : Int) + 1).toNat).toList = [32] := by decide +kernel
      rw [this] at hh
      injection hh with h1
      exact hc h1.symm
    by_cases ho : headOk b nm d = true
    · rw [if_pos ho]
      exact Ev.pos (T_R (blanks_T ho)) (Ev.now_ _)
    · rw [if_neg ho]
      refine Ev.neg (fun hr => ?_) (Ev.now_ _)
      rcases R_cases hr with k1 | k1 | k1
      · exact hl 63 (by decide) d (null_at k1).2.2.1 (null_at k1).2.2.2
      · exact hl 111 (by decide) d (none_at k1).2.2.1 (none_at k1).2.2.2
      · exact ho (T_at.1 k1).1
  · exact no (by omega) _ (by simpa using h4)
end Go.Proofs.Ytljchkghnmnpgaa.Pure
