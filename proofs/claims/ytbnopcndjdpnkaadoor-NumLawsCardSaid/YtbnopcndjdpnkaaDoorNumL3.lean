import Derived.Test.YtbnopcndjdpnkaaDoorNumL2
namespace Go.Proofs.YtbnopcndjdpnkaaDoor.Pure
open Go.RowKit Go.Proofs.YtbnopcndjdpnkaaDoor.NuW Go.Proofs.YtbnopcndjdpnkaaDoor.Fl Ieee
theorem signed_foi (a : Int) (c k : Nat) : signed (decide (a < 0)) (a.natAbs * 2 ^ c) k = a * ((2 ^ (c + k) : Nat) : Int) := by
  unfold signed
  rw [Nat.shiftLeft_eq, Nat.mul_assoc, ← Nat.pow_add]
  generalize 2 ^ (c + k) = D
  by_cases h : a < 0
  · rw [decide_eq_true h, if_pos rfl]
    obtain ⟨m, rfl⟩ : ∃ m : Nat, a = -(m : Int) := ⟨a.natAbs, by omega⟩
    rw [Int.natAbs_neg, Int.natAbs_natCast, Int.neg_mul]
    push_cast
    rfl
  · rw [decide_eq_false h, if_neg (by decide)]
    obtain ⟨m, rfl⟩ : ∃ m : Nat, a = (m : Int) := ⟨a.natAbs, by omega⟩
    rw [Int.natAbs_natCast]
    push_cast
    rfl
theorem mul_sign (x : Int) (D : Nat) (h : 0 < D) : (x * (D : Int) = 0 ↔ x = 0) ∧ (x * (D : Int) < 0 ↔ x < 0) ∧ (x * (D : Int)).natAbs = x.natAbs * D := by
  refine ⟨⟨fun e => ?_, fun e => by rw [e, Int.zero_mul]⟩, ⟨fun e => ?_, fun e => ?_⟩, ?_⟩
  · rcases Int.mul_eq_zero.1 e with h1 | h1
    · exact h1
    · omega
  · rcases Int.lt_or_le x 0 with h1 | h1
    · exact h1
    · have := Int.mul_nonneg h1 (show (0 : Int) ≤ (D : Int) by omega); omega
  · exact Int.mul_neg_of_neg_of_pos e (by omega)
  · rw [Int.natAbs_mul, Int.natAbs_natCast]
theorem add_foi (a b : Int) (a1 : -4503599627370496 < a) (a2 : a < 4503599627370496) (b1 : -4503599627370496 < b) (b2 : b < 4503599627370496) : fop .add (floatOfInt .f64 a) (floatOfInt .f64 b) = floatOfInt .f64 (a + b) := by
  obtain ⟨c, hc⟩ := read_foi a (by omega) (by omega)
  obtain ⟨d, hd⟩ := read_foi b (by omega) (by omega)
  unfold fop
  show (double.add _ _).getD nanB = _
  unfold Format.add
  rw [hc, hd]
  simp only [Datum.sum, signed_foi]
  rw [show c + (-(c : Int) - min (-(c : Int)) (-(d : Int))).toNat = max c d by omega, show d + (-(d : Int) - min (-(c : Int)) (-(d : Int))).toNat = max c d by omega, ← Int.add_mul, show min (-(c : Int)) (-(d : Int)) = -((max c d : Nat) : Int) by omega]
  generalize max c d = e
  have hp := Nat.two_pow_pos e
  obtain ⟨m1, m2, m3⟩ := mul_sign (a + b) (2 ^ e) hp
  rw [m3, Option.map_some, Option.getD_some]
  by_cases h0 : a + b = 0
  · rw [if_pos (m1.2 h0), h0]
    have hz : (0 : Int).natAbs * 2 ^ e = 0 := Nat.zero_mul _
    rw [hz]
    have hs : (decide (a < 0) && decide (b < 0)) = false := by
      rw [Bool.and_eq_false_iff, decide_eq_false_iff_not, decide_eq_false_iff_not]; omega
    rw [hs]
    show double.nearest false 0 _ = double.nearest false 0 0
    unfold Format.nearest
    rw [if_pos rfl, if_pos rfl]
  · rw [if_neg (fun g => h0 (m1.1 g)), decide_eq_decide.2 m2]
    show double.nearest _ _ _ = double.nearest _ _ _
    rw [near_scale _ _ _ _ (by omega), show -(e : Int) + (e : Int) = 0 by omega]
theorem mul_foi (a b : Int) (a1 : -1000000 < a) (a2 : a < 1000000) (b1 : -1000000 < b) (b2 : b < 1000000) (h0 : a * b ≠ 0) : fop .mul (floatOfInt .f64 a) (floatOfInt .f64 b) = floatOfInt .f64 (a * b) := by
  obtain ⟨c, hc⟩ := read_foi a (by omega) (by omega)
  obtain ⟨d, hd⟩ := read_foi b (by omega) (by omega)
  unfold fop
  show (double.mul _ _).getD nanB = _
  unfold Format.mul
  rw [hc, hd]
  simp only [Datum.product]
  have e1 : a.natAbs * 2 ^ c * (b.natAbs * 2 ^ d) = (a * b).natAbs * 2 ^ (c + d) := by
    rw [Int.natAbs_mul, Nat.pow_add, Nat.mul_mul_mul_comm]
  have hs : (decide (a < 0) ^^ decide (b < 0)) = decide (a * b < 0) := by
    have ha0 : a ≠ 0 := fun e => h0 (by rw [e, Int.zero_mul])
    have hb0 : b ≠ 0 := fun e => h0 (by rw [e, Int.mul_zero])
    by_cases ha : a < 0
    · by_cases hb : b < 0
      · rw [decide_eq_true ha, decide_eq_true hb, decide_eq_false (by have := Int.mul_pos_of_neg_of_neg ha hb; omega)]; rfl
      · rw [decide_eq_true ha, decide_eq_false hb, decide_eq_true (Int.mul_neg_of_neg_of_pos ha (by omega))]; rfl
    · by_cases hb : b < 0
      · rw [decide_eq_false ha, decide_eq_true hb, decide_eq_true (Int.mul_neg_of_pos_of_neg (by omega) hb)]; rfl
      · rw [decide_eq_false ha, decide_eq_false hb, decide_eq_false (by have := Int.mul_pos (show 0 < a by omega) (show 0 < b by omega); omega)]; rfl
  rw [e1, hs, show -(c : Int) + -(d : Int) = -((c + d : Nat) : Int) by omega]
  show double.nearest _ _ _ = double.nearest _ _ _
  rw [near_scale _ _ _ _ (by omega), show -((c + d : Nat) : Int) + ((c + d : Nat) : Int) = 0 by omega]
theorem mul_foi0 (a b : Int) (a1 : -1000000 < a) (a2 : a < 1000000) (b1 : -1000000 < b) (b2 : b < 1000000) (h0 : a * b = 0) : fop .mul (floatOfInt .f64 a) (floatOfInt .f64 b) = 0 ∨ fop .mul (floatOfInt .f64 a) (floatOfInt .f64 b) = 9223372036854775808 := by
  obtain ⟨c, hc⟩ := read_foi a (by omega) (by omega)
  obtain ⟨d, hd⟩ := read_foi b (by omega) (by omega)
  unfold fop
  show (double.mul _ _).getD nanB = _ ∨ (double.mul _ _).getD nanB = _
  unfold Format.mul
  rw [hc, hd]
  simp only [Datum.product]
  have e1 : a.natAbs * 2 ^ c * (b.natAbs * 2 ^ d) = (a * b).natAbs * 2 ^ (c + d) := by
    rw [Int.natAbs_mul, Nat.pow_add, Nat.mul_mul_mul_comm]
  have hz : (0 : Int).natAbs * 2 ^ (c + d) = 0 := Nat.zero_mul _
  rw [e1, h0, hz, Option.map_some, Option.getD_some]
  have near0 : ∀ (s : Bool) (p : Int), double.nearest s 0 p = if s then 9223372036854775808 else 0 := by
    intro s p
    unfold Format.nearest Format.word
    rw [if_pos rfl, c_sw]
  show double.nearest _ 0 (-(c : Int) + -(d : Int)) = _ ∨ double.nearest _ 0 (-(c : Int) + -(d : Int)) = _
  rw [near0]
  cases (decide (a < 0) ^^ decide (b < 0))
  · exact Or.inl rfl
  · exact Or.inr rfl
end Go.Proofs.YtbnopcndjdpnkaaDoor.Pure
