import Derived.Test.YtbnopcndjdpnkaaDoorNumL1
namespace Go.Proofs.YtbnopcndjdpnkaaDoor.Pure
open Go.RowKit Go.Proofs.YtbnopcndjdpnkaaDoor.NuW Go.Proofs.YtbnopcndjdpnkaaDoor.Fl Ieee
theorem cut_scale (s : Bool) (m c e : Nat) (h : m ≠ 0) : Toward.even.cut s (m * 2 ^ c) (e + c) = Toward.even.cut s m e := by
  unfold Toward.cut
  dsimp only
  rw [log2_shift m c h, show min (e + c) (m.log2 + c + 2) = min e (m.log2 + 2) + c by omega]
  generalize min e (m.log2 + 2) = g
  simp only [Nat.shiftLeft_eq, Nat.one_mul]
  rw [Nat.pow_add, Nat.mul_div_mul_right _ _ (Nat.two_pow_pos c), Nat.mul_mod_mul_right]
  have hp := Nat.two_pow_pos c
  generalize 2 ^ c = C at *
  generalize 2 ^ g = G at *
  generalize m % G = r
  have t1 : (decide (G * C < 2 * (r * C))) = decide (G < 2 * r) := by
    apply decide_eq_decide.2
    rw [← Nat.mul_assoc]
    exact Nat.mul_lt_mul_right hp
  have t2 : (G * C == 2 * (r * C)) = (G == 2 * r) := by
    rw [Bool.eq_iff_iff, beq_iff_eq, beq_iff_eq, ← Nat.mul_assoc]
    exact Nat.mul_left_inj (Nat.pos_iff_ne_zero.1 hp)
  rw [t1, t2]
theorem near_scale (s : Bool) (m c : Nat) (p : Int) (h : m ≠ 0) : double.nearest s (m * 2 ^ c) p = double.nearest s m (p + c) := by
  have h2 : m * 2 ^ c ≠ 0 := Nat.mul_ne_zero h (Nat.pos_iff_ne_zero.1 (Nat.two_pow_pos _))
  unfold Format.nearest
  rw [if_neg h, if_neg h2, log2_shift m c h]
  dsimp only
  rw [show p + ((m.log2 + c : Nat) : Int) - (double.fractionBits : Int) = p + (c : Int) + (m.log2 : Int) - (double.fractionBits : Int) by omega]
  generalize max (p + (c : Int) + (m.log2 : Int) - (double.fractionBits : Int)) double.leastPlace = last
  have hc : Toward.even.cut s ((m * 2 ^ c) <<< (p - last).toNat) (last - p).toNat = Toward.even.cut s (m <<< (p + (c : Int) - last).toNat) (last - (p + (c : Int))).toNat := by
    rw [Nat.shiftLeft_eq, Nat.shiftLeft_eq]
    rcases Int.lt_or_le p last with g | g
    · rw [show (p - last).toNat = 0 by omega, Nat.pow_zero, Nat.mul_one]
      rcases Int.lt_or_le (p + (c : Int)) last with g2 | g2
      · rw [show (p + (c : Int) - last).toNat = 0 by omega, Nat.pow_zero, Nat.mul_one, show (last - p).toNat = (last - (p + (c : Int))).toNat + c by omega]
        exact cut_scale s m c _ h
      · rw [show (last - (p + (c : Int))).toNat = 0 by omega, cut_even0]
        obtain ⟨d, hd⟩ : ∃ d : Nat, (last - p).toNat = d := ⟨_, rfl⟩
        obtain ⟨f, rfl⟩ : ∃ f, c = f + d := ⟨c - d, by omega⟩
        rw [hd, show (p + ((f + d : Nat) : Int) - last).toNat = f by omega]
        have := cut_scale s (m * 2 ^ f) d 0 (Nat.mul_ne_zero h (Nat.pos_iff_ne_zero.1 (Nat.two_pow_pos _)))
        rw [cut_even0, Nat.zero_add, Nat.mul_assoc, ← Nat.pow_add] at this
        exact this
    · rw [show (last - p).toNat = 0 by omega, show (last - (p + (c : Int))).toNat = 0 by omega, cut_even0, cut_even0, Nat.mul_assoc, ← Nat.pow_add, show c + (p - last).toNat = (p + (c : Int) - last).toNat by omega]
  rw [hc]
theorem foi2 (a : Int) : floatOfInt .f64 a = double.nearest (decide (a < 0)) a.natAbs 0 := rfl
theorem read_foi (a : Int) (h1 : -9007199254740992 < a) (h2 : a < 9007199254740992) : ∃ c : Nat, double.read (floatOfInt .f64 a) = .number (decide (a < 0)) (a.natAbs * 2 ^ c) (-(c : Int)) := by
  by_cases h0 : a = 0
  · subst h0
    have hz : ∀ c : Nat, (0 : Int).natAbs * 2 ^ c = 0 := fun c => Nat.zero_mul _
    obtain ⟨c, hc⟩ : ∃ c : Nat, c = 1074 := ⟨_, rfl⟩
    refine ⟨c, ?_⟩
    rw [hz, show floatOfInt .f64 0 = 0 from by decide +kernel, read_eq, if_pos (by decide), hc]
    rfl
  rw [foi2, near_int _ _ (by omega) (by omega)]
  obtain ⟨m, hm⟩ : ∃ m, a.natAbs = m := ⟨_, rfl⟩
  rw [hm]
  have hm0 : m ≠ 0 := by omega
  have hb : m.log2 ≤ 52 := by have := (Nat.log2_lt hm0 (k := 53)).2 (by omega); omega
  have b1 : 2 ^ m.log2 ≤ m := Nat.log2_self_le hm0
  have b2 : m < 2 ^ (m.log2 + 1) := (Nat.log2_lt hm0).1 (Nat.lt_succ_self _)
  generalize m.log2 = b at *
  obtain ⟨k1, _⟩ := kept_le m b b1 b2 (by omega)
  have hk : kept m b = m * 2 ^ (52 - b) := by unfold kept; rw [if_pos hb]
  have k2 : kept m b < 9007199254740992 := by
    have e2 : 2 ^ (b + 1) * 2 ^ (52 - b) = 9007199254740992 := by rw [← Nat.pow_add, show b + 1 + (52 - b) = 53 by omega]
    rw [hk, ← e2]
    exact Nat.mul_lt_mul_of_pos_right b2 (Nat.two_pow_pos _)
  refine ⟨52 - b, ?_⟩
  rw [← hk]
  generalize kept m b = K at *
  have fin : ∀ w : Nat, w = (if decide (a < 0) = true then 9223372036854775808 else 0) + ((1022 + b) * 4503599627370496 + K) → double.read w = .number (decide (a < 0)) K (-((52 - b : Nat) : Int)) := by
    intro w hwd
    have hr : rung w = (1022 + b) * 4503599627370496 + K := by
      unfold rung; rw [hwd]; split <;> omega
    have hs : sgn w = decide (a < 0) := by
      unfold sgn
      rw [Bool.eq_iff_iff, beq_iff_eq, hwd]
      by_cases ha : a < 0
      · simp only [decide_eq_true ha, if_pos rfl]; simp; omega
      · simp only [decide_eq_false ha]; simp; omega
    rw [read_eq, hs, hr, if_neg (by omega), if_pos (by omega)]
    rw [show 4503599627370496 + ((1022 + b) * 4503599627370496 + K) % 4503599627370496 = K by omega]
    rw [show (-1074 + ((((1022 + b) * 4503599627370496 + K) / 4503599627370496 - 1 : Nat) : Int)) = -((52 - b : Nat) : Int) by omega]
  exact fin _ rfl
end Go.Proofs.YtbnopcndjdpnkaaDoor.Pure
