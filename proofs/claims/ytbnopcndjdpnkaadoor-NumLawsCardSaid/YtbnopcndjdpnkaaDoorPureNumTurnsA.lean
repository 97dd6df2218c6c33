import Derived.Test.YtbnopcndjdpnkaaDoorX17
import Derived.Test.YtbnopcndjdpnkaaDoorM35
namespace Go.Proofs.YtbnopcndjdpnkaaDoor.Pure
open Go.RowKit Go.Proofs.YtbnopcndjdpnkaaDoor.X Go.Proofs.YtbnopcndjdpnkaaDoorW.PrintWords Go.Proofs.YtbnopcndjdpnkaaDoorW.PrintLast Go.Proofs.YtbnopcndjdpnkaaDoor.Fl
theorem pow_le (a b : Nat) (h : a ≤ b) : 2 ^ a ≤ 2 ^ b := Nat.pow_le_pow_right (by decide) h
theorem md1 (x a N : Nat) (h : N ≤ a) : x * 2 ^ a / 2 ^ N = x * 2 ^ (a - N) := by
  obtain ⟨c, rfl⟩ : ∃ c, a = c + N := ⟨a - N, by omega⟩
  rw [Nat.pow_add, ← Nat.mul_assoc, Nat.mul_div_cancel _ (Nat.two_pow_pos N), Nat.add_sub_cancel]
theorem md2 (x a N : Nat) (h : a ≤ N) : x * 2 ^ a / 2 ^ N = x / 2 ^ (N - a) := by
  obtain ⟨c, rfl⟩ : ∃ c, N = c + a := ⟨N - a, by omega⟩
  rw [Nat.pow_add, Nat.mul_div_mul_right _ _ (Nat.two_pow_pos a), Nat.add_sub_cancel]
def wv (r : Nat) : Nat := mag r / 2 ^ 1074
theorem whole_wv (n : Nat) : whole n = sv (sgn n) (wv (rung n)) := rfl
theorem wv_hi (r e f : Nat) (he : r / 4503599627370496 = e) (hf : r % 4503599627370496 = f) (h : 1075 ≤ e) : wv r = (4503599627370496 + f) * 2 ^ (e - 1075) := by
  have h1 := md1 (4503599627370496 + f) (e - 1) 1074 (by omega)
  rw [show e - 1 - 1074 = e - 1075 by omega] at h1
  rw [← h1]
  unfold wv mag
  rw [if_neg (by omega), he, hf]
theorem wv_lo (r e f : Nat) (he : r / 4503599627370496 = e) (hf : r % 4503599627370496 = f) (h : e < 1075) (h1 : 1 ≤ e) : wv r = (4503599627370496 + f) / 2 ^ (1075 - e) := by
  have h2 := md2 (4503599627370496 + f) (e - 1) 1074 (by omega)
  rw [show 1074 - (e - 1) = 1075 - e by omega] at h2
  rw [← h2]
  unfold wv mag
  rw [if_neg (by omega), he, hf]
theorem wv_0 (r : Nat) (h : r / 4503599627370496 < 1023) : wv r = 0 := by
  by_cases h1 : r / 4503599627370496 = 0
  · unfold wv mag
    rw [if_pos (by omega)]
    have h2 := pow_le 52 1074 (by decide)
    generalize (2 : Nat) ^ 1074 = D at h2 ⊢
    exact Nat.div_eq_of_lt (by omega)
  · rw [wv_lo r _ _ rfl rfl (by omega) (by omega)]
    have h2 : (2 : Nat) ^ 53 ≤ 2 ^ (1075 - r / 4503599627370496) := Nat.pow_le_pow_right (by decide) (by omega)
    generalize (2 : Nat) ^ (1075 - r / 4503599627370496) = D at h2 ⊢
    exact Nat.div_eq_of_lt (by omega)
theorem u64w (x : Int) (h : 0 ≤ x) (h2 : x < 18446744073709551616) : IntKind.u64.wrap x = x := by rw [uw7]; omega
theorem shl_eq (x s : Nat) (hs : s ≤ 64) (h : x * 2 ^ s < 18446744073709551616) : shl .u64 (x : Int) (s : Int) = ((x * 2 ^ s : Nat) : Int) := by
  unfold shl
  rw [Int.toNat_natCast, show min s IntKind.u64.bits = s from Nat.min_eq_left hs]
  have e : (x : Int) * 2 ^ s = ((x * 2 ^ s : Nat) : Int) := by push_cast; rfl
  rw [e]
  exact u64w _ (by omega) (by omega)
theorem shr_eq (x s : Nat) (hs : s ≤ 64) : shr .u64 (x : Int) (s : Int) = ((x / 2 ^ s : Nat) : Int) := by
  unfold shr
  rw [Int.toNat_natCast, show min s IntKind.u64.bits = s from Nat.min_eq_left hs]
  push_cast
  rfl
theorem toint_eq (k n : Nat) (hn : n < 18446744073709551616) : caulkerref05_ToInt.f (k + 1) (n : Int) = some (toI n) := by
  unfold caulkerref05_ToInt.f
  rw [parts_eq n hn, none_eq n hn, Option.bind_some, Option.bind_some]
  dsimp only
  unfold toI
  cases hN : isN n with
  | true => rfl
  | false =>
    rw [if_neg (by decide), if_neg (by decide), key_c63, key_m63]
    have hr : rung n ≤ 9218868437227405312 := by simpa [isN] using hN
    have kn := key_of n hn
    have hru : rung n = n % 9223372036854775808 := rfl
    have hsg : sgn n = decide (9223372036854775808 ≤ n) := by unfold sgn; rw [Bool.eq_iff_iff, beq_iff_eq, decide_eq_true_iff]; omega
    obtain ⟨e, he⟩ : ∃ e, n / 4503599627370496 % 2048 = e := ⟨_, rfl⟩
    obtain ⟨f, hf⟩ : ∃ f, n % 4503599627370496 = f := ⟨_, rfl⟩
    have he2 : rung n / 4503599627370496 = e := by omega
    have hf2 : rung n % 4503599627370496 = f := by omega
    rw [he, hf, caulkerref05_ToInt.j0]
    by_cases c1 : (e : Int) < 1023
    · rw [decide_eq_true c1, if_pos rfl, whole_wv, wv_0 _ (by omega)]
      have : sv (sgn n) 0 = 0 := by unfold sv; split <;> rfl
      rw [this, kn]
      split <;> (rw [if_neg (by omega), if_neg (by omega)])
    · rw [decide_eq_false c1, if_neg (by decide)]
      by_cases c2 : (e : Int) ≥ 1086
      · rw [if_pos c2]
        by_cases s : 9223372036854775808 ≤ n
        · rw [decide_eq_true s, if_pos rfl, kn, if_pos s, if_neg (by omega)]
          by_cases c3 : -((n : Int) - 9223372036854775808) < -4890909195324358656
          · rw [if_pos c3]
          · rw [if_neg c3, whole_wv, hsg, decide_eq_true s, wv_hi _ 1086 0 (by omega) (by omega) (by omega)]
            rfl
        · rw [decide_eq_false s, if_neg (by decide), kn, if_neg s, if_pos (by omega)]
      · rw [if_neg c2, kn]
        have hend : (if (4890909195324358656 : Int) ≤ (if 9223372036854775808 ≤ n then -((n : Int) - 9223372036854775808) else (n : Int)) then (9223372036854775807 : Int) else if (if 9223372036854775808 ≤ n then -((n : Int) - 9223372036854775808) else (n : Int)) < -4890909195324358656 then -9223372036854775808 else whole n) = whole n := by
          split <;> (rw [if_neg (by omega), if_neg (by omega)])
        rw [hend, whole_wv, hsg]
        have hv : wv (rung n) < 9223372036854775808 := by
          by_cases c3 : 1075 ≤ e
          · rw [wv_hi _ e f he2 hf2 c3]
            have h1 : (2 : Nat) ^ (e - 1075) ≤ 2 ^ 10 := Nat.pow_le_pow_right (by decide) (by omega)
            have h2 := Nat.mul_le_mul (show 4503599627370496 + f ≤ 9007199254740991 by omega) h1
            exact Nat.lt_of_le_of_lt h2 (by decide)
          · rw [wv_lo _ e f he2 hf2 (by omega) (by omega)]
            exact Nat.lt_of_le_of_lt (Nat.div_le_self _ _) (by omega)
        have fin : ∀ x : Int, x = (wv (rung n) : Int) → (if decide (9223372036854775808 ≤ n) = true then some (wrap64 (-(wrap64 x))) else some (wrap64 x)) = some (sv (decide (9223372036854775808 ≤ n)) (wv (rung n))) := by
          intro x hx
          subst hx
          unfold sv
          rw [wrap_id2 (n := (wv (rung n) : Int)) (by omega) (by omega), wrap_id2 (by omega) (by omega)]
          split <;> rfl
        by_cases c3 : (e : Int) ≥ 1075
        · rw [if_pos c3]
          have hs : IntKind.u64.wrap (wrap64 ((wrap64 ((e : Int) - 1023)) - 52)) = ((e - 1075 : Nat) : Int) := by
            rw [wrap_id2 (n := (e : Int) - 1023) (by omega) (by omega), wrap_id2 (by omega) (by omega), u64w _ (by omega) (by omega)]; omega
          rw [hs, if_pos (by omega)]
          apply fin
          rw [show IntKind.u64.wrap ((f : Int) + 4503599627370496) = ((4503599627370496 + f : Nat) : Int) by rw [u64w _ (by omega) (by omega)]; omega]
          have hw := wv_hi _ e f he2 hf2 (by omega)
          rw [hw] at hv ⊢
          exact shl_eq _ _ (by omega) (by omega)
        · rw [if_neg c3]
          have hs : IntKind.u64.wrap (wrap64 (1075 - (e : Int))) = ((1075 - e : Nat) : Int) := by
            rw [wrap_id2 (by omega) (by omega), u64w _ (by omega) (by omega)]; omega
          rw [hs, if_pos (by omega)]
          apply fin
          rw [show IntKind.u64.wrap ((f : Int) + 4503599627370496) = ((4503599627370496 + f : Nat) : Int) by rw [u64w _ (by omega) (by omega)]; omega]
          rw [wv_lo _ e f he2 hf2 (by omega) (by omega)]
          exact shr_eq _ _ (by omega)
end Go.Proofs.YtbnopcndjdpnkaaDoor.Pure
