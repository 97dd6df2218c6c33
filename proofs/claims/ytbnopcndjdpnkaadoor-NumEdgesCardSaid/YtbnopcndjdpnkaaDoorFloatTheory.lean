/- Doubles by their bits: what is no number, what is less; what comes of + - * / is a number or infinite. No program; no condition beyond those named. -/
import Derived.Laws.FloatArith
namespace Go.Proofs.YtbnopcndjdpnkaaDoor.Fl
open Ieee
theorem c_sw : double.signWeight = 9223372036854775808 := by decide
theorem c_bi : double.binade = 4503599627370496 := by decide
theorem c_inf : double.infRung = 9218868437227405312 := by decide
theorem c_lp : double.leastPlace = -1074 := by decide
theorem c_w : double.width = 64 := rfl
def sgn (a : Nat) : Bool := a / 9223372036854775808 % 2 == 1
def rung (a : Nat) : Nat := a % 9223372036854775808
/-- Is it no number? -/
def isN (a : Nat) : Bool := decide (9218868437227405312 < rung a)
def nanB : Nat := 9221120237041090561
def norm (a : Nat) : Nat := if isN a then nanB else a
theorem read_eq (a : Nat) : double.read a = if rung a < 4503599627370496 then .number (sgn a) (rung a) (-1074) else if rung a < 9218868437227405312 then .number (sgn a) (4503599627370496 + rung a % 4503599627370496) (-1074 + ((rung a / 4503599627370496 - 1 : Nat) : Int)) else if rung a = 9218868437227405312 then .infinity (sgn a) else .nan (sgn a) (rung a - 9218868437227405312) := by
  unfold Format.read
  rw [c_sw, c_bi, c_inf, c_lp]
  rfl
theorem read_isN (a : Nat) : (double.read a).isNaN = isN a := by
  rw [read_eq]
  unfold isN
  by_cases h1 : rung a < 4503599627370496
  · rw [if_pos h1]
    exact (decide_eq_false (by omega)).symm
  · rw [if_neg h1]
    by_cases h2 : rung a < 9218868437227405312
    · rw [if_pos h2]
      exact (decide_eq_false (by omega)).symm
    · rw [if_neg h2]
      by_cases h3 : rung a = 9218868437227405312
      · rw [if_pos h3]
        exact (decide_eq_false (by omega)).symm
      · rw [if_neg h3]
        exact (decide_eq_true (by omega)).symm
theorem order_nan {a b : Nat} (h : isN a = true ∨ isN b = true) : double.order a b = none := by
  unfold Format.order
  rw [← read_isN, ← read_isN] at h
  generalize double.read a = x at *
  generalize double.read b = y at *
  cases x <;> cases y <;> simp_all [Datum.isNaN, Datum.order]
/-- A magnitude, by its rung: times 2 to the 1074. -/
def mag (r : Nat) : Nat := if r < 4503599627370496 then r else (4503599627370496 + r % 4503599627370496) * 2 ^ (r / 4503599627370496 - 1)
theorem mag_lt {r s : Nat} (h : r < s) : mag r < mag s := by
  unfold mag
  by_cases h1 : s < 4503599627370496
  · rw [if_pos h1, if_pos (by omega)]; exact h
  · rw [if_neg h1]
    have hs2 : 1 ≤ 2 ^ (s / 4503599627370496 - 1) := Nat.one_le_two_pow
    by_cases h2 : r < 4503599627370496
    · rw [if_pos h2]
      calc r < 4503599627370496 + s % 4503599627370496 := by omega
        _ = (4503599627370496 + s % 4503599627370496) * 1 := by rw [Nat.mul_one]
        _ ≤ _ := Nat.mul_le_mul_left _ hs2
    · rw [if_neg h2]
      have hr1 : 1 ≤ r / 4503599627370496 := by omega
      have hs1 : 1 ≤ s / 4503599627370496 := by omega
      by_cases h3 : r / 4503599627370496 = s / 4503599627370496
      · rw [h3]
        exact Nat.mul_lt_mul_of_pos_right (by omega) (by omega)
      · have h4 : r / 4503599627370496 + 1 ≤ s / 4503599627370496 := by omega
        have h5 : 2 ^ (r / 4503599627370496 - 1) * 2 ≤ 2 ^ (s / 4503599627370496 - 1) := by
          rw [← Nat.pow_succ]
          exact Nat.pow_le_pow_right (by omega) (by omega)
        have h6 : 0 < 2 ^ (r / 4503599627370496 - 1) := Nat.two_pow_pos _
        calc (4503599627370496 + r % 4503599627370496) * 2 ^ (r / 4503599627370496 - 1) < (4503599627370496 * 2) * 2 ^ (r / 4503599627370496 - 1) := Nat.mul_lt_mul_of_pos_right (by omega) h6
          _ = 4503599627370496 * (2 ^ (r / 4503599627370496 - 1) * 2) := by rw [Nat.mul_assoc, Nat.mul_comm 2]
          _ ≤ 4503599627370496 * 2 ^ (s / 4503599627370496 - 1) := Nat.mul_le_mul_left _ h5
          _ ≤ _ := Nat.mul_le_mul_right _ (by omega)
theorem mag_inj {r s : Nat} (h : mag r = mag s) : r = s := by
  rcases Nat.lt_trichotomy r s with h1 | h1 | h1
  · have := mag_lt h1; omega
  · exact h1
  · have := mag_lt h1; omega
def key (a : Nat) : Int := if sgn a then -(rung a : Int) else (rung a : Int)
def sv (s : Bool) (n : Nat) : Int := if s then -(n : Int) else (n : Int)
theorem mag_lt_iff {r s : Nat} : mag r < mag s ↔ r < s := ⟨fun h => by rcases Nat.lt_trichotomy r s with h1 | h1 | h1; exact h1; subst h1; omega; have := mag_lt h1; omega, mag_lt⟩
theorem mag_zero : mag 0 = 0 := by unfold mag; simp
theorem sv_cmp (s t : Bool) (r q : Nat) : compare (sv s (mag r)) (sv t (mag q)) = compare (sv s r) (sv t q) := by
  have h1 := @mag_lt_iff r q
  have h2 := @mag_lt_iff q r
  have h3 : 0 < mag r ↔ 0 < r := by have := @mag_lt_iff 0 r; rwa [mag_zero] at this
  have h4 : 0 < mag q ↔ 0 < q := by have := @mag_lt_iff 0 q; rwa [mag_zero] at this
  unfold sv
  simp only [compare, compareOfLessAndEq]
  cases s <;> cases t <;> simp only [Bool.false_eq_true, if_true, if_false] <;> (repeat' split) <;> first | rfl | omega
theorem signed_eq (s : Bool) (m k : Nat) : signed s m k = sv s (m * 2 ^ k) := by
  unfold signed sv
  rw [Nat.shiftLeft_eq]
theorem sv_mul (s : Bool) (n k : Nat) : sv s (n * k) = sv s n * (k : Int) := by
  unfold sv
  cases s <;> simp [Int.neg_mul]
theorem cmp_mul {x y : Int} {k : Nat} (hk : 0 < k) : compare (x * (k : Int)) (y * (k : Int)) = compare x y := by
  have hk' : 0 < (k : Int) := by omega
  have h1 : x * (k : Int) < y * (k : Int) ↔ x < y := Int.mul_lt_mul_right hk'
  have h2 : x * (k : Int) = y * (k : Int) ↔ x = y := ⟨fun h => Int.eq_of_mul_eq_mul_right (by omega) h, fun h => by rw [h]⟩
  simp only [compare, compareOfLessAndEq, h1, h2]
theorem order_number (s t : Bool) (m n p q : Nat) : Datum.order (.number s m (-1074 + (p : Int))) (.number t n (-1074 + (q : Int))) = some (compare (sv s (m * 2 ^ p)) (sv t (n * 2 ^ q))) := by
  show some (compare (signed s m _) (signed t n _)) = _
  rw [signed_eq, signed_eq]
  congr 1
  rcases Nat.le_total p q with h | h
  · rw [show (-1074 + (p : Int) - min (-1074 + (p : Int)) (-1074 + (q : Int))).toNat = 0 by omega, show (-1074 + (q : Int) - min (-1074 + (p : Int)) (-1074 + (q : Int))).toNat = q - p by omega]
    rw [← cmp_mul (k := 2 ^ p) (Nat.two_pow_pos _), ← sv_mul, ← sv_mul, Nat.pow_zero, Nat.mul_one, Nat.mul_assoc n, ← Nat.pow_add, Nat.sub_add_cancel h]
  · rw [show (-1074 + (p : Int) - min (-1074 + (p : Int)) (-1074 + (q : Int))).toNat = p - q by omega, show (-1074 + (q : Int) - min (-1074 + (p : Int)) (-1074 + (q : Int))).toNat = 0 by omega]
    rw [← cmp_mul (k := 2 ^ q) (Nat.two_pow_pos _), ← sv_mul, ← sv_mul, Nat.pow_zero, Nat.mul_one, Nat.mul_assoc m, ← Nat.pow_add, Nat.sub_add_cancel h]
/-- A finite double, as a number. -/
theorem read_fin {a : Nat} (h : rung a < 9218868437227405312) : ∃ (m p : Nat), double.read a = .number (sgn a) m (-1074 + (p : Int)) ∧ m * 2 ^ p = mag (rung a) := by
  rw [read_eq]
  simp only [h, if_true]
  unfold mag
  split
  · exact ⟨rung a, 0, rfl, by simp⟩
  · exact ⟨_, _, rfl, rfl⟩
theorem order_key {a b : Nat} (ha : isN a = false) (hb : isN b = false) : double.order a b = some (compare (key a) (key b)) := by
  have ha' : rung a ≤ 9218868437227405312 := by simpa [isN] using ha
  have hb' : rung b ≤ 9218868437227405312 := by simpa [isN] using hb
  have hka : key a = sv (sgn a) (rung a) := rfl
  have hkb : key b = sv (sgn b) (rung b) := rfl
  unfold Format.order
  rw [hka, hkb]
  by_cases h1 : rung a < 9218868437227405312
  · obtain ⟨m, p, e1, e2⟩ := read_fin h1
    by_cases h2 : rung b < 9218868437227405312
    · obtain ⟨n, q, e3, e4⟩ := read_fin h2
      rw [e1, e3, order_number, e2, e4, sv_cmp]
    · have h3 : rung b = 9218868437227405312 := by omega
      have e3 : double.read b = .infinity (sgn b) := by rw [read_eq, if_neg (by omega), if_neg (by omega), if_pos h3]
      rw [e1, e3, h3]
      show some (if sgn b = true then Ordering.gt else .lt) = _
      unfold sv
      simp only [compare, compareOfLessAndEq]
      cases sgn a <;> cases sgn b <;> simp only [Bool.false_eq_true, if_true, if_false] <;> (repeat' split) <;> first | rfl | omega
  · have h3 : rung a = 9218868437227405312 := by omega
    have e1 : double.read a = .infinity (sgn a) := by rw [read_eq, if_neg (by omega), if_neg (by omega), if_pos h3]
    by_cases h2 : rung b < 9218868437227405312
    · obtain ⟨n, q, e3, e4⟩ := read_fin h2
      rw [e1, e3, h3]
      show some (if sgn a = true then Ordering.lt else .gt) = _
      unfold sv
      simp only [compare, compareOfLessAndEq]
      cases sgn a <;> cases sgn b <;> simp only [Bool.false_eq_true, if_true, if_false] <;> (repeat' split) <;> first | rfl | omega
    · have h4 : rung b = 9218868437227405312 := by omega
      have e3 : double.read b = .infinity (sgn b) := by rw [read_eq, if_neg (by omega), if_neg (by omega), if_pos h4]
      rw [e1, e3, h3, h4]
      cases sgn a <;> cases sgn b <;> rfl
theorem neq_self (a : Nat) : (double.order a a != some .eq) = isN a := by
  cases h : isN a
  · rw [order_key h h]
    simp [compare, compareOfLessAndEq]
  · rw [order_nan (.inl h)]
    rfl
/-! What an operation answers is a number or infinite. -/
theorem word_isN (s : Bool) {r : Nat} (h : r ≤ 9218868437227405312) : isN (double.word s r) = false := by
  unfold isN rung Format.word
  rw [c_sw]
  cases s <;> simp <;> omega
theorem nearest_isN (s : Bool) (m : Nat) (e : Int) : isN (double.nearest s m e) = false := by
  unfold Format.nearest
  dsimp only
  split
  · exact word_isN _ (Nat.zero_le _)
  · refine word_isN _ ?_
    rw [c_inf]
    exact Nat.min_le_right _ _
theorem write_isN {d : Datum} (h : d.isNaN = false) : isN (double.write d) = false := by
  cases d with
  | number s m e => exact nearest_isN s m e
  | infinity s => exact word_isN s (by rw [c_inf]; exact Nat.le_refl _)
  | nan s f => cases h
theorem sum_ok {x y d : Datum} (h : x.sum y = some d) : d.isNaN = false := by
  cases x <;> cases y <;> simp only [Datum.sum] at h <;> first | (cases h; done) | (cases h; rfl) | (split at h <;> cases h; rfl)
theorem product_ok {x y d : Datum} (h : x.product y = some d) : d.isNaN = false := by
  cases x <;> cases y <;> simp only [Datum.product] at h <;> first | (cases h; done) | (cases h; rfl) | (split at h <;> cases h; rfl)
theorem quotient_ok {x y d : Datum} {k : Nat} (h : x.quotient k y = some d) : d.isNaN = false := by
  cases x <;> cases y <;> simp only [Datum.quotient] at h <;> first | (cases h; done) | (cases h; rfl) | (split at h <;> first | (cases h; rfl) | (split at h <;> cases h; rfl))
theorem floatBits_ok {op : BinOp} {x y r : Nat} (h : floatBits op .f64 x y = some r) : isN r = false := by
  unfold floatBits at h
  have key : ∀ {d : Option Datum}, (∀ d', d = some d' → d'.isNaN = false) → d.map double.write = some r → isN r = false := by
    intro d hd hm
    obtain ⟨d', rfl, rfl⟩ := Option.map_eq_some_iff.1 hm
    exact write_isN (hd d' rfl)
  split at h
  · exact key (fun d' hd => sum_ok hd) h
  · exact key (fun d' hd => sum_ok hd) h
  · exact key (fun d' hd => product_ok hd) h
  · exact key (fun d' hd => quotient_ok hd) h
  · cases h
end Go.Proofs.YtbnopcndjdpnkaaDoor.Fl
