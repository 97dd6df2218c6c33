import Derived.Test.YtbnopcndjdpnkaaDoorNumW2
import Derived.Test.YtbnopcndjdpnkaaDoorPureNumTurnsB
import Derived.Test.YtbnopcndjdpnkaaDoorNumP1
namespace Go.Proofs.YtbnopcndjdpnkaaDoor.Pure
open Go.RowKit Go.Proofs.YtbnopcndjdpnkaaDoor.NuW Go.Proofs.YtbnopcndjdpnkaaDoor.Fl Ieee
theorem sum_comm (x y : Datum) : x.sum y = y.sum x := by
  cases x <;> cases y <;> simp only [Datum.sum]
  · rename_i s m i t n j
    rw [Int.min_comm, Int.add_comm, Bool.and_comm]
  · rename_i s t
    by_cases h : s = t
    · subst h; rfl
    · rw [if_neg h, if_neg (fun e => h e.symm)]
theorem product_comm (x y : Datum) : x.product y = y.product x := by
  rcases x with ⟨s, m, i⟩ | ⟨s⟩ | ⟨s, f⟩ <;> rcases y with ⟨t, n, j⟩ | ⟨t⟩ | ⟨t, g⟩ <;> simp only [Datum.product] <;> first | (rw [Bool.xor_comm, Nat.mul_comm, Int.add_comm]) | (rw [Bool.xor_comm])
theorem add_comm' (a b : Nat) : fop .add a b = fop .add b a := by
  unfold fop floatBits
  dsimp only
  unfold Format.add
  rw [sum_comm]
theorem mul_comm' (a b : Nat) : fop .mul a b = fop .mul b a := by
  unfold fop floatBits
  dsimp only
  unfold Format.mul
  rw [product_comm]
/-- One number told at another place: the same nearest word. -/
theorem log2_shift (m c : Nat) (h : m ≠ 0) : (m * 2 ^ c).log2 = m.log2 + c := by
  have b1 : 2 ^ m.log2 ≤ m := Nat.log2_self_le h
  have b2 : m < 2 ^ (m.log2 + 1) := (Nat.log2_lt h).1 (Nat.lt_succ_self _)
  have h2 : m * 2 ^ c ≠ 0 := Nat.mul_ne_zero h (Nat.pos_iff_ne_zero.1 (Nat.two_pow_pos _))
  have h3 : (m * 2 ^ c).log2 < m.log2 + c + 1 := by
    rw [Nat.log2_lt h2, show m.log2 + c + 1 = m.log2 + 1 + c by omega, Nat.pow_add]
    exact Nat.mul_lt_mul_of_pos_right b2 (Nat.two_pow_pos _)
  have h4 : m.log2 + c ≤ (m * 2 ^ c).log2 := by
    rw [Nat.le_log2 h2, Nat.pow_add]
    exact Nat.mul_le_mul_right _ b1
  omega
/-- A word's other sign stands for the opposite. -/
theorem read_neg (b : Nat) (hb : b < 18446744073709551616) (hn : isN b = false) : double.read (b ^^^ 9223372036854775808) = (double.read b).opposite := by
  have hs : rung (b ^^^ 9223372036854775808) = rung b ∧ sgn (b ^^^ 9223372036854775808) = !(sgn b) := by
    by_cases h : b < 9223372036854775808
    · rw [NumP.xor_low b h]
      unfold rung sgn
      constructor
      · omega
      · rw [Bool.eq_iff_iff]; simp; omega
    · rw [NumP.xor_high b (by omega) hb]
      unfold rung sgn
      constructor
      · omega
      · rw [Bool.eq_iff_iff]; simp; omega
  rw [read_eq, read_eq, hs.1, hs.2]
  split
  · rfl
  · split
    · rfl
    · split
      · rfl
      · rename_i h1 h2 h3
        have : ¬ 9218868437227405312 < rung b := by unfold isN at hn; exact of_decide_eq_false hn
        omega
theorem sub_neg (a b : Nat) (hb : b < 18446744073709551616) : fop .sub a b = fop .add a (fneg b) := by
  unfold fop floatBits fneg
  dsimp only
  cases hn : isN b with
  | true =>
    have h1 : double.sub a b = none := by
      unfold Format.sub
      have := read_isN b
      rw [hn] at this
      cases hr : double.read b with
      | nan s f => cases double.read a <;> rfl
      | number s m i => rw [hr] at this; cases this
      | infinity s => rw [hr] at this; cases this
    have h2 : double.add a nanB = none := by
      unfold Format.add
      have := read_isN nanB
      rw [nanB_isN] at this
      cases hr : double.read nanB with
      | nan s f => cases double.read a <;> rfl
      | number s m i => rw [hr] at this; cases this
      | infinity s => rw [hr] at this; cases this
    show (double.sub a b).getD nanB = (double.add a nanB).getD nanB
    rw [h1, h2]
  | false =>
    show (double.sub a b).getD nanB = (double.add a (b ^^^ 9223372036854775808)).getD nanB
    unfold Format.sub Format.add
    rw [read_neg b hb hn]
end Go.Proofs.YtbnopcndjdpnkaaDoor.Pure
