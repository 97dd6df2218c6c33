import Derived.Test.YtbnopcndjdpnkaaDoorNumW2
namespace Go.Proofs.YtbnopcndjdpnkaaDoor.Pure
open Go.RowKit Go.Proofs.YtbnopcndjdpnkaaDoor.NuW Go.Proofs.YtbnopcndjdpnkaaDoor.Fl Ieee
/-- The word of a sign and a rung. -/
def wd (s : Bool) (r : Nat) : Nat := if s then 9223372036854775808 + r else r
theorem word_wd (s : Bool) (r : Nat) : double.word s r = wd s r := by
  unfold Format.word wd
  rw [c_sw]
theorem word_of (n : Nat) (h : n < 18446744073709551616) : n = wd (sgn n) (rung n) := by
  unfold wd sgn rung
  by_cases h1 : 9223372036854775808 ≤ n
  · rw [if_pos (by rw [beq_iff_eq]; omega)]; omega
  · rw [if_neg (by rw [beq_iff_eq]; omega)]; omega
theorem near0 (s : Bool) (p : Int) : double.nearest s 0 p = wd s 0 := by
  unfold Format.nearest
  rw [if_pos rfl, word_wd]
theorem winf (s : Bool) : double.write (.infinity s) = wd s 9218868437227405312 := by
  show double.word s double.infRung = _
  rw [word_wd, c_inf]
theorem wnum0 (s : Bool) (p : Int) : double.write (.number s 0 p) = wd s 0 := near0 s p
theorem read_inf {n : Nat} (h : rung n = 9218868437227405312) : double.read n = .infinity (sgn n) := by
  rw [read_eq, if_neg (by omega), if_neg (by omega), if_pos h]
theorem read_num {n : Nat} (h : rung n < 9218868437227405312) : ∃ (m : Nat) (i : Int), double.read n = .number (sgn n) m i ∧ (m = 0 ↔ rung n = 0) := by
  rw [read_eq]
  by_cases h1 : rung n < 4503599627370496
  · exact ⟨_, _, if_pos h1, Iff.rfl⟩
  · refine ⟨_, _, by rw [if_neg h1, if_pos h], ?_⟩
    omega
theorem read_zero {n : Nat} (h : rung n = 0) : ∃ i : Int, double.read n = .number (sgn n) 0 i := by
  obtain ⟨m, i, hr, hm⟩ := read_num (n := n) (by omega)
  exact ⟨i, by rw [hr, hm.2 h]⟩
theorem fadd (a b : Nat) : fop .add a b = ((((double.read a).sum (double.read b)).map double.write).getD nanB) := rfl
theorem fsub (a b : Nat) : fop .sub a b = ((((double.read a).sum (double.read b).opposite).map double.write).getD nanB) := rfl
theorem fmul (a b : Nat) : fop .mul a b = ((((double.read a).product (double.read b)).map double.write).getD nanB) := rfl
theorem fquo (a b : Nat) : fop .quo a b = ((((double.read a).quotient (double.fractionBits + 2) (double.read b)).map double.write).getD nanB) := rfl
theorem fop_isN {o : BinOp} {a b : Nat} (h : isN (fop o a b) = true) : fop o a b = nanB := by
  unfold fop at h ⊢
  cases hr : floatBits o .f64 a b with
  | none => rfl
  | some r =>
    rw [hr] at h
    have := floatBits_ok hr
    rw [Option.getD_some] at h
    rw [h] at this; cases this
theorem near_lt (s : Bool) (m : Nat) (e : Int) : double.nearest s m e < 18446744073709551616 := by
  unfold Format.nearest
  split
  · rw [word_wd]; unfold wd; split <;> omega
  · dsimp only
    rw [word_wd, c_inf]
    generalize (max _ _ - double.leastPlace).toNat * double.binade + _ = q
    have := Nat.min_le_right q 9218868437227405312
    unfold wd
    split <;> omega
theorem write_lt {d : Datum} (h : d.isNaN = false) : double.write d < 18446744073709551616 := by
  cases d with
  | nan s f => cases h
  | number s m i => exact near_lt s m i
  | infinity s => rw [winf]; unfold wd; split <;> omega
theorem opt_lt {o : Option Datum} (h : ∀ d, o = some d → d.isNaN = false) : ((o.map double.write).getD nanB) < 18446744073709551616 := by
  cases o with
  | none => exact (by decide : nanB < 18446744073709551616)
  | some d => exact write_lt (h d rfl)
theorem add_lt (a b : Nat) : fop .add a b < 18446744073709551616 := by rw [fadd]; exact opt_lt fun d h => sum_ok h
theorem sub_lt (a b : Nat) : fop .sub a b < 18446744073709551616 := by rw [fsub]; exact opt_lt fun d h => sum_ok h
theorem mul_lt (a b : Nat) : fop .mul a b < 18446744073709551616 := by rw [fmul]; exact opt_lt fun d h => product_ok h
theorem quo_lt (a b : Nat) : fop .quo a b < 18446744073709551616 := by rw [fquo]; exact opt_lt fun d h => quotient_ok h
theorem read_nan {n : Nat} (h : isN n = true) : ∃ s f, double.read n = .nan s f := by
  have := read_isN n
  rw [h] at this
  cases hr : double.read n with
  | nan s f => exact ⟨_, _, rfl⟩
  | number s m i => rw [hr] at this; cases this
  | infinity s => rw [hr] at this; cases this
theorem op_nan {a b : Nat} (h : isN a = true ∨ isN b = true) : fop .add a b = nanB ∧ fop .sub a b = nanB ∧ fop .mul a b = nanB ∧ fop .quo a b = nanB := by
  rw [fadd, fsub, fmul, fquo]
  rcases h with h | h
  · obtain ⟨s, f, hr⟩ := read_nan h
    rw [hr]
    cases double.read b <;> exact ⟨rfl, rfl, rfl, rfl⟩
  · obtain ⟨s, f, hr⟩ := read_nan h
    rw [hr]
    cases double.read a <;> exact ⟨rfl, rfl, rfl, rfl⟩
theorem emul_comm (a b : Nat) : fop .mul a b = fop .mul b a := by
  rw [fmul, fmul]
  have h : ∀ x y : Datum, x.product y = y.product x := by
    intro x y
    rcases x with ⟨s, m, i⟩ | ⟨s⟩ | ⟨s, f⟩ <;> rcases y with ⟨t, n, j⟩ | ⟨t⟩ | ⟨t, g⟩ <;> simp only [Datum.product] <;> first | (rw [Bool.xor_comm, Nat.mul_comm, Int.add_comm]) | (rw [Bool.xor_comm])
  rw [h]
section
variable {a b : Nat}
theorem add_ii (ha : rung a = 9218868437227405312) (hb : rung b = 9218868437227405312) : fop .add a b = if sgn a = sgn b then wd (sgn a) 9218868437227405312 else nanB := by
  rw [fadd, read_inf ha, read_inf hb]
  simp only [Datum.sum]
  by_cases h : sgn a = sgn b
  · rw [if_pos h, if_pos h, Option.map_some, Option.getD_some, winf]
  · rw [if_neg h, if_neg h]; rfl
theorem add_in (ha : rung a = 9218868437227405312) (hb : rung b < 9218868437227405312) : fop .add a b = wd (sgn a) 9218868437227405312 := by
  obtain ⟨m, i, hr, _⟩ := read_num hb
  rw [fadd, read_inf ha, hr]
  exact winf _
theorem add_ni (ha : rung a < 9218868437227405312) (hb : rung b = 9218868437227405312) : fop .add a b = wd (sgn b) 9218868437227405312 := by
  obtain ⟨m, i, hr, _⟩ := read_num ha
  rw [fadd, read_inf hb, hr]
  exact winf _
theorem signed0 (s : Bool) (k : Nat) : signed s 0 k = 0 := by
  unfold signed
  rw [Nat.zero_shiftLeft]
  cases s <;> rfl
theorem add_zz (ha : rung a = 0) (hb : rung b = 0) : fop .add a b = wd (sgn a && sgn b) 0 := by
  obtain ⟨i, hr⟩ := read_zero ha
  obtain ⟨j, hq⟩ := read_zero hb
  rw [fadd, hr, hq]
  simp only [Datum.sum, signed0]
  rw [Int.add_zero, if_pos rfl, Option.map_some, Option.getD_some, show (0 : Int).natAbs = 0 from rfl, wnum0]
theorem sub_ii (ha : rung a = 9218868437227405312) (hb : rung b = 9218868437227405312) : fop .sub a b = if sgn a = !sgn b then wd (sgn a) 9218868437227405312 else nanB := by
  rw [fsub, read_inf ha, read_inf hb]
  simp only [Datum.opposite, Datum.sum]
  by_cases h : sgn a = !sgn b
  · rw [if_pos h, if_pos h, Option.map_some, Option.getD_some, winf]
  · rw [if_neg h, if_neg h]; rfl
theorem sub_in (ha : rung a = 9218868437227405312) (hb : rung b < 9218868437227405312) : fop .sub a b = wd (sgn a) 9218868437227405312 := by
  obtain ⟨m, i, hr, _⟩ := read_num hb
  rw [fsub, read_inf ha, hr]
  exact winf _
theorem sub_ni (ha : rung a < 9218868437227405312) (hb : rung b = 9218868437227405312) : fop .sub a b = wd (!sgn b) 9218868437227405312 := by
  obtain ⟨m, i, hr, _⟩ := read_num ha
  rw [fsub, read_inf hb, hr]
  exact winf _
theorem sub_self' (ha : rung a < 9218868437227405312) : fop .sub a a = 0 := by
  obtain ⟨m, i, hr, _⟩ := read_num ha
  rw [fsub, hr]
  simp only [Datum.opposite, Datum.sum]
  have h0 : signed (sgn a) m (i - min i i).toNat + signed (!sgn a) m (i - min i i).toNat = 0 := by
    unfold signed
    cases sgn a <;> simp <;> omega
  rw [h0, if_pos rfl, Option.map_some, Option.getD_some, show (0 : Int).natAbs = 0 from rfl, wnum0]
  cases sgn a <;> rfl
theorem mul_ii (ha : rung a = 9218868437227405312) (hb : rung b = 9218868437227405312) : fop .mul a b = wd (sgn a ^^ sgn b) 9218868437227405312 := by
  rw [fmul, read_inf ha, read_inf hb]
  exact winf _
theorem mul_in (ha : rung a = 9218868437227405312) (hb : rung b < 9218868437227405312) (h0 : rung b ≠ 0) : fop .mul a b = wd (sgn a ^^ sgn b) 9218868437227405312 := by
  obtain ⟨m, i, hr, hm⟩ := read_num hb
  rw [fmul, read_inf ha, hr]
  simp only [Datum.product]
  rw [if_neg (fun e => h0 (hm.1 e))]
  exact winf _
theorem mul_iz (ha : rung a = 9218868437227405312) (hb : rung b = 0) : fop .mul a b = nanB := by
  obtain ⟨i, hr⟩ := read_zero hb
  rw [fmul, read_inf ha, hr]
  rfl
theorem mul_ni (ha : rung a < 9218868437227405312) (h0 : rung a ≠ 0) (hb : rung b = 9218868437227405312) : fop .mul a b = wd (sgn a ^^ sgn b) 9218868437227405312 := by
  rw [emul_comm, mul_in hb ha h0, Bool.xor_comm]
theorem mul_zi (ha : rung a = 0) (hb : rung b = 9218868437227405312) : fop .mul a b = nanB := by
  rw [emul_comm, mul_iz hb ha]
theorem mul_zn (ha : rung a = 0) (hb : rung b < 9218868437227405312) : fop .mul a b = wd (sgn a ^^ sgn b) 0 := by
  obtain ⟨i, hr⟩ := read_zero ha
  obtain ⟨m, j, hq, _⟩ := read_num hb
  rw [fmul, hr, hq]
  simp only [Datum.product]
  rw [Nat.zero_mul, Option.map_some, Option.getD_some, wnum0]
theorem mul_nz (ha : rung a < 9218868437227405312) (hb : rung b = 0) : fop .mul a b = wd (sgn a ^^ sgn b) 0 := by
  rw [emul_comm, mul_zn hb ha, Bool.xor_comm]
theorem quo_ii (ha : rung a = 9218868437227405312) (hb : rung b = 9218868437227405312) : fop .quo a b = nanB := by
  rw [fquo, read_inf ha, read_inf hb]
  rfl
theorem quo_zz (ha : rung a = 0) (hb : rung b = 0) : fop .quo a b = nanB := by
  obtain ⟨i, hr⟩ := read_zero ha
  obtain ⟨j, hq⟩ := read_zero hb
  rw [fquo, hr, hq]
  rfl
theorem quo_in (ha : rung a = 9218868437227405312) (hb : rung b < 9218868437227405312) : fop .quo a b = wd (sgn a ^^ sgn b) 9218868437227405312 := by
  obtain ⟨m, i, hr, hm⟩ := read_num hb
  rw [fquo, read_inf ha, hr]
  exact winf _
theorem quo_nz (ha : rung a < 9218868437227405312) (h0 : rung a ≠ 0) (hb : rung b = 0) : fop .quo a b = wd (sgn a ^^ sgn b) 9218868437227405312 := by
  obtain ⟨m, i, hr, hm⟩ := read_num ha
  obtain ⟨j, hq⟩ := read_zero hb
  rw [fquo, hr, hq]
  simp only [Datum.quotient]
  rw [if_pos trivial, if_neg (fun e => h0 (hm.1 e)), Option.map_some, Option.getD_some, winf]
theorem quo_ni (ha : rung a < 9218868437227405312) (hb : rung b = 9218868437227405312) : fop .quo a b = wd (sgn a ^^ sgn b) 0 := by
  obtain ⟨m, i, hr, hm⟩ := read_num ha
  rw [fquo, read_inf hb, hr]
  exact wnum0 _ _
theorem quo_zn (ha : rung a = 0) (hb : rung b < 9218868437227405312) (h0 : rung b ≠ 0) : fop .quo a b = wd (sgn a ^^ sgn b) 0 := by
  obtain ⟨i, hr⟩ := read_zero ha
  obtain ⟨m, j, hq, hm⟩ := read_num hb
  have hm0 : m ≠ 0 := fun e => h0 (hm.1 e)
  rw [fquo, hr, hq]
  simp only [Datum.quotient]
  rw [if_neg hm0, Nat.zero_shiftLeft, Nat.zero_div, Nat.zero_mod, Option.map_some, Option.getD_some]
  exact wnum0 _ _
end
end Go.Proofs.YtbnopcndjdpnkaaDoor.Pure
