import Derived.Test.YtbnopcndjdpnkaaDoorX9
import Derived.Test.YtbnopcndjdpnkaaDoorNumP0
import Derived.Test.YtbnopcndjdpnkaaDoorNumL3
import Derived.Test.YtbnopcndjdpnkaaDoorPureNumTurns
import Derived.Test.YtbnopcndjdpnkaaDoorPureNumCompares
namespace Go.Proofs.YtbnopcndjdpnkaaDoor.Pure
open Go.RowKit Go.Proofs.YtbnopcndjdpnkaaDoor.X Go.Proofs.YtbnopcndjdpnkaaDoorW.PrintWords Go.Proofs.YtbnopcndjdpnkaaDoorW.PrintLast Go.Proofs.YtbnopcndjdpnkaaDoor.NuW Go.Proofs.YtbnopcndjdpnkaaDoor.Fl
theorem op_add (n m : Nat) : num_FloatOp.f (⟨#[43]⟩ : ByteArray) (n : Int) (m : Int) = some (((fop .add n m : Nat) : Int), 0) := by
  unfold num_FloatOp.f LexW.fOp
  rw [if_pos ⟨by omega, by omega⟩, if_pos rfl, Int.toNat_natCast, Int.toNat_natCast]
theorem op_sub (n m : Nat) : num_FloatOp.f (⟨#[45]⟩ : ByteArray) (n : Int) (m : Int) = some (((fop .sub n m : Nat) : Int), 0) := by
  unfold num_FloatOp.f LexW.fOp
  rw [if_pos ⟨by omega, by omega⟩, if_neg (by decide), if_pos rfl, Int.toNat_natCast, Int.toNat_natCast]
theorem op_mul (n m : Nat) : num_FloatOp.f (⟨#[42]⟩ : ByteArray) (n : Int) (m : Int) = some (((fop .mul n m : Nat) : Int), 0) := by
  unfold num_FloatOp.f LexW.fOp
  rw [if_pos ⟨by omega, by omega⟩, if_neg (by decide), if_neg (by decide), if_pos rfl, Int.toNat_natCast, Int.toNat_natCast]
theorem op_neg (m : Nat) (h : m < 18446744073709551616) : num_FloatNeg.f (m : Int) = some ((fneg m : Nat) : Int) := by
  unfold num_FloatNeg.f LexW.fNeg
  rw [if_pos ⟨by omega, by omega⟩, Int.toNat_natCast]
theorem op_tof (a : Int) : num_ToFloat.f a = some ((floatOfInt .f64 a : Nat) : Int) := rfl
theorem op_toi (n : Nat) : num_ToInt.f (n : Int) = some (toI n) := by
  unfold num_ToInt.f LexW.fToInt
  rw [if_pos (by omega), Int.toNat_natCast]
theorem prod_bound (x y : Int) (x1 : -1000000 < x) (x2 : x < 1000000) (y1 : -1000000 < y) (y2 : y < 1000000) : -999998000001 ≤ x * y ∧ x * y ≤ 999998000001 := by
  have h : (x * y).natAbs ≤ 999999 * 999999 := by
    rw [Int.natAbs_mul]
    exact Nat.mul_le_mul (by omega) (by omega)
  generalize x * y = p at *
  omega
theorem toi_prod (x y : Int) (x1 : -1000000 < x) (x2 : x < 1000000) (y1 : -1000000 < y) (y2 : y < 1000000) : toI (fop .mul (floatOfInt .f64 x) (floatOfInt .f64 y)) = x * y := by
  have hb := prod_bound x y x1 x2 y1 y2
  by_cases h0 : x * y = 0
  · rw [h0]
    rcases mul_foi0 x y x1 x2 y1 y2 h0 with h | h
    · rw [h]; decide +kernel
    · rw [h]; decide +kernel
  · rw [mul_foi x y x1 x2 y1 y2 h0]
    exact back _ (by omega) (by omega)
theorem tmod_bound (i : Int) : -1000000 < Int.tmod i 1000000 ∧ Int.tmod i 1000000 < 1000000 := by
  have hlt : (Int.tmod i 1000000).natAbs < 1000000 := by
    rw [Int.natAbs_tmod]
    exact Nat.mod_lt _ (by decide)
  omega
theorem NumLaws0 (n m : Nat) (i j : Int) (hm : m < 18446744073709551616) (i1 : -2147483648 ≤ i) (i2 : i ≤ 2147483647) (j1 : -2147483648 ≤ j) (j2 : j ≤ 2147483647) : ∃ k, caulkerlaw05_NumLaws.f k (n : Int) (m : Int) i j = some true := by
  refine ⟨0 + 1, ?_⟩
  unfold caulkerlaw05_NumLaws.f
  rw [NumP.reckons, Option.bind_some, if_pos rfl, op_add, Option.bind_some, op_add, Option.bind_some, op_mul, Option.bind_some, op_mul, Option.bind_some, op_sub, Option.bind_some, op_neg m hm, Option.bind_some, op_add, Option.bind_some]
  dsimp only
  rw [if_pos (by rw [add_comm' n m]), if_pos (by rw [mul_comm' n m]), sub_neg n m hm, bne_self_eq_false, caulkerlaw05_NumLaws.j0, if_neg (by decide), wrap_id (i := i) (by omega) (by omega), wrap_id (i := j) (by omega) (by omega), wrap_id (i := i + j) (by omega) (by omega)]
  obtain ⟨x1, x2⟩ := tmod_bound i
  obtain ⟨y1, y2⟩ := tmod_bound j
  have hb := prod_bound _ _ x1 x2 y1 y2
  rw [wrap_id (i := Int.tmod i 1000000 * Int.tmod j 1000000) (by omega) (by omega)]
  simp only [op_tof, Option.bind_some, op_add, op_mul]
  rw [add_foi i j (by omega) (by omega) (by omega) (by omega), if_pos rfl, op_toi, Option.bind_some, toi_prod _ _ x1 x2 y1 y2, if_pos rfl]
  unfold caulkerlaw05_NumLaws.eq
  rw [Int.toNat_natCast, fEq_eq, ofInt_isN]
  simp
theorem laws_any (a0 a1 i j : Int) (w0 : (Lit.int .u64 a0).wf = true) (w1 : (Lit.int .u64 a1).wf = true) (wi : (Lit.int .i32 i).wf = true) (wj : (Lit.int .i32 j).wf = true) (W : World) (hg : LexW.GV W) : Calls Tryd.prog 9 #[.int .u64 a0, .int .u64 a1, .agg #[.int .i32 i, .int .i32 j]] W fun e W' => e = .returned (.bool true) ∧ Below W.heap.size W W' := by
  have g0 := u64_of w0
  have g1 := u64_of w1
  have gi : -2147483648 ≤ i ∧ i ≤ 2147483647 := by simpa [Lit.wf, IntKind.min, IntKind.max, IntKind.signed, IntKind.bits] using wi
  have gj : -2147483648 ≤ j ∧ j ≤ 2147483647 := by simpa [Lit.wf, IntKind.min, IntKind.max, IntKind.signed, IntKind.bits] using wj
  obtain ⟨n, rfl⟩ : ∃ n : Nat, a0 = (n : Int) := ⟨a0.toNat, by omega⟩
  obtain ⟨m, rfl⟩ : ∃ m : Nat, a1 = (m : Int) := ⟨a1.toNat, by omega⟩
  obtain ⟨k, h⟩ := NumLaws0 n m i j (by omega) gi.1 gi.2 gj.1 gj.2
  exact caulkerlaw05_NumLaws.calls k _ _ i j true W h hg
end Go.Proofs.YtbnopcndjdpnkaaDoor.Pure
