/- The program's functions on numbers as px.py's callers take them; what is told of the library's tables (GV). -/
import Derived.Test.YtbnopcndjdpnkaaDoorNumW6
namespace Go.Proofs.YtbnopcndjdpnkaaDoor.LexW
open Go.RowKit Go.Proofs.YtbnopcndjdpnkaaDoorW.PrintWords Go.Proofs.YtbnopcndjdpnkaaDoorW.PrintLast Go.Proofs.YtbnopcndjdpnkaaDoor.X Go.Proofs.YtbnopcndjdpnkaaDoor.Fl Go.Proofs.YtbnopcndjdpnkaaDoor.NuW
set_option linter.unusedVariables false
set_option linter.unusedSimpArgs false
def GV (W : World) : Prop := NuW.GV W
theorem GV.later {W W' : World} (h : GV W) (hb : Below W.heap.size W W') : GV W' := NuW.GV.later h hb
theorem GV.drewN {W : World} (h : GV W) (n : Nat) : GV (W.drewN n) := NuW.GV.later h (pw_below_drewN (Below.refl _ _) n)
theorem d0 (w : World) : Drawn0 w w := Drawn0.refl w
def fNorm (a0 : Int) : Option Int := if 0 ≤ a0 then some ((Fl.norm a0.toNat : Nat) : Int) else none
theorem cNorm (a0 r : Int) (w : World) (h : fNorm a0 = some r) : Calls Tryd.prog 19 #[.int .u64 a0] w fun e w' => e = .returned (.int .u64 r) ∧ Drawn0 w w' := by
  unfold fNorm at h
  by_cases h0 : 0 ≤ a0
  · rw [if_pos h0] at h
    obtain ⟨n, rfl⟩ : ∃ n : Nat, a0 = (n : Int) := ⟨a0.toNat, by omega⟩
    obtain rfl := Option.some.inj h
    rw [Int.toNat_natCast]
    exact (norm_any n w).mono fun e w' ⟨he, hw⟩ => ⟨he, by rw [← hw]; exact d0 w⟩
  · rw [if_neg h0] at h; cases h
def fNeg (a0 : Int) : Option Int := if 0 ≤ a0 ∧ a0 < 18446744073709551616 then some ((fneg a0.toNat : Nat) : Int) else none
theorem cNeg (a0 r : Int) (w : World) (h : fNeg a0 = some r) : Calls Tryd.prog 28 #[.int .u64 a0] w fun e w' => e = .returned (.int .u64 r) ∧ Drawn0 w w' := by
  unfold fNeg at h
  by_cases h0 : 0 ≤ a0 ∧ a0 < 18446744073709551616
  · rw [if_pos h0] at h
    obtain ⟨n, rfl⟩ : ∃ n : Nat, a0 = (n : Int) := ⟨a0.toNat, by omega⟩
    obtain rfl := Option.some.inj h
    rw [Int.toNat_natCast]
    exact (fneg_any n w (by omega)).mono fun e w' ⟨he, hw⟩ => ⟨he, by rw [← hw]; exact d0 w⟩
  · rw [if_neg h0] at h; cases h
def fToInt (a0 : Int) : Option Int := if 0 ≤ a0 then some (toI a0.toNat) else none
theorem cToInt (a0 r : Int) (w : World) (h : fToInt a0 = some r) : Calls Tryd.prog 15 #[.int .u64 a0] w fun e w' => e = .returned (.int .i64 r) ∧ Drawn0 w w' := by
  unfold fToInt at h
  by_cases h0 : 0 ≤ a0
  · rw [if_pos h0] at h
    obtain ⟨n, rfl⟩ : ∃ n : Nat, a0 = (n : Int) := ⟨a0.toNat, by omega⟩
    obtain rfl := Option.some.inj h
    rw [Int.toNat_natCast]
    exact (toint_any n w).mono fun e w' ⟨he, hw⟩ => ⟨he, by rw [← hw]; exact d0 w⟩
  · rw [if_neg h0] at h; cases h
def fToFloat (a0 : Int) : Option Int := some ((floatOfInt .f64 a0 : Nat) : Int)
theorem cToFloat (a0 r : Int) (w : World) (h : fToFloat a0 = some r) : Calls Tryd.prog 16 #[.int .i64 a0] w fun e w' => e = .returned (.int .u64 r) ∧ Drawn0 w w' := by
  obtain rfl := Option.some.inj h
  exact (tofloat_any a0 w).mono fun e w' ⟨he, hw⟩ => ⟨he, by rw [← hw]; exact d0 w⟩
def holdsV (s : ByteArray) (l e g : Bool) : Option (Bool × Int) := num_holds.f s l e g
def fCmp (a0 : ByteArray) (a1 a2 : Int) : Option (Bool × Int) := if 0 ≤ a1 ∧ 0 ≤ a2 then num_holds.f a0 (fLt a1.toNat a2.toNat) (fEq a1.toNat a2.toNat) (fGt a1.toNat a2.toNat) else none
theorem cCmp (a0 : ByteArray) (a1 a2 : Int) (r1 : Bool) (r2 : Int) (w : World) (h : fCmp a0 a1 a2 = some (r1, r2)) : Calls Tryd.prog 24 #[.string a0, .int .u64 a1, .int .u64 a2] w fun e w' => e = .returned (.tuple #[.bool r1, .int .i64 r2]) ∧ Drawn0 w w' := by
  unfold fCmp at h
  by_cases h0 : 0 ≤ a1 ∧ 0 ≤ a2
  · rw [if_pos h0] at h
    obtain ⟨n, rfl⟩ : ∃ n : Nat, a1 = (n : Int) := ⟨a1.toNat, by omega⟩
    obtain ⟨m, rfl⟩ : ∃ m : Nat, a2 = (m : Int) := ⟨a2.toNat, by omega⟩
    rw [Int.toNat_natCast, Int.toNat_natCast] at h
    exact fcmp_any a0 n m r1 r2 w h
  · rw [if_neg h0] at h; cases h
def fOp (a0 : ByteArray) (a1 a2 : Int) : Option (Int × Int) := if 0 ≤ a1 ∧ 0 ≤ a2 then (if a0 = ⟨#[43]⟩ then some ((fop .add a1.toNat a2.toNat : Nat), 0) else if a0 = ⟨#[45]⟩ then some ((fop .sub a1.toNat a2.toNat : Nat), 0) else if a0 = ⟨#[42]⟩ then some ((fop .mul a1.toNat a2.toNat : Nat), 0) else if a0 = ⟨#[47]⟩ then some ((fop .quo a1.toNat a2.toNat : Nat), 0) else none) else none
theorem cOp (a0 : ByteArray) (a1 a2 r1 r2 : Int) (w : World) (h : fOp a0 a1 a2 = some (r1, r2)) : Calls Tryd.prog 27 #[.string a0, .int .u64 a1, .int .u64 a2] w fun e w' => e = .returned (.tuple #[.int .u64 r1, .int .i64 r2]) ∧ Below w.heap.size w w' := by
  unfold fOp at h
  by_cases h0 : 0 ≤ a1 ∧ 0 ≤ a2
  · rw [if_pos h0] at h
    obtain ⟨n, rfl⟩ : ∃ n : Nat, a1 = (n : Int) := ⟨a1.toNat, by omega⟩
    obtain ⟨m, rfl⟩ : ∃ m : Nat, a2 = (m : Int) := ⟨a2.toNat, by omega⟩
    rw [Int.toNat_natCast, Int.toNat_natCast] at h
    by_cases c1 : a0 = ⟨#[43]⟩
    · rw [if_pos c1, Option.some.injEq, Prod.mk.injEq] at h
      obtain ⟨rfl, rfl⟩ := h
      subst c1
      exact fop_add_any n m w
    · rw [if_neg c1] at h
      by_cases c2 : a0 = ⟨#[45]⟩
      · rw [if_pos c2, Option.some.injEq, Prod.mk.injEq] at h
        obtain ⟨rfl, rfl⟩ := h
        subst c2
        exact fop_sub_any n m w
      · rw [if_neg c2] at h
        by_cases c3 : a0 = ⟨#[42]⟩
        · rw [if_pos c3, Option.some.injEq, Prod.mk.injEq] at h
          obtain ⟨rfl, rfl⟩ := h
          subst c3
          exact fop_mul_any n m w
        · rw [if_neg c3] at h
          by_cases c4 : a0 = ⟨#[47]⟩
          · rw [if_pos c4, Option.some.injEq, Prod.mk.injEq] at h
            obtain ⟨rfl, rfl⟩ := h
            subst c4
            exact fop_quo_any n m w
          · rw [if_neg c4] at h; cases h
  · rw [if_neg h0] at h; cases h
def fFloat (a0 : ByteArray) : Option (Int × Int) := if a0.size ≤ 4611686018427387904 then some (((flV a0).1 : Nat), (flV a0).2) else none
theorem cFloat (a0 : ByteArray) (r1 r2 : Int) (w : World) (h : fFloat a0 = some (r1, r2)) (hgv : GV w) : Calls Tryd.prog 13 #[.string a0] w fun e w' => e = .returned (.tuple #[.int .u64 r1, .int .i64 r2]) ∧ Below w.heap.size w w' := by
  unfold fFloat at h
  by_cases h0 : a0.size ≤ 4611686018427387904
  · rw [if_pos h0, Option.some.injEq, Prod.mk.injEq] at h
    obtain ⟨rfl, rfl⟩ := h
    exact float_any a0 w hgv h0
  · rw [if_neg h0] at h; cases h
def fInt (a0 : ByteArray) : Option (Int × Int) := if a0.size ≤ 281474976710656 then some ((intV a0).1, (intV a0).2) else none
theorem cInt (a0 : ByteArray) (r1 r2 : Int) (w : World) (h : fInt a0 = some (r1, r2)) (hgv : GV w) : Calls Tryd.prog 11 #[.string a0] w fun e w' => e = .returned (.tuple #[.int .i64 r1, .int .i64 r2]) ∧ Below w.heap.size w w' := by
  unfold fInt at h
  by_cases h0 : a0.size ≤ 281474976710656
  · rw [if_pos h0, Option.some.injEq, Prod.mk.injEq] at h
    obtain ⟨rfl, rfl⟩ := h
    exact int_any a0 w hgv h0
  · rw [if_neg h0] at h; cases h
end Go.Proofs.YtbnopcndjdpnkaaDoor.LexW
