/- The program's functions on doubles, walked: FloatCompare, FloatNeg, ToFloat, ToInt. -/
import Derived.Test.YtbnopcndjdpnkaaDoorNumW1
import Derived.Test.YtbnopcndjdpnkaaDoorFloatInt
import Derived.Laws.Bits64
namespace Go.Proofs.YtbnopcndjdpnkaaDoor.NuW
open Go.RowKit Go.Proofs.YtbnopcndjdpnkaaDoorW.PrintWords Go.Proofs.YtbnopcndjdpnkaaDoorW.PrintLast Go.Proofs.YtbnopcndjdpnkaaDoor.X Go.Proofs.YtbnopcndjdpnkaaDoor.Fl
set_option linter.unusedVariables false
set_option linter.unusedSimpArgs false
attribute [local go_sem] run_from run_bits run_from2
def fLt (a b : Nat) : Bool := Ieee.double.order a b == some .lt
def fEq (a b : Nat) : Bool := Ieee.double.order a b == some .eq
def fGt (a b : Nat) : Bool := Ieee.double.order a b == some .gt
set_option maxRecDepth 100000 in
set_option maxHeartbeats 4000000 in
theorem fcmp_any (s : ByteArray) (a b : Nat) (r1 : Bool) (r2 : Int) (w : World) (h : num_holds.f s (fLt a b) (fEq a b) (fGt a b) = some (r1, r2)) : Calls Tryd.prog 24 #[.string s, .int .u64 (a : Int), .int .u64 (b : Int)] w fun e w' => e = .returned (.tuple #[.bool r1, .int .i64 r2]) ∧ Drawn0 w w' := by
  have h1 : (FloatKind.f64.format.order a b == some .lt) = fLt a b := rfl
  have h2 : (FloatKind.f64.format.order a b == some .eq) = fEq a b := rfl
  have h3 : (FloatKind.f64.format.order a b == some .gt) = fGt a b := rfl
  generalize fLt a b = L at h h1
  generalize fEq a b = E at h h2
  generalize fGt a b = G at h h3
  have HH := Lib.hid h
  clear h
  go_enter Tryd.func24, Tryd.ntmps24
  go_wp2_with (first | (go_at_call 39; (with_reducible refine (num_holds.calls s L E G r1 r2 _ HH.out).mono ?_); rintro e w1 ⟨rfl, hd⟩; have HD := Aside0.mk hd; clear hd))
  go_ret2
  exact ⟨rfl, HD.out⟩
def fneg (a : Nat) : Nat := if isN a then nanB else a ^^^ 9223372036854775808
theorem nanB_isN : isN nanB = true := by decide
theorem ne_nan {a : Nat} (h : isN a = false) : ((a : Int) == 9221120237041090561) = false := by
  refine beq_eq_false_iff_ne.2 (fun e => ?_)
  have e2 : a = nanB := by unfold nanB; omega
  rw [e2, nanB_isN] at h
  cases h
set_option maxRecDepth 100000 in
set_option maxHeartbeats 4000000 in
theorem fneg_nan (a : Nat) (w : World) (h : isN a = true) : Calls Tryd.prog 28 #[.int .u64 (a : Int)] w fun e w' => e = .returned (.int .u64 (fneg a : Int)) ∧ w = w' := by
  obtain ⟨V, hV⟩ : ∃ V, V = Value.int .u64 (fneg a : Int) := ⟨_, rfl⟩
  rw [← hV]
  have HV := Lib.hid hV
  have HN := Lib.hid h
  have HQ := Lib.hid (rfl : nanB = nanB)
  clear hV h
  go_enter Tryd.func28, Tryd.ntmps28
  go_wp2_with (first | (go_at_call 19; (with_reducible refine (norm_any _ _).mono ?_); rintro e w1 ⟨rfl, rfl⟩; rw [norm_nan' HN.out]; unfold nanB))
  go_ret
  exact ⟨by rw [HV.out]; unfold fneg; rw [HN.out]; rfl, rfl⟩
set_option maxRecDepth 100000 in
set_option maxHeartbeats 4000000 in
theorem fneg_ok (a : Nat) (w : World) (ha : a < 18446744073709551616) (h : isN a = false) : Calls Tryd.prog 28 #[.int .u64 (a : Int)] w fun e w' => e = .returned (.int .u64 (fneg a : Int)) ∧ w = w' := by
  obtain ⟨V, hV⟩ : ∃ V, V = Value.int .u64 (fneg a : Int) := ⟨_, rfl⟩
  rw [← hV]
  have k1 : ((a : Int) == 9221120237041090561) = false := ne_nan h
  have hx : bits .xor .u64 (a : Int) 9223372036854775808 = ((a ^^^ 9223372036854775808 : Nat) : Int) := bits_xor_u64_nat a 9223372036854775808 ha (by decide)
  have HX := Lib.hid hx
  clear hx ha
  have HV := Lib.hid hV
  have HN := Lib.hid h
  clear hV h
  go_enter Tryd.func28, Tryd.ntmps28
  go_wp2_with (first | (go_at_call 19; (with_reducible refine (norm_any _ _).mono ?_); rintro e w1 ⟨rfl, rfl⟩; rw [norm_ok HN.out]))
  go_ret
  exact ⟨by rw [HV.out]; unfold fneg; rw [HN.out, if_neg (by simp), ← HX.out]; rfl, rfl⟩
theorem tofloat_any (n : Int) (w : World) : Calls Tryd.prog 16 #[.int .i64 n] w fun e w' => e = .returned (.int .u64 ((floatOfInt .f64 n : Nat) : Int)) ∧ w = w' := by
  go_enter Tryd.func16, Tryd.ntmps16
  go_wp2
  go_ret
  exact ⟨rfl, rfl⟩
theorem fneg_any (a : Nat) (w : World) (ha : a < 18446744073709551616) : Calls Tryd.prog 28 #[.int .u64 (a : Int)] w fun e w' => e = .returned (.int .u64 (fneg a : Int)) ∧ w = w' := by
  cases h : isN a
  · exact fneg_ok a w ha h
  · exact fneg_nan a w h
set_option maxRecDepth 100000 in
set_option maxHeartbeats 4000000 in
theorem toint_any (a : Nat) (w : World) : Calls Tryd.prog 15 #[.int .u64 (a : Int)] w fun e w' => e = .returned (.int .i64 (toI a)) ∧ w = w' := by
  obtain ⟨V, hV⟩ : ∃ V, V = Value.int .i64 (toI a) := ⟨_, rfl⟩
  rw [← hV]
  have HV := Lib.hid hV
  clear hV
  cases hn : isN a
  · have h1 := ge_c63 hn
    have h2 := lt_m63 hn
    change (FloatKind.f64.format.order a 4890909195324358656 == some .gt || FloatKind.f64.format.order a 4890909195324358656 == some .eq) = _ at h1
    change (FloatKind.f64.format.order a 14114281232179134464 == some .lt) = _ at h2
    have HN := Lib.hid hn
    clear hn
    by_cases h3 : key c63 ≤ key a
    · rw [decide_eq_true h3] at h1
      have H3 := Lib.hid h3
      clear h3 h2
      go_enter Tryd.func15, Tryd.ntmps15
      go_wp2_with (first | (go_at_call 38; (with_reducible refine (isnan_any _ false _ HN.out).mono ?_); rintro e w1 ⟨rfl, rfl⟩))
      go_ret
      exact ⟨by rw [HV.out]; unfold toI; rw [HN.out, if_neg (by simp), if_pos H3.out]; rfl, rfl⟩
    · rw [decide_eq_false h3] at h1
      have H3 := Lib.hid h3
      by_cases h4 : key a < key m63
      · rw [decide_eq_true h4] at h2
        have H4 := Lib.hid h4
        clear h3 h4
        go_enter Tryd.func15, Tryd.ntmps15
        go_wp2_with (first | (go_at_call 38; (with_reducible refine (isnan_any _ false _ HN.out).mono ?_); rintro e w1 ⟨rfl, rfl⟩))
        go_ret
        exact ⟨by rw [HV.out]; unfold toI; rw [HN.out, if_neg (by simp), if_neg (by have := H3.out; omega), if_pos H4.out]; rfl, rfl⟩
      · rw [decide_eq_false h4] at h2
        have H4 := Lib.hid h4
        have hc := run_convert_float_int (P := Tryd.prog) w 53 2 .f64 .i64 a (whole a) (by kernel_rfl) Tryd.underlying2 (toIntVal (by omega) h4)
        have HW := Lib.hid (rfl : whole a = whole a)
        clear h3 h4
        go_enter Tryd.func15, Tryd.ntmps15
        go_wp2_with (first | (go_at_call 38; (with_reducible refine (isnan_any _ false _ HN.out).mono ?_); rintro e w1 ⟨rfl, rfl⟩))
        go_ret
        exact ⟨by rw [HV.out]; unfold toI; rw [HN.out, if_neg (by simp), if_neg (by have := H3.out; omega), if_neg (by have := H4.out; omega)]; rfl, rfl⟩
  · have HN := Lib.hid hn
    clear hn
    go_enter Tryd.func15, Tryd.ntmps15
    go_wp2_with (first | (go_at_call 38; (with_reducible refine (isnan_any _ true _ HN.out).mono ?_); rintro e w1 ⟨rfl, rfl⟩))
    go_ret
    exact ⟨by rw [HV.out]; unfold toI; rw [HN.out]; rfl, rfl⟩
end Go.Proofs.YtbnopcndjdpnkaaDoor.NuW
