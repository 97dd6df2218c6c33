/- Reading a double's text of digits, a point, digits: special, readFloat. -/
import Derived.Test.YtbnopcndjdpnkaaDoorNumW2
import Derived.Test.YtbnopcndjdpnkaaDoorX49
import Derived.WalkMore
namespace Go.Proofs.YtbnopcndjdpnkaaDoor.NuW
open Go.RowKit Go.Proofs.YtbnopcndjdpnkaaDoorW.PrintWords Go.Proofs.YtbnopcndjdpnkaaDoorW.PrintLast Go.Proofs.YtbnopcndjdpnkaaDoor.X Go.Proofs.YtbnopcndjdpnkaaDoor.Fl
set_option linter.unusedVariables false
set_option linter.unusedSimpArgs false
/-- Digits, a point at p, digits; fifteen digits at most; no nought too many. -/
structure FD (s : ByteArray) (p : Nat) : Prop where
  h1 : 1 ≤ p
  h2 : p + 1 < s.size
  h3 : s.size ≤ 16
  dot : bt s (p : Int) = 46
  dig : ∀ i : Nat, i < s.size → i ≠ p → 48 ≤ bt s (i : Int) ∧ bt s (i : Int) ≤ 57
  lead : 1 < p → bt s 0 ≠ 48
/-- What the digits ahead of i say. -/
def vD (s : ByteArray) (p : Nat) : Nat → Nat
  | 0 => 0
  | i + 1 => if i = p then vD s p i else 10 * vD s p i + (bt s (i : Int) - 48).toNat
theorem vD_lt {s : ByteArray} {p : Nat} (h : FD s p) : ∀ i, i ≤ s.size → vD s p i < 10 ^ i
  | 0, _ => by simp [vD]
  | i + 1, hi => by
    have := vD_lt h i (by omega)
    rw [vD, Nat.pow_succ]
    split
    · omega
    · rename_i hne
      have := h.dig i (by omega) hne
      omega
theorem vD_small {s : ByteArray} {p : Nat} (h : FD s p) {i : Nat} (hi : i ≤ s.size) : vD s p i < 10000000000000000 := by
  have h1 := vD_lt h i hi
  have h2 : 10 ^ i ≤ 10 ^ 16 := Nat.pow_le_pow_right (by omega) (by have := h.h3; omega)
  have h3 : (10 : Nat) ^ 16 = 10000000000000000 := by decide
  omega
set_option maxRecDepth 100000 in
set_option maxHeartbeats 4000000 in
theorem special_any (s : ByteArray) (w : World) (hs : 0 < s.size) (hc : 48 ≤ bt s 0 ∧ bt s 0 ≤ 57) : Calls Tryd.prog 57 #[.string s] w fun e w' => e = .returned (.tuple #[.float .f64 0, .int .i64 0, .bool false]) ∧ Below w.heap.size w w' := by
  have HB := Aside0.mk (Below.refl w.heap.size w)
  have hx : ∀ h : 0 < s.size, ((s[0]'h).toNat : Int) = bt s 0 := fun h => bt_at s 0 h
  have q0 : (0 < (s.size : Int)) = True := eq_true (by omega)
  have q0' : (0 < s.size) = True := eq_true hs
  have k0 : ((s.size : Int) == 0) = false := beq_eq_false_iff_ne.2 (by omega)
  have k0' : (s.size == 0) = false := beq_eq_false_iff_ne.2 (by omega)
  have k43 : (bt s 0 == 43) = false := beq_eq_false_iff_ne.2 (by omega)
  have k45 : (bt s 0 == 45) = false := beq_eq_false_iff_ne.2 (by omega)
  have k105 : (bt s 0 == 105) = false := beq_eq_false_iff_ne.2 (by omega)
  have k73 : (bt s 0 == 73) = false := beq_eq_false_iff_ne.2 (by omega)
  have k110 : (bt s 0 == 110) = false := beq_eq_false_iff_ne.2 (by omega)
  have k78 : (bt s 0 == 78) = false := beq_eq_false_iff_ne.2 (by omega)
  clear hc hs
  go_enter Tryd.func57, Tryd.ntmps57
  go_wp2
  go_ret3
  exact ⟨rfl, pxb HB⟩
/-- How many digits there are ahead of i, from the first that is no nought on. -/
def nD (s : ByteArray) (p : Nat) : Nat → Nat
  | 0 => 0
  | i + 1 => if i = p then nD s p i else if bt s (i : Int) = 48 ∧ nD s p i = 0 then 0 else nD s p i + 1
theorem nD_le (s : ByteArray) (p : Nat) : ∀ i, nD s p i ≤ i
  | 0 => Nat.le_refl _
  | i + 1 => by
    have := nD_le s p i
    rw [nD]
    split
    · omega
    · split <;> omega
theorem u64_id {x : Int} (h0 : 0 ≤ x) (h1 : x < 18446744073709551616) : IntKind.u64.wrap x = x := by
  have h : IntKind.u64.wrap x = x % 18446744073709551616 := by simp [IntKind.wrap, IntKind.bits, IntKind.signed]
  rw [h]
  omega
theorem vD_zero (s : ByteArray) (p : Nat) : ∀ i, nD s p i = 0 → vD s p i = 0
  | 0, _ => rfl
  | i + 1, h => by
    rw [nD] at h
    rw [vD]
    split at h
    · rename_i hp
      rw [if_pos hp]
      exact vD_zero s p i h
    · rename_i hp
      rw [if_neg hp]
      split at h
      · rename_i hc
        rw [vD_zero s p i hc.2, hc.1]
        rfl
      · omega
theorem lower_any (c : Int) (r : Int) (w : World) (h : Go.bits .or .u8 c 32 = r) : Calls Tryd.prog 49 #[.int .u8 c] w fun e w' => e = .returned (.int .u8 r) ∧ Drawn0 w w' := strconv_lower.calls c r w (by unfold strconv_lower.f; rw [h])
theorem low46 : Go.bits .or .u8 46 32 = 46 := by decide
def pD (s : ByteArray) (p : Nat) : Int := if vD s p s.size = 0 then 0 else -((s.size - 1 - p : Nat) : Int)
set_option maxRecDepth 100000 in
set_option maxHeartbeats 16000000 in
theorem readfloat_any (s : ByteArray) (p : Nat) (w : World) (h : FD s p) : Calls Tryd.prog 58 #[.string s] w fun e w' => e = .returned (.tuple #[.int .u64 (vD s p s.size : Int), .int .i64 (pD s p), .bool false, .bool false, .bool false, .int .i64 s.size, .bool true]) ∧ Below w.heap.size w w' := by
  have HB := Aside0.mk (Below.refl w.heap.size w)
  have HF := Lib.hid h
  have h0 : 48 ≤ bt s 0 ∧ bt s 0 ≤ 57 := h.dig 0 (by have := h.h2; omega) (by have := h.h1; omega)
  have hx : ∀ h : 0 < s.size, ((s[0]'h).toNat : Int) = bt s 0 := fun h => bt_at s 0 h
  have hx1 : ∀ h : 1 < s.size, ((s[1]'h).toNat : Int) = bt s 1 := fun h => bt_at s 1 h
  have hsz : 3 ≤ s.size := by have := h.h1; have := h.h2; omega
  have q0 : (0 < (s.size : Int)) = True := eq_true (by omega)
  have q0' : (0 < s.size) = True := eq_true (by omega)
  have q1 : (1 < (s.size : Int)) = True := eq_true (by omega)
  have q1' : (1 < s.size) = True := eq_true (by omega)
  have k0 : decide ((s.size : Int) ≤ 0) = false := decide_eq_false (by omega)
  have k2 : decide (2 < (s.size : Int)) = true := decide_eq_true (by omega)
  have k2' : decide (2 < s.size) = true := decide_eq_true (by omega)
  have k43 : (bt s 0 == 43) = false := beq_eq_false_iff_ne.2 (by omega)
  have k45 : (bt s 0 == 45) = false := beq_eq_false_iff_ne.2 (by omega)
  have hlead := h.lead
  have hdot := h.dot
  have hp1 := h.h1
  clear h h0 hsz
  have kE : decide (s = ByteArray.empty) = false := decide_eq_false (fun e => by rw [e] at q1'; simp at q1')
  by_cases hc : bt s 0 = 48
  · have hp : p = 1 := by by_cases e : 1 < p; exact absurd hc (hlead e); omega
    have k48 : (bt s 0 == 48) = true := beq_iff_eq.2 hc
    have k1 : bt s 1 = 46 := by rw [hp] at hdot; exact hdot
    clear hc hlead hdot hp1 hp
    have tok_l : True := trivial
    go_enter Tryd.func58, Tryd.ntmps58
    go_wp2
    go_step3
    go_wp2_with (first | (clear tok_l; go_at_call 49; (with_reducible refine (lower_any _ 46 _ low46).mono ?_); rintro e w1 ⟨rfl, hd⟩; have n0_ : Aside0 (Below w.heap.size w w1) := ⟨by obtain ⟨m, rfl⟩ := hd; exact pxb HB⟩; clear HB hd; have HB := n0_; clear n0_))
    go_step3
    go_wp2
    clear hx hx1 q0 q0' q1 q1' k0 k2 k2' k43 k45 k48 kE k1
    go_loopg [2, 5, 7, 9, 13, 14, 15, 16, 17] s.size (fun kq v2 v5 v7 v9 v13 v14 v15 v16 v17 w' => ∃ (i : Nat) (d : Int) (b13 b14 : Bool), v2 = .int .u64 (vD s p i : Int) ∧ v5 = .bool false ∧ v7 = .int .i64 i ∧ v9 = .bool false ∧ v13 = .bool b13 ∧ v14 = .bool b14 ∧ v15 = .int .i64 (nD s p i : Int) ∧ v16 = .int .i64 (nD s p i : Int) ∧ v17 = .int .i64 d ∧ Hid (i ≤ s.size ∧ kq = s.size - i ∧ -(i : Int) ≤ d ∧ d ≤ i ∧ (p < i → d = (nD s p i : Int) - ((i - 1 - p : Nat) : Int)) ∧ b13 = decide (p < i) ∧ b14 = decide (0 < i)) ∧ Aside0 (Below w.heap.size w w'))
    case atStart => exact ⟨0, 0, false, false, rfl, rfl, rfl, rfl, rfl, rfl, rfl, rfl, rfl, ⟨Nat.zero_le _, rfl, by decide, by decide, fun h => by omega, by rw [decide_eq_false (by omega)], rfl⟩, ⟨pxb HB⟩⟩
    case round =>
      clear HB
      obtain ⟨i, d, b13, b14, rfl, rfl, rfl, rfl, rfl, rfl, rfl, rfl, rfl, HI, HB⟩ := hrel
      by_cases hi : i < s.size
      · have hxi : ∀ h : i < s.size, ((s[i]'h).toNat : Int) = bt s (i : Int) := fun h => bt_at s (i : Int) h
        have p3 : (0 ≤ (i : Int)) = True := eq_true (by omega)
        have p4 : ((i : Int) < (s.size : Int)) = True := eq_true (by omega)
        have p4' : (i < s.size) = True := eq_true hi
        have k4 : decide (i < s.size) = true := decide_eq_true hi
        have k5 : decide ((i : Int) < (s.size : Int)) = true := decide_eq_true (by omega)
        have HLT := Lib.hid hi
        by_cases hp : i = p
        · have hb : bt s (i : Int) = 46 := by rw [hp]; exact HF.out.dot
          rw [hb] at hxi
          obtain rfl : b13 = false := by rw [HI.out.2.2.2.2.2.1]; exact decide_eq_false (by omega)
          have HP := Lib.hid hp
          clear hp hb hi
          go_wp2
          go_roundg (s.size - (i + 1))
          case measure => have := HI.out; have := HLT.out; omega
          case rel => exact ⟨i + 1, _, _, _, by rw [show vD s p (i + 1) = vD s p i from if_pos HP.out], rfl, by have := HLT.out; have := HF.out.h3; rw [wrap_id (by omega) (by omega)]; rfl, rfl, rfl, rfl, by rw [show nD s p (i + 1) = nD s p i from if_pos HP.out], by rw [show nD s p (i + 1) = nD s p i from if_pos HP.out], rfl, ⟨by have := HLT.out; omega, rfl, by omega, by have := nD_le s p i; omega, fun h => by rw [show nD s p (i + 1) = nD s p i from if_pos HP.out]; have := HP.out; omega, (decide_eq_true (by have := HP.out; omega)).symm, by rw [HI.out.2.2.2.2.2.2, decide_eq_true (by have := HP.out; have := HF.out.h1; omega), decide_eq_true (by omega)]⟩, ⟨pxb HB⟩⟩
        · have hdg := HF.out.dig i hi hp
          have hv : vD s p (i + 1) = 10 * vD s p i + (bt s (i : Int) - 48).toNat := if_neg hp
          have hn : nD s p (i + 1) = if bt s (i : Int) = 48 ∧ nD s p i = 0 then 0 else nD s p i + 1 := if_neg hp
          have hvs := vD_small HF.out (Nat.le_of_lt hi)
          have hv0 := vD_zero s p i
          have HP := Lib.hid hp
          generalize bt s (i : Int) = c at *
          have hnl := nD_le s p i
          have k95 : (c == 95) = false := beq_eq_false_iff_ne.2 (by omega)
          have k46 : (c == 46) = false := beq_eq_false_iff_ne.2 (by omega)
          have k48 : decide (48 ≤ c) = true := decide_eq_true hdg.1
          have k57 : decide (c ≤ 57) = true := decide_eq_true hdg.2
          have HI2 := Lib.hid (And.intro HI.out.1 (And.intro HI.out.2.1 (And.intro HI.out.2.2.1 (And.intro HI.out.2.2.2.1 (And.intro HI.out.2.2.2.2.1 (And.intro HI.out.2.2.2.2.2.1 HI.out.2.2.2.2.2.2))))))
          clear HI
          have HV0 := Lib.hid hv0
          have HVS := Lib.hid hvs
          have HNL := Lib.hid hnl
          clear hv0 hvs hnl hi hp
          by_cases h48 : c = 48
          · have k0 : (c == 48) = true := beq_iff_eq.2 h48
            by_cases hn00 : nD s p i = 0
            · have k1 : ((nD s p i : Int) == 0) = true := beq_iff_eq.2 (by omega)
              have HV := Lib.hid (show vD s p (i + 1) = vD s p i by have := HV0.out hn00; rw [hv, this, h48]; rfl)
              have HN := Lib.hid (show nD s p (i + 1) = nD s p i by rw [hn, if_pos ⟨h48, hn00⟩, hn00])
              have HQ := Lib.hid (And.intro hn00 hdg)
              clear hv hn hn00 h48 hdg
              go_wp2
              go_roundg (s.size - (i + 1))
              case measure => have := HI2.out; have := HLT.out; omega
              case rel => exact ⟨i + 1, d - 1, _, true, by rw [HV.out], rfl, by have := HLT.out; have := HF.out.h3; rw [wrap_id (by omega) (by omega)]; rfl, rfl, rfl, rfl, by rw [HN.out], by rw [HN.out], by have := HI2.out; have := HF.out.h3; rw [wrap_id (by omega) (by omega)], ⟨by have := HLT.out; omega, rfl, by have := HI2.out; omega, by have := HI2.out; omega, fun h => by have := HI2.out.2.2.2.2.1 (by have := HP.out; omega); have := HN.out; have := HP.out; omega, by rw [HI2.out.2.2.2.2.2.1]; exact decide_eq_decide.2 (by have := HP.out; omega), (decide_eq_true (by omega)).symm⟩, ⟨pxb HB⟩⟩
            · have k1 : ((nD s p i : Int) == 0) = false := beq_eq_false_iff_ne.2 (by omega)
              have HN := Lib.hid (show nD s p (i + 1) = nD s p i + 1 by rw [hn, if_neg (fun e => hn00 e.2)])
              (have HVV := Lib.hid hv; have HDG := Lib.hid hdg; have k19 : decide ((nD s p i : Int) < 19) = true := decide_eq_true (by have := HNL.out; have := HF.out.h3; have := HLT.out; omega); have k19' : decide (nD s p i < 19) = true := decide_eq_true (by have := HNL.out; have := HF.out.h3; have := HLT.out; omega); clear hv hn hdg; (try clear hn00); (try clear h48); go_wp2; go_roundg (s.size - (i + 1)); (case measure => have := HI2.out; have := HLT.out; omega); (case rel => exact ⟨i + 1, d, _, true, by rw [HVV.out]; exact congrArg (Value.int .u64) (by have := HDG.out; have := HVS.out; rw [u64_id (x := (vD s p i : Int) * 10) (by omega) (by omega), u64_id (by omega) (by omega)]; omega), rfl, by have := HLT.out; have := HF.out.h3; rw [wrap_id (by omega) (by omega)]; rfl, rfl, rfl, rfl, by rw [HN.out]; have := HNL.out; have := HLT.out; have := HF.out.h3; rw [wrap_id (by omega) (by omega)]; rfl, by rw [HN.out]; have := HNL.out; have := HLT.out; have := HF.out.h3; rw [wrap_id (by omega) (by omega)]; rfl, rfl, ⟨by have := HLT.out; omega, rfl, by have := HI2.out; omega, by have := HI2.out; omega, fun h => by have := HI2.out.2.2.2.2.1 (by have := HP.out; omega); have := HN.out; have := HP.out; omega, by rw [HI2.out.2.2.2.2.2.1]; exact decide_eq_decide.2 (by have := HP.out; omega), (decide_eq_true (by omega)).symm⟩, ⟨pxb HB⟩⟩))
          · have k0 : (c == 48) = false := beq_eq_false_iff_ne.2 h48
            have HN := Lib.hid (show nD s p (i + 1) = nD s p i + 1 by rw [hn, if_neg (fun e => h48 e.1)])
            (have HVV := Lib.hid hv; have HDG := Lib.hid hdg; have k19 : decide ((nD s p i : Int) < 19) = true := decide_eq_true (by have := HNL.out; have := HF.out.h3; have := HLT.out; omega); have k19' : decide (nD s p i < 19) = true := decide_eq_true (by have := HNL.out; have := HF.out.h3; have := HLT.out; omega); clear hv hn hdg; (try clear hn00); (try clear h48); go_wp2; go_roundg (s.size - (i + 1)); (case measure => have := HI2.out; have := HLT.out; omega); (case rel => exact ⟨i + 1, d, _, true, by rw [HVV.out]; exact congrArg (Value.int .u64) (by have := HDG.out; have := HVS.out; rw [u64_id (x := (vD s p i : Int) * 10) (by omega) (by omega), u64_id (by omega) (by omega)]; omega), rfl, by have := HLT.out; have := HF.out.h3; rw [wrap_id (by omega) (by omega)]; rfl, rfl, rfl, rfl, by rw [HN.out]; have := HNL.out; have := HLT.out; have := HF.out.h3; rw [wrap_id (by omega) (by omega)]; rfl, by rw [HN.out]; have := HNL.out; have := HLT.out; have := HF.out.h3; rw [wrap_id (by omega) (by omega)]; rfl, rfl, ⟨by have := HLT.out; omega, rfl, by have := HI2.out; omega, by have := HI2.out; omega, fun h => by have := HI2.out.2.2.2.2.1 (by have := HP.out; omega); have := HN.out; have := HP.out; omega, by rw [HI2.out.2.2.2.2.2.1]; exact decide_eq_decide.2 (by have := HP.out; omega), (decide_eq_true (by omega)).symm⟩, ⟨pxb HB⟩⟩))
      · have hie : i = s.size := by have := HI.out; omega
        subst hie
        have k4 : decide (s.size < s.size) = false := decide_eq_false (by omega)
        have k5 : decide ((s.size : Int) < (s.size : Int)) = false := decide_eq_false (by omega)
        have hfd := HF.out
        have h2_ := hfd.h2
        obtain rfl : b13 = true := by rw [HI.out.2.2.2.2.2.1]; exact decide_eq_true (by omega)
        obtain rfl : b14 = true := by rw [HI.out.2.2.2.2.2.2]; exact decide_eq_true (by omega)
        have hd := HI.out.2.2.2.2.1 (by omega)
        have HD := Lib.hid hd
        clear hd hi HI hfd h2_
        by_cases hz : vD s p s.size = 0
        · have kz : ((vD s p s.size : Int) != 0) = false := by rw [hz]; rfl
          have HZ := Lib.hid hz
          clear hz
          go_wp2
          rw [Exit.noGoto_ret]
          have hpd : pD s p = 0 := by unfold pD; rw [if_pos HZ.out]
          exact bodyPost_ret (v := .tuple #[.int .u64 (vD s p s.size : Int), .int .i64 0, .bool false, .bool false, .bool false, .int .i64 s.size, .bool true]) (by simp [results, Tryd.results58, go_sem]) rfl ⟨by rw [hpd], pxb HB⟩
        · have kz : ((vD s p s.size : Int) != 0) = true := bne_iff_ne.2 (by omega)
          have HZ := Lib.hid hz
          clear hz
          go_wp2
          rw [Exit.noGoto_ret]
          have hpd : wrap64 (d - (nD s p s.size : Int)) = pD s p := by have := HF.out.h3; have := nD_le s p s.size; unfold pD; rw [if_neg HZ.out, HD.out, wrap_id (by omega) (by omega)]; omega
          rw [hpd]
          exact bodyPost_ret (v := .tuple #[.int .u64 (vD s p s.size : Int), .int .i64 (pD s p), .bool false, .bool false, .bool false, .int .i64 s.size, .bool true]) (by simp [results, Tryd.results58, go_sem]) rfl ⟨rfl, pxb HB⟩
  · have k48 : (bt s 0 == 48) = false := beq_eq_false_iff_ne.2 hc
    clear hc hlead hdot hp1
    go_enter Tryd.func58, Tryd.ntmps58
    go_wp2
    go_step3
    go_wp2
    go_step3
    go_wp2
    clear hx hx1 q0 q0' q1 q1' k0 k2 k2' k43 k45 k48 kE
    go_loopg [2, 5, 7, 9, 13, 14, 15, 16, 17] s.size (fun kq v2 v5 v7 v9 v13 v14 v15 v16 v17 w' => ∃ (i : Nat) (d : Int) (b13 b14 : Bool), v2 = .int .u64 (vD s p i : Int) ∧ v5 = .bool false ∧ v7 = .int .i64 i ∧ v9 = .bool false ∧ v13 = .bool b13 ∧ v14 = .bool b14 ∧ v15 = .int .i64 (nD s p i : Int) ∧ v16 = .int .i64 (nD s p i : Int) ∧ v17 = .int .i64 d ∧ Hid (i ≤ s.size ∧ kq = s.size - i ∧ -(i : Int) ≤ d ∧ d ≤ i ∧ (p < i → d = (nD s p i : Int) - ((i - 1 - p : Nat) : Int)) ∧ b13 = decide (p < i) ∧ b14 = decide (0 < i)) ∧ Aside0 (Below w.heap.size w w'))
    case atStart => exact ⟨0, 0, false, false, rfl, rfl, rfl, rfl, rfl, rfl, rfl, rfl, rfl, ⟨Nat.zero_le _, rfl, by decide, by decide, fun h => by omega, by rw [decide_eq_false (by omega)], rfl⟩, ⟨pxb HB⟩⟩
    case round =>
      clear HB
      obtain ⟨i, d, b13, b14, rfl, rfl, rfl, rfl, rfl, rfl, rfl, rfl, rfl, HI, HB⟩ := hrel
      by_cases hi : i < s.size
      · have hxi : ∀ h : i < s.size, ((s[i]'h).toNat : Int) = bt s (i : Int) := fun h => bt_at s (i : Int) h
        have p3 : (0 ≤ (i : Int)) = True := eq_true (by omega)
        have p4 : ((i : Int) < (s.size : Int)) = True := eq_true (by omega)
        have p4' : (i < s.size) = True := eq_true hi
        have k4 : decide (i < s.size) = true := decide_eq_true hi
        have k5 : decide ((i : Int) < (s.size : Int)) = true := decide_eq_true (by omega)
        have HLT := Lib.hid hi
        by_cases hp : i = p
        · have hb : bt s (i : Int) = 46 := by rw [hp]; exact HF.out.dot
          rw [hb] at hxi
          obtain rfl : b13 = false := by rw [HI.out.2.2.2.2.2.1]; exact decide_eq_false (by omega)
          have HP := Lib.hid hp
          clear hp hb hi
          go_wp2
          go_roundg (s.size - (i + 1))
          case measure => have := HI.out; have := HLT.out; omega
          case rel => exact ⟨i + 1, _, _, _, by rw [show vD s p (i + 1) = vD s p i from if_pos HP.out], rfl, by have := HLT.out; have := HF.out.h3; rw [wrap_id (by omega) (by omega)]; rfl, rfl, rfl, rfl, by rw [show nD s p (i + 1) = nD s p i from if_pos HP.out], by rw [show nD s p (i + 1) = nD s p i from if_pos HP.out], rfl, ⟨by have := HLT.out; omega, rfl, by omega, by have := nD_le s p i; omega, fun h => by rw [show nD s p (i + 1) = nD s p i from if_pos HP.out]; have := HP.out; omega, (decide_eq_true (by have := HP.out; omega)).symm, by rw [HI.out.2.2.2.2.2.2, decide_eq_true (by have := HP.out; have := HF.out.h1; omega), decide_eq_true (by omega)]⟩, ⟨pxb HB⟩⟩
        · have hdg := HF.out.dig i hi hp
          have hv : vD s p (i + 1) = 10 * vD s p i + (bt s (i : Int) - 48).toNat := if_neg hp
          have hn : nD s p (i + 1) = if bt s (i : Int) = 48 ∧ nD s p i = 0 then 0 else nD s p i + 1 := if_neg hp
          have hvs := vD_small HF.out (Nat.le_of_lt hi)
          have hv0 := vD_zero s p i
          have HP := Lib.hid hp
          generalize bt s (i : Int) = c at *
          have hnl := nD_le s p i
          have k95 : (c == 95) = false := beq_eq_false_iff_ne.2 (by omega)
          have k46 : (c == 46) = false := beq_eq_false_iff_ne.2 (by omega)
          have k48 : decide (48 ≤ c) = true := decide_eq_true hdg.1
          have k57 : decide (c ≤ 57) = true := decide_eq_true hdg.2
          have HI2 := Lib.hid (And.intro HI.out.1 (And.intro HI.out.2.1 (And.intro HI.out.2.2.1 (And.intro HI.out.2.2.2.1 (And.intro HI.out.2.2.2.2.1 (And.intro HI.out.2.2.2.2.2.1 HI.out.2.2.2.2.2.2))))))
          clear HI
          have HV0 := Lib.hid hv0
          have HVS := Lib.hid hvs
          have HNL := Lib.hid hnl
          clear hv0 hvs hnl hi hp
          by_cases h48 : c = 48
          · have k0 : (c == 48) = true := beq_iff_eq.2 h48
            by_cases hn00 : nD s p i = 0
            · have k1 : ((nD s p i : Int) == 0) = true := beq_iff_eq.2 (by omega)
              have HV := Lib.hid (show vD s p (i + 1) = vD s p i by have := HV0.out hn00; rw [hv, this, h48]; rfl)
              have HN := Lib.hid (show nD s p (i + 1) = nD s p i by rw [hn, if_pos ⟨h48, hn00⟩, hn00])
              have HQ := Lib.hid (And.intro hn00 hdg)
              clear hv hn hn00 h48 hdg
              go_wp2
              go_roundg (s.size - (i + 1))
              case measure => have := HI2.out; have := HLT.out; omega
              case rel => exact ⟨i + 1, d - 1, _, true, by rw [HV.out], rfl, by have := HLT.out; have := HF.out.h3; rw [wrap_id (by omega) (by omega)]; rfl, rfl, rfl, rfl, by rw [HN.out], by rw [HN.out], by have := HI2.out; have := HF.out.h3; rw [wrap_id (by omega) (by omega)], ⟨by have := HLT.out; omega, rfl, by have := HI2.out; omega, by have := HI2.out; omega, fun h => by have := HI2.out.2.2.2.2.1 (by have := HP.out; omega); have := HN.out; have := HP.out; omega, by rw [HI2.out.2.2.2.2.2.1]; exact decide_eq_decide.2 (by have := HP.out; omega), (decide_eq_true (by omega)).symm⟩, ⟨pxb HB⟩⟩
            · have k1 : ((nD s p i : Int) == 0) = false := beq_eq_false_iff_ne.2 (by omega)
              have HN := Lib.hid (show nD s p (i + 1) = nD s p i + 1 by rw [hn, if_neg (fun e => hn00 e.2)])
              (have HVV := Lib.hid hv; have HDG := Lib.hid hdg; have k19 : decide ((nD s p i : Int) < 19) = true := decide_eq_true (by have := HNL.out; have := HF.out.h3; have := HLT.out; omega); have k19' : decide (nD s p i < 19) = true := decide_eq_true (by have := HNL.out; have := HF.out.h3; have := HLT.out; omega); clear hv hn hdg; (try clear hn00); (try clear h48); go_wp2; go_roundg (s.size - (i + 1)); (case measure => have := HI2.out; have := HLT.out; omega); (case rel => exact ⟨i + 1, d, _, true, by rw [HVV.out]; exact congrArg (Value.int .u64) (by have := HDG.out; have := HVS.out; rw [u64_id (x := (vD s p i : Int) * 10) (by omega) (by omega), u64_id (by omega) (by omega)]; omega), rfl, by have := HLT.out; have := HF.out.h3; rw [wrap_id (by omega) (by omega)]; rfl, rfl, rfl, rfl, by rw [HN.out]; have := HNL.out; have := HLT.out; have := HF.out.h3; rw [wrap_id (by omega) (by omega)]; rfl, by rw [HN.out]; have := HNL.out; have := HLT.out; have := HF.out.h3; rw [wrap_id (by omega) (by omega)]; rfl, rfl, ⟨by have := HLT.out; omega, rfl, by have := HI2.out; omega, by have := HI2.out; omega, fun h => by have := HI2.out.2.2.2.2.1 (by have := HP.out; omega); have := HN.out; have := HP.out; omega, by rw [HI2.out.2.2.2.2.2.1]; exact decide_eq_decide.2 (by have := HP.out; omega), (decide_eq_true (by omega)).symm⟩, ⟨pxb HB⟩⟩))
          · have k0 : (c == 48) = false := beq_eq_false_iff_ne.2 h48
            have HN := Lib.hid (show nD s p (i + 1) = nD s p i + 1 by rw [hn, if_neg (fun e => h48 e.1)])
            (have HVV := Lib.hid hv; have HDG := Lib.hid hdg; have k19 : decide ((nD s p i : Int) < 19) = true := decide_eq_true (by have := HNL.out; have := HF.out.h3; have := HLT.out; omega); have k19' : decide (nD s p i < 19) = true := decide_eq_true (by have := HNL.out; have := HF.out.h3; have := HLT.out; omega); clear hv hn hdg; (try clear hn00); (try clear h48); go_wp2; go_roundg (s.size - (i + 1)); (case measure => have := HI2.out; have := HLT.out; omega); (case rel => exact ⟨i + 1, d, _, true, by rw [HVV.out]; exact congrArg (Value.int .u64) (by have := HDG.out; have := HVS.out; rw [u64_id (x := (vD s p i : Int) * 10) (by omega) (by omega), u64_id (by omega) (by omega)]; omega), rfl, by have := HLT.out; have := HF.out.h3; rw [wrap_id (by omega) (by omega)]; rfl, rfl, rfl, rfl, by rw [HN.out]; have := HNL.out; have := HLT.out; have := HF.out.h3; rw [wrap_id (by omega) (by omega)]; rfl, by rw [HN.out]; have := HNL.out; have := HLT.out; have := HF.out.h3; rw [wrap_id (by omega) (by omega)]; rfl, rfl, ⟨by have := HLT.out; omega, rfl, by have := HI2.out; omega, by have := HI2.out; omega, fun h => by have := HI2.out.2.2.2.2.1 (by have := HP.out; omega); have := HN.out; have := HP.out; omega, by rw [HI2.out.2.2.2.2.2.1]; exact decide_eq_decide.2 (by have := HP.out; omega), (decide_eq_true (by omega)).symm⟩, ⟨pxb HB⟩⟩))
      · have hie : i = s.size := by have := HI.out; omega
        subst hie
        have k4 : decide (s.size < s.size) = false := decide_eq_false (by omega)
        have k5 : decide ((s.size : Int) < (s.size : Int)) = false := decide_eq_false (by omega)
        have hfd := HF.out
        have h2_ := hfd.h2
        obtain rfl : b13 = true := by rw [HI.out.2.2.2.2.2.1]; exact decide_eq_true (by omega)
        obtain rfl : b14 = true := by rw [HI.out.2.2.2.2.2.2]; exact decide_eq_true (by omega)
        have hd := HI.out.2.2.2.2.1 (by omega)
        have HD := Lib.hid hd
        clear hd hi HI hfd h2_
        by_cases hz : vD s p s.size = 0
        · have kz : ((vD s p s.size : Int) != 0) = false := by rw [hz]; rfl
          have HZ := Lib.hid hz
          clear hz
          go_wp2
          rw [Exit.noGoto_ret]
          have hpd : pD s p = 0 := by unfold pD; rw [if_pos HZ.out]
          exact bodyPost_ret (v := .tuple #[.int .u64 (vD s p s.size : Int), .int .i64 0, .bool false, .bool false, .bool false, .int .i64 s.size, .bool true]) (by simp [results, Tryd.results58, go_sem]) rfl ⟨by rw [hpd], pxb HB⟩
        · have kz : ((vD s p s.size : Int) != 0) = true := bne_iff_ne.2 (by omega)
          have HZ := Lib.hid hz
          clear hz
          go_wp2
          rw [Exit.noGoto_ret]
          have hpd : wrap64 (d - (nD s p s.size : Int)) = pD s p := by have := HF.out.h3; have := nD_le s p s.size; unfold pD; rw [if_neg HZ.out, HD.out, wrap_id (by omega) (by omega)]; omega
          rw [hpd]
          exact bodyPost_ret (v := .tuple #[.int .u64 (vD s p s.size : Int), .int .i64 (pD s p), .bool false, .bool false, .bool false, .int .i64 s.size, .bool true]) (by simp [results, Tryd.results58, go_sem]) rfl ⟨rfl, pxb HB⟩
end Go.Proofs.YtbnopcndjdpnkaaDoor.NuW
