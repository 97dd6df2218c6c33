/- num.Float, whatever text is handed in. -/
import Derived.Test.YtbnopcndjdpnkaaDoorNumW4
import Derived.Test.YtbnopcndjdpnkaaDoorX33
import Derived.IntWalk
namespace Go.Proofs.YtbnopcndjdpnkaaDoor.NuW
open Go.RowKit Go.Proofs.YtbnopcndjdpnkaaDoorW.PrintWords Go.Proofs.YtbnopcndjdpnkaaDoorW.PrintLast Go.Proofs.YtbnopcndjdpnkaaDoor.X Go.Proofs.YtbnopcndjdpnkaaDoor.Fl
set_option linter.unusedVariables false
set_option linter.unusedSimpArgs false
attribute [local go_sem] run_from run_bits run_from2
def isD (c : Int) : Bool := decide (48 ≤ c) && decide (c ≤ 57)
/-- Digits, and one at least. -/
def digB (t : ByteArray) : Bool := (t.size != 0) && (List.range t.size).all fun i => isD (bt t (i : Int))
theorem isD_iff {c : Int} : isD c = true ↔ 48 ≤ c ∧ c ≤ 57 := by unfold isD; rw [Bool.and_eq_true, decide_eq_true_eq, decide_eq_true_eq]
theorem digits_l0 (t : ByteArray) (ht : t.size ≤ 4611686018427387904) : ∀ (k i : Nat), t.size < k + i → i ≤ t.size → (∀ j, j < i → isD (bt t (j : Int)) = true) → num_digits.l0 k t (t.size : Int) (i : Int) = some (digB t)
  | 0, i, h, h1, _ => by omega
  | k + 1, i, h, h1, hj => by
    rw [num_digits.l0]
    by_cases hi : i < t.size
    · rw [if_pos (by omega), if_pos (by omega), if_pos (by omega)]
      have no : isD (bt t (i : Int)) = false → digB t = false := fun hc => by
        unfold digB
        rw [Bool.and_eq_false_iff]
        right
        rw [List.all_eq_false]
        exact ⟨i, List.mem_range.2 hi, by rw [hc]; simp⟩
      by_cases h2 : bt t (i : Int) < 48
      · rw [if_pos h2, no (by unfold isD; rw [decide_eq_false (by omega)]; rfl)]
      · rw [if_neg h2]
        by_cases h3 : bt t (i : Int) > 57
        · rw [if_pos h3, no (by unfold isD; rw [decide_eq_false (show ¬ bt t (i : Int) ≤ 57 by omega), Bool.and_false])]
        · rw [if_neg h3, wrap_id (by omega) (by omega), show (i : Int) + 1 = ((i + 1 : Nat) : Int) from rfl]
          refine digits_l0 t ht k (i + 1) (by omega) (by omega) (fun j hj2 => ?_)
          by_cases e : j = i
          · subst e; exact isD_iff.2 ⟨by omega, by omega⟩
          · exact hj j (by omega)
    · rw [if_neg (by omega)]
      have : i = t.size := by omega
      subst this
      congr 1
      unfold digB
      have hall : (List.range t.size).all (fun i => isD (bt t (i : Int))) = true := by
        rw [List.all_eq_true]
        intro j hj2
        exact hj j (List.mem_range.1 hj2)
      rw [hall, Bool.and_true]
      have hl : t.toList.length = t.size := by rw [Go.ByteArray.toList_eq]; exact Array.length_toList
      by_cases h0 : t.size = 0
      · have : t.toList = [] := List.eq_nil_of_length_eq_zero (by rw [hl]; exact h0)
        rw [this, h0]
        rfl
      · rw [bne_iff_ne.2 h0]
        refine bne_iff_ne.2 (fun e => h0 ?_)
        rw [e] at hl
        exact hl.symm
theorem digits_any (t : ByteArray) (v : Bool) (w : World) (ht : t.size ≤ 4611686018427387904) (hv : digB t = v) : Calls Tryd.prog 33 #[.string t] w fun e w' => e = .returned (.bool v) ∧ Drawn0 w w' :=
  num_digits.calls (t.size + 1) t v w (by rw [← hv]; exact digits_l0 t ht (t.size + 1) 0 (by omega) (Nat.zero_le _) (fun j hj => by omega))
theorem extr_size (s : ByteArray) (a b : Nat) : (s.extract a b).size = min b s.size - a := ByteArray.size_extract
theorem bt_extr (s : ByteArray) (a b i : Nat) (hi : i < (s.extract a b).size) : bt (s.extract a b) (i : Int) = bt s ((a + i : Nat) : Int) := by
  have h2 := extr_size s a b
  have h3 : a + i < s.size := by omega
  unfold bt
  simp only [Int.toNat_natCast]
  rw [dif_pos hi, dif_pos h3]
  simp [ByteArray.getElem_extract]
def dotAt (s : ByteArray) : Option Nat := (List.range s.size).find? fun i => bt s (i : Int) == 46
/-- What a text says as a double, and the error's number. -/
def flV (s : ByteArray) : Nat × Int := match dotAt s with
  | none => (0, 5)
  | some p => if (digB (s.extract 0 p) && digB (s.extract (p + 1) s.size) && !(decide (1 < p) && (bt s 0 == 48))) = true then (if 15 < s.size - 1 then (0, 2) else (fdV s p, 0)) else (0, 5)
theorem dot_none {s : ByteArray} (h : ∀ j : Nat, j < s.size → bt s (j : Int) ≠ 46) : dotAt s = none := by
  unfold dotAt
  rw [List.find?_eq_none]
  intro j hj
  simpa using h j (List.mem_range.1 hj)
theorem dot_some {s : ByteArray} {i : Nat} (hi : i < s.size) (h : bt s (i : Int) = 46) (hj : ∀ j : Nat, j < i → bt s (j : Int) ≠ 46) : dotAt s = some i := by
  unfold dotAt
  rw [List.find?_range_eq_some]
  refine ⟨by simpa using h, List.mem_range.2 hi, fun j h2 => by simpa using hj j h2⟩
theorem digB_get {t : ByteArray} (h : digB t = true) : 1 ≤ t.size ∧ ∀ i : Nat, i < t.size → 48 ≤ bt t (i : Int) ∧ bt t (i : Int) ≤ 57 := by
  unfold digB at h
  rw [Bool.and_eq_true, List.all_eq_true] at h
  have h1 : t.size ≠ 0 := by simpa using h.1
  exact ⟨by omega, fun i hi => isD_iff.1 (h.2 i (List.mem_range.2 hi))⟩
theorem flV_long {s : ByteArray} {p : Nat} (h : dotAt s = some p) (ha : digB (s.extract 0 p) = true) (hb : digB (s.extract (p + 1) s.size) = true) (hl : (decide (1 < p) && (bt s 0 == 48)) = false) (hs : 15 < s.size - 1) : flV s = (0, 2) := by
  unfold flV
  rw [h]
  dsimp only
  rw [ha, hb, hl]
  show (if 15 < s.size - 1 then ((0, 2) : Nat × Int) else (fdV s p, 0)) = _
  rw [if_pos hs]
theorem flV_ok {s : ByteArray} {p : Nat} (h : dotAt s = some p) (ha : digB (s.extract 0 p) = true) (hb : digB (s.extract (p + 1) s.size) = true) (hl : (decide (1 < p) && (bt s 0 == 48)) = false) (hs : ¬ 15 < s.size - 1) : flV s = (fdV s p, 0) := by
  unfold flV
  rw [h]
  dsimp only
  rw [ha, hb, hl]
  show (if 15 < s.size - 1 then ((0, 2) : Nat × Int) else (fdV s p, 0)) = _
  rw [if_neg hs]
theorem fd_of {s : ByteArray} {p : Nat} (hp : p < s.size) (hdot : bt s (p : Int) = 46) (ha : digB (s.extract 0 p) = true) (hb : digB (s.extract (p + 1) s.size) = true) (hl : (decide (1 < p) && (bt s 0 == 48)) = false) (hs : ¬ 15 < s.size - 1) : FD s p := by
  have h1 := digB_get ha
  have h2 := digB_get hb
  have e1 := extr_size s 0 p
  have e2 := extr_size s (p + 1) s.size
  refine ⟨by omega, by omega, by omega, hdot, fun i hi hne => ?_, fun h h0 => ?_⟩
  · by_cases hlt : i < p
    · have := h1.2 i (by omega)
      rwa [bt_extr s 0 p i (by omega), Nat.zero_add] at this
    · have := h2.2 (i - (p + 1)) (by omega)
      rwa [bt_extr s (p + 1) s.size (i - (p + 1)) (by omega), show p + 1 + (i - (p + 1)) = i by omega] at this
  · rw [decide_eq_true h, h0] at hl
    cases hl
set_option maxRecDepth 100000 in
set_option maxHeartbeats 8000000 in
theorem float_any (s : ByteArray) (w : World) (hg : GV w) (hs : s.size ≤ 4611686018427387904) : Calls Tryd.prog 13 #[.string s] w fun e w' => e = .returned (.tuple #[.int .u64 ((flV s).1 : Int), .int .i64 (flV s).2]) ∧ Below w.heap.size w w' := by
  have HB := Aside0.mk (Below.refl w.heap.size w)
  have HG := Aside0.mk hg
  have HS := Lib.hid hs
  clear hg hs
  go_enter Tryd.func13, Tryd.ntmps13
  go_wp2
  go_loopg [11] s.size (fun kq v11 w' => ∃ i : Nat, v11 = .int .i64 i ∧ Hid (i ≤ s.size ∧ kq = s.size - i ∧ ∀ j : Nat, j < i → bt s (j : Int) ≠ 46) ∧ Aside0 (Below w.heap.size w w'))
  case atStart => exact ⟨0, rfl, ⟨Nat.zero_le _, rfl, fun j hj => by omega⟩, ⟨pxb HB⟩⟩
  case round =>
    clear HB
    obtain ⟨i, rfl, HI, HB⟩ := hrel
    by_cases hi : i < s.size
    · have hxi : ∀ h : i < s.size, ((s[i]'h).toNat : Int) = bt s (i : Int) := fun h => bt_at s (i : Int) h
      have p3 : (0 ≤ (i : Int)) = True := eq_true (by omega)
      have p4 : ((i : Int) < (s.size : Int)) = True := eq_true (by omega)
      have p4' : (i < s.size) = True := eq_true hi
      have k4 : decide (i < s.size) = true := decide_eq_true hi
      have k5 : decide ((i : Int) < (s.size : Int)) = true := decide_eq_true (by omega)
      have HLT := Lib.hid hi
      by_cases hd : bt s (i : Int) = 46
      · have k6 : (bt s (i : Int) != 46) = false := by rw [hd]; rfl
        have HD := Lib.hid hd
        have HDOT := Lib.hid (dot_some hi hd HI.out.2.2)
        have p5 : ((i : Int) + 1 ≤ (s.size : Int)) = True := eq_true (by omega)
        have p5' : (i + 1 ≤ s.size) = True := eq_true (by omega)
        have p6 : ((i : Int) ≤ (s.size : Int)) = True := eq_true (by omega)
        have p6' : (i ≤ s.size) = True := eq_true (by omega)
        have hi2 : s.size ≤ 4611686018427387904 := HS.out
        have w2 : (0 ≤ (i : Int) + 1) = True := eq_true (by omega)
        have w3 : ((i : Int) + 1).toNat = i + 1 := by omega
        have w1 : IntKind.i64.wrap ((i : Int) + 1) = (i : Int) + 1 := IntWalk.i64_in _ (by omega)
        clear hd hi hi2
        go_wp2
        go_quiet (fail)
        obtain ⟨A, hA⟩ : ∃ A, A = s.extract 0 i := ⟨_, rfl⟩
        obtain ⟨C, hC⟩ : ∃ C, C = s.extract (i + 1) s.size := ⟨_, rfl⟩
        rw [← hA, ← hC]
        have hlt := HLT.out
        have hAs : A.size = i := by rw [hA, extr_size]; omega
        have hCs : C.size = s.size - (i + 1) := by rw [hC, extr_size]; omega
        have HAS := Lib.hid hAs
        have HCS := Lib.hid hCs
        have HA := Lib.hid hA
        have HC := Lib.hid hC
        have hs := HS.out
        have HAM := Lib.hid (show A.size ≤ 4611686018427387904 by omega)
        have HCM := Lib.hid (show C.size ≤ 4611686018427387904 by omega)
        clear hA hC hxi p3 p4 p4' k4 k5 k6 p5 p5' p6 p6' w1 w2 w3 hs
        cases hda : digB A
        · have HDA := Lib.hid hda
          clear hda hAs hCs hlt
          go_wp2_with (first | (go_at_call 33; (with_reducible refine (digits_any A false _ HAM.out HDA.out).mono ?_); rintro e w2 ⟨rfl, hd⟩; have n0_ : Aside0 (Below w.heap.size w w2) := ⟨by obtain ⟨m, rfl⟩ := hd; exact pxb HB⟩; clear HB hd; have HB := n0_; clear n0_))
          go_ret2
          refine ⟨?_, pxb HB⟩
          unfold flV
          rw [HDOT.out]
          dsimp only
          rw [← HA.out, HDA.out]
          rfl
        · have HDA := Lib.hid hda
          clear hda
          cases hdb : digB C
          · have HDB := Lib.hid hdb
            clear hdb hAs hCs hlt
            go_wp2_with (first | (go_at_call 33; (with_reducible refine (digits_any A true _ HAM.out HDA.out).mono ?_); rintro e w2 ⟨rfl, hd⟩; have n0_ : Aside0 (Below w.heap.size w w2) := ⟨by obtain ⟨m, rfl⟩ := hd; exact pxb HB⟩; clear HB hd; have HB := n0_; clear n0_) | (go_at_call 33; (with_reducible refine (digits_any C false _ HCM.out HDB.out).mono ?_); rintro e w2 ⟨rfl, hd⟩; have n0_ : Aside0 (Below w.heap.size w w2) := ⟨by obtain ⟨m, rfl⟩ := hd; exact pxb HB⟩; clear HB hd; have HB := n0_; clear n0_))
            go_ret2
            refine ⟨?_, pxb HB⟩
            unfold flV
            rw [HDOT.out]
            dsimp only
            rw [← HA.out, ← HC.out, HDA.out, HDB.out]
            rfl
          · have HDB := Lib.hid hdb
            clear hdb
            have h1 := digB_get HDA.out
            have h2 := digB_get HDB.out
            have hx : ∀ h : 0 < A.size, ((A[0]'h).toNat : Int) = bt A 0 := fun h => bt_at A 0 h
            have q0 : (0 < (A.size : Int)) = True := eq_true (by omega)
            have q0' : (0 < A.size) = True := eq_true (by omega)
            have hb0 : bt A 0 = bt s 0 := by
              have := bt_extr s 0 i 0 (by rw [← HA.out]; omega)
              rw [← HA.out] at this
              exact this
            rw [hb0] at hx
            clear hb0 h1 h2
            have HLL := Lib.hid (rfl : (decide (1 < i) && (bt s 0 == 48)) = (decide (1 < i) && (bt s 0 == 48)))
            by_cases h1i : 1 < i
            · have k1 : decide (1 < (A.size : Int)) = true := decide_eq_true (by omega)
              have k1' : decide (1 < A.size) = true := decide_eq_true (by omega)
              by_cases h48 : bt s 0 = 48
              · have k2 : (bt s 0 == 48) = true := beq_iff_eq.2 h48
                have HL := Lib.hid (show (decide (1 < i) && (bt s 0 == 48)) = true by rw [decide_eq_true h1i, k2]; rfl)
                clear hAs hCs hlt h1i h48 HLL
                go_wp2_with (first | (go_at_call 33; (with_reducible refine (digits_any A true _ HAM.out HDA.out).mono ?_); rintro e w2 ⟨rfl, hd⟩; have n0_ : Aside0 (Below w.heap.size w w2) := ⟨by obtain ⟨m, rfl⟩ := hd; exact pxb HB⟩; clear HB hd; have HB := n0_; clear n0_) | (go_at_call 33; (with_reducible refine (digits_any C true _ HCM.out HDB.out).mono ?_); rintro e w2 ⟨rfl, hd⟩; have n0_ : Aside0 (Below w.heap.size w w2) := ⟨by obtain ⟨m, rfl⟩ := hd; exact pxb HB⟩; clear HB hd; have HB := n0_; clear n0_))
                go_ret2
                refine ⟨?_, pxb HB⟩
                unfold flV
                rw [HDOT.out]
                dsimp only
                rw [← HA.out, ← HC.out, HDA.out, HDB.out, HL.out]
                rfl
              · have k2 : (bt s 0 == 48) = false := beq_eq_false_iff_ne.2 h48
                have HL := Lib.hid (show (decide (1 < i) && (bt s 0 == 48)) = false by rw [k2, Bool.and_false])
                clear h1i h48 HLL
                by_cases hlong : 15 < s.size - 1
                · have k3 : decide (15 < (A.size : Int) + (C.size : Int)) = true := decide_eq_true (by omega)
                  have k3' : decide (15 < A.size + C.size) = true := decide_eq_true (by omega)
                  have k3'' : decide (15 < wrap64 ((A.size : Int) + (C.size : Int))) = true := by have := HS.out; rw [wrap_id (by omega) (by omega)]; exact k3
                  have HLO := Lib.hid hlong
                  clear hAs hCs hlt hlong
                  go_wp2_with (first | (go_at_call 33; (with_reducible refine (digits_any A true _ HAM.out HDA.out).mono ?_); rintro e w2 ⟨rfl, hd⟩; have n0_ : Aside0 (Below w.heap.size w w2) := ⟨by obtain ⟨m, rfl⟩ := hd; exact pxb HB⟩; clear HB hd; have HB := n0_; clear n0_) | (go_at_call 33; (with_reducible refine (digits_any C true _ HCM.out HDB.out).mono ?_); rintro e w2 ⟨rfl, hd⟩; have n0_ : Aside0 (Below w.heap.size w w2) := ⟨by obtain ⟨m, rfl⟩ := hd; exact pxb HB⟩; clear HB hd; have HB := n0_; clear n0_))
                  go_ret2
                  refine ⟨?_, pxb HB⟩
                  rw [flV_long HDOT.out (by rw [← HA.out]; exact HDA.out) (by rw [← HC.out]; exact HDB.out) HL.out HLO.out]
                  rfl
                · have k3 : decide (15 < (A.size : Int) + (C.size : Int)) = false := decide_eq_false (by omega)
                  have k3' : decide (15 < A.size + C.size) = false := decide_eq_false (by omega)
                  have k3'' : decide (15 < wrap64 ((A.size : Int) + (C.size : Int))) = false := by have := HS.out; rw [wrap_id (by omega) (by omega)]; exact k3
                  have hfd : FD s i := fd_of hlt HD.out (by rw [← HA.out]; exact HDA.out) (by rw [← HC.out]; exact HDB.out) HL.out hlong
                  have HFD := Lib.hid hfd
                  have HLO := Lib.hid hlong
                  have HNO := Lib.hid (norm_ok (floatBits_ok (fdV_some hfd)))
                  have tok_p : True := trivial
                  have tok_n : True := trivial
                  clear hAs hCs hlt hlong hfd
                  go_wp2_with (first | (go_at_call 33; (with_reducible refine (digits_any A true _ HAM.out HDA.out).mono ?_); rintro e w2 ⟨rfl, hd⟩; have n0_ : Aside0 (Below w.heap.size w w2) := ⟨by obtain ⟨m, rfl⟩ := hd; exact pxb HB⟩; clear HB hd; have HB := n0_; clear n0_) | (go_at_call 33; (with_reducible refine (digits_any C true _ HCM.out HDB.out).mono ?_); rintro e w2 ⟨rfl, hd⟩; have n0_ : Aside0 (Below w.heap.size w w2) := ⟨by obtain ⟨m, rfl⟩ := hd; exact pxb HB⟩; clear HB hd; have HB := n0_; clear n0_) | (clear tok_p; go_at_call 36; (with_reducible refine (sparse_any s i _ (HG.out.later (pxb HB)) HFD.out).mono ?_); rintro e w3 ⟨rfl, hb⟩; have n0_ := pxs HB hb; clear HB hb; have HB := n0_; clear n0_) | (clear tok_n; go_at_call 19; (with_reducible refine (norm_any _ _).mono ?_); rintro e w4 ⟨rfl, rfl⟩; rw [HNO.out]))
                  go_ret2
                  refine ⟨?_, pxb HB⟩
                  rw [flV_ok HDOT.out (by rw [← HA.out]; exact HDA.out) (by rw [← HC.out]; exact HDB.out) HL.out HLO.out]
                  rfl
            · have k1 : decide (1 < (A.size : Int)) = false := decide_eq_false (by omega)
              have k1' : decide (1 < A.size) = false := decide_eq_false (by omega)
              have HL := Lib.hid (show (decide (1 < i) && (bt s 0 == 48)) = false by rw [decide_eq_false h1i]; rfl)
              clear h1i HLL
              by_cases hlong : 15 < s.size - 1
              · have k3 : decide (15 < (A.size : Int) + (C.size : Int)) = true := decide_eq_true (by omega)
                have k3' : decide (15 < A.size + C.size) = true := decide_eq_true (by omega)
                have k3'' : decide (15 < wrap64 ((A.size : Int) + (C.size : Int))) = true := by have := HS.out; rw [wrap_id (by omega) (by omega)]; exact k3
                have HLO := Lib.hid hlong
                clear hAs hCs hlt hlong
                go_wp2_with (first | (go_at_call 33; (with_reducible refine (digits_any A true _ HAM.out HDA.out).mono ?_); rintro e w2 ⟨rfl, hd⟩; have n0_ : Aside0 (Below w.heap.size w w2) := ⟨by obtain ⟨m, rfl⟩ := hd; exact pxb HB⟩; clear HB hd; have HB := n0_; clear n0_) | (go_at_call 33; (with_reducible refine (digits_any C true _ HCM.out HDB.out).mono ?_); rintro e w2 ⟨rfl, hd⟩; have n0_ : Aside0 (Below w.heap.size w w2) := ⟨by obtain ⟨m, rfl⟩ := hd; exact pxb HB⟩; clear HB hd; have HB := n0_; clear n0_))
                go_ret2
                refine ⟨?_, pxb HB⟩
                rw [flV_long HDOT.out (by rw [← HA.out]; exact HDA.out) (by rw [← HC.out]; exact HDB.out) HL.out HLO.out]
                rfl
              · have k3 : decide (15 < (A.size : Int) + (C.size : Int)) = false := decide_eq_false (by omega)
                have k3' : decide (15 < A.size + C.size) = false := decide_eq_false (by omega)
                have k3'' : decide (15 < wrap64 ((A.size : Int) + (C.size : Int))) = false := by have := HS.out; rw [wrap_id (by omega) (by omega)]; exact k3
                have hfd : FD s i := fd_of hlt HD.out (by rw [← HA.out]; exact HDA.out) (by rw [← HC.out]; exact HDB.out) HL.out hlong
                have HFD := Lib.hid hfd
                have HLO := Lib.hid hlong
                have HNO := Lib.hid (norm_ok (floatBits_ok (fdV_some hfd)))
                have tok_p : True := trivial
                have tok_n : True := trivial
                clear hAs hCs hlt hlong hfd
                go_wp2_with (first | (go_at_call 33; (with_reducible refine (digits_any A true _ HAM.out HDA.out).mono ?_); rintro e w2 ⟨rfl, hd⟩; have n0_ : Aside0 (Below w.heap.size w w2) := ⟨by obtain ⟨m, rfl⟩ := hd; exact pxb HB⟩; clear HB hd; have HB := n0_; clear n0_) | (go_at_call 33; (with_reducible refine (digits_any C true _ HCM.out HDB.out).mono ?_); rintro e w2 ⟨rfl, hd⟩; have n0_ : Aside0 (Below w.heap.size w w2) := ⟨by obtain ⟨m, rfl⟩ := hd; exact pxb HB⟩; clear HB hd; have HB := n0_; clear n0_) | (clear tok_p; go_at_call 36; (with_reducible refine (sparse_any s i _ (HG.out.later (pxb HB)) HFD.out).mono ?_); rintro e w3 ⟨rfl, hb⟩; have n0_ := pxs HB hb; clear HB hb; have HB := n0_; clear n0_) | (clear tok_n; go_at_call 19; (with_reducible refine (norm_any _ _).mono ?_); rintro e w4 ⟨rfl, rfl⟩; rw [HNO.out]))
                go_ret2
                refine ⟨?_, pxb HB⟩
                rw [flV_ok HDOT.out (by rw [← HA.out]; exact HDA.out) (by rw [← HC.out]; exact HDB.out) HL.out HLO.out]
                rfl
      · have k6 : (bt s (i : Int) != 46) = true := bne_iff_ne.2 hd
        have HN := Lib.hid (show ∀ j : Nat, j < i + 1 → bt s (j : Int) ≠ 46 from fun j hj => by
          by_cases e : j = i
          · subst e; exact hd
          · exact HI.out.2.2 j (by omega))
        clear hd hi
        go_wp2
        go_roundg (s.size - (i + 1))
        case measure => have := HI.out; have := HLT.out; omega
        case rel => exact ⟨i + 1, by have := HLT.out; have := HS.out; rw [wrap_id (by omega) (by omega)]; rfl, ⟨by have := HLT.out; omega, rfl, HN.out⟩, ⟨pxb HB⟩⟩
    · obtain rfl : s.size = i := by have := HI.out; omega
      have k4 : decide (s.size < s.size) = false := decide_eq_false (by omega)
      have k5 : decide ((s.size : Int) < (s.size : Int)) = false := decide_eq_false (by omega)
      have HR := Lib.hid (dot_none HI.out.2.2)
      clear hi HI
      go_wp2
      go_ret2
      refine ⟨?_, pxb HB⟩
      unfold flV
      rw [HR.out]
      rfl
end Go.Proofs.YtbnopcndjdpnkaaDoor.NuW
