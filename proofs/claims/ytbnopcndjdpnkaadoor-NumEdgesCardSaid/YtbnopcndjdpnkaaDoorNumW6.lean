/- num.Int, whatever text is handed in. -/
import Derived.Test.YtbnopcndjdpnkaaDoorNumW5
import Derived.Test.YtbnopcndjdpnkaaDoorShelf
namespace Go.Proofs.YtbnopcndjdpnkaaDoor.NuW
open Go.RowKit Go.Proofs.YtbnopcndjdpnkaaDoorW.PrintWords Go.Proofs.YtbnopcndjdpnkaaDoorW.PrintLast Go.Proofs.YtbnopcndjdpnkaaDoor.X Go.Proofs.YtbnopcndjdpnkaaDoor.Fl
set_option linter.unusedVariables false
set_option linter.unusedSimpArgs false
/-- What digits say, behind what those ahead say. -/
def valF (acc : Nat) (l : List UInt8) : Nat := l.foldl (fun a c => a * 10 + (c.toNat - 48)) acc
theorem valF_nil (acc : Nat) : valF acc [] = acc := rfl
theorem valF_cons (acc : Nat) (c : UInt8) (r : List UInt8) : valF acc (c :: r) = valF (acc * 10 + (c.toNat - 48)) r := by unfold valF; rw [List.foldl_cons]
theorem valF_le (l : List UInt8) : ∀ acc, acc ≤ valF acc l := by
  induction l with
  | nil => intro acc; exact Nat.le_refl _
  | cons c r ih =>
    intro acc
    rw [valF_cons]
    have := ih (acc * 10 + (c.toNat - 48))
    generalize valF (acc * 10 + (c.toNat - 48)) r = v at this ⊢
    omega
theorem parseM : ∀ (l : List UInt8) (acc : Nat), (∀ c, c ∈ l → 48 ≤ c.toNat ∧ c.toNat ≤ 57) → Lib.parseUintM (2 ^ 64 - 1) acc l = if valF acc l ≤ 2 ^ 64 - 1 then .ok (valF acc l) else if l = [] then .ok acc else .range
  | [], acc, _ => by
    rw [Lib.parseUintM, valF_nil]
    split <;> simp
  | c :: r, acc, h => by
    have hc := h c List.mem_cons_self
    have h64 : (2 : Nat) ^ 64 - 1 = 18446744073709551615 := by decide
    have hle := valF_le r (acc * 10 + (c.toNat - 48))
    rw [Lib.parseUintM, if_pos hc, valF_cons, if_neg (by simp : ¬ c :: r = [])]
    rw [h64]
    by_cases h1 : 1844674407370955162 ≤ acc
    · rw [if_pos h1, if_neg (by omega)]
    · rw [if_neg h1]
      by_cases h2 : 18446744073709551615 < acc * 10 + (c.toNat - 48)
      · rw [if_pos h2, if_neg (by omega)]
      · rw [if_neg h2]
        have ih := parseM r (acc * 10 + (c.toNat - 48)) (fun x hx => h x (List.mem_cons_of_mem _ hx))
        rw [h64] at ih
        rw [ih]
        by_cases h3 : valF (acc * 10 + (c.toNat - 48)) r ≤ 18446744073709551615
        · rw [if_pos h3, if_pos h3]
        · rw [if_neg h3, if_neg h3]
          cases r with
          | nil => rw [valF_nil] at h3; omega
          | cons x r => rw [if_neg (by simp)]
theorem parseI (l : List UInt8) (h : ∀ c, c ∈ l → 48 ≤ c.toNat ∧ c.toNat ≤ 57) (hn : l ≠ []) : Lib.parseIntB 64 l = if valF 0 l < 9223372036854775808 then .ok (valF 0 l : Int) else .range := by
  cases l with
  | nil => exact absurd rfl hn
  | cons c r =>
    have hc := h c List.mem_cons_self
    have h64 : (2 : Nat) ^ 64 - 1 = 18446744073709551615 := by decide
    have h63 : (2 : Nat) ^ (64 - 1) = 9223372036854775808 := by decide
    unfold Lib.parseIntB
    dsimp only
    rw [if_neg (by omega : ¬ (c.toNat = 43 ∨ c.toNat = 45))]
    unfold Lib.parseUintB
    rw [if_neg hn, parseM (c :: r) 0 h, if_neg hn, h64]
    by_cases h1 : valF 0 (c :: r) ≤ 18446744073709551615
    · rw [if_pos h1]
      dsimp only
      rw [h63]
      by_cases h2 : valF 0 (c :: r) < 9223372036854775808
      · rw [if_neg (by omega), if_neg (by omega), if_pos h2, if_neg (by omega)]
      · rw [if_pos (by omega), if_neg h2]
    · rw [if_neg h1, if_neg (by omega)]
theorem digs_list {s : ByteArray} (h : digB s = true) : (∀ c, c ∈ s.data.toList → 48 ≤ c.toNat ∧ c.toNat ≤ 57) ∧ s.data.toList ≠ [] := by
  have h1 := digB_get h
  have hl : s.data.toList.length = s.size := Array.length_toList
  refine ⟨fun c hc => ?_, fun e => by rw [e] at hl; simp at hl; omega⟩
  obtain ⟨i, hi, rfl⟩ := List.getElem_of_mem hc
  have h2 := h1.2 i (by omega)
  have h3 := bt_at s (i : Int) (show ((i : Int)).toNat < s.size by simpa using (by omega : i < s.size))
  have e : s.data.toList[i] = s[i]'(by omega) := by rw [Array.getElem_toList]; rfl
  rw [← h3] at h2
  rw [e]
  simp only [Int.toNat_natCast] at h2
  omega
/-- What a text says as a whole number, and the error's number. -/
def intV (s : ByteArray) : Int × Int := if (digB s && !(decide (1 < s.size) && (bt s 0 == 48))) = true then (if valF 0 s.data.toList < 9223372036854775808 then ((valF 0 s.data.toList : Int), 0) else (0, 1)) else (0, 5)
theorem pint_ok (s : ByteArray) (hmax : s.size ≤ 281474976710656) (v : Int) (h : Lib.parseIntB 64 s.data.toList = .ok v) (w : World) : Calls Tryd.prog 34 #[.string s, .int .i64 10, .int .i64 64] w fun e w' => e = .returned (.tuple #[.int .i64 v, .nilIface]) ∧ Below w.heap.size w w' :=
  (Any.strconv_ParseInt_10_at64_ok Shelf.laysc174 s (by omega) v h w).mono fun e w' ⟨he, hw⟩ => ⟨he, by
    rcases hw with rfl | ⟨t, rfl⟩
    · exact Below.refl _ _
    · exact Lib.bytesWorld_below _ _ _⟩
theorem pint_range (s : ByteArray) (hmax : s.size ≤ 281474976710656) (h : Lib.parseIntB 64 s.data.toList = .range) (w : World) (hg : GV w) : Calls Tryd.prog 34 #[.string s, .int .i64 10, .int .i64 64] w fun e w' => ∃ n t a, e = .returned (.tuple #[.int .i64 n, .iface t a]) ∧ Below w.heap.size w w' := by
  obtain ⟨te, pe, hev⟩ := hg.rng
  exact (Any.strconv_ParseInt_10_at64_range Shelf.laysc174 s hmax h _ w hev (.inr ⟨te, pe, rfl⟩)).mono fun e w' ⟨N, he, _, _, hb⟩ => ⟨_, _, _, he, hb⟩
theorem intV_ok {s : ByteArray} (h1 : digB s = true) (h2 : (decide (1 < s.size) && (bt s 0 == 48)) = false) (h3 : valF 0 s.data.toList < 9223372036854775808) : intV s = ((valF 0 s.data.toList : Int), 0) := by
  unfold intV
  rw [h1, h2]
  show (if valF 0 s.data.toList < 9223372036854775808 then ((valF 0 s.data.toList : Int), (0 : Int)) else (0, 1)) = _
  rw [if_pos h3]
theorem intV_range {s : ByteArray} (h1 : digB s = true) (h2 : (decide (1 < s.size) && (bt s 0 == 48)) = false) (h3 : ¬ valF 0 s.data.toList < 9223372036854775808) : intV s = (0, 1) := by
  unfold intV
  rw [h1, h2]
  show (if valF 0 s.data.toList < 9223372036854775808 then ((valF 0 s.data.toList : Int), (0 : Int)) else (0, 1)) = _
  rw [if_neg h3]
set_option maxRecDepth 100000 in
set_option maxHeartbeats 8000000 in
theorem int_any (s : ByteArray) (w : World) (hg : GV w) (hs : s.size ≤ 281474976710656) : Calls Tryd.prog 11 #[.string s] w fun e w' => e = .returned (.tuple #[.int .i64 (intV s).1, .int .i64 (intV s).2]) ∧ Below w.heap.size w w' := by
  have HB := Aside0.mk (Below.refl w.heap.size w)
  have HG := Aside0.mk hg
  have HS := Lib.hid hs
  have HSM := Lib.hid (show s.size ≤ 4611686018427387904 by omega)
  clear hg hs
  cases hda : digB s
  · have HDA := Lib.hid hda
    clear hda
    go_enter Tryd.func11, Tryd.ntmps11
    go_wp2_with (first | (go_at_call 33; (with_reducible refine (digits_any s false _ HSM.out HDA.out).mono ?_); rintro e w2 ⟨rfl, hd⟩; have n0_ : Aside0 (Below w.heap.size w w2) := ⟨by obtain ⟨m, rfl⟩ := hd; exact pxb HB⟩; clear HB hd; have HB := n0_; clear n0_))
    go_ret2
    refine ⟨?_, pxb HB⟩
    unfold intV
    rw [HDA.out]
    rfl
  · have HDA := Lib.hid hda
    have h1 := digB_get hda
    clear hda
    have hx : ∀ h : 0 < s.size, ((s[0]'h).toNat : Int) = bt s 0 := fun h => bt_at s 0 h
    have q0 : (0 < (s.size : Int)) = True := eq_true (by omega)
    have q0' : (0 < s.size) = True := eq_true (by omega)
    by_cases h1i : 1 < s.size
    · have k1 : decide (1 < (s.size : Int)) = true := decide_eq_true (by omega)
      have k1' : decide (1 < s.size) = true := decide_eq_true h1i
      by_cases h48 : bt s 0 = 48
      · have k2 : (bt s 0 == 48) = true := beq_iff_eq.2 h48
        have HL := Lib.hid (show (decide (1 < s.size) && (bt s 0 == 48)) = true by rw [decide_eq_true h1i, k2]; rfl)
        clear h1 h1i h48
        go_enter Tryd.func11, Tryd.ntmps11
        go_wp2_with (first | (go_at_call 33; (with_reducible refine (digits_any s true _ HSM.out HDA.out).mono ?_); rintro e w2 ⟨rfl, hd⟩; have n0_ : Aside0 (Below w.heap.size w w2) := ⟨by obtain ⟨m, rfl⟩ := hd; exact pxb HB⟩; clear HB hd; have HB := n0_; clear n0_))
        go_ret2
        refine ⟨?_, pxb HB⟩
        unfold intV
        rw [HDA.out, HL.out]
        rfl
      · have k2 : (bt s 0 == 48) = false := beq_eq_false_iff_ne.2 h48
        have HL := Lib.hid (show (decide (1 < s.size) && (bt s 0 == 48)) = false by rw [k2, Bool.and_false])
        clear h1 h1i h48
        by_cases hv : valF 0 s.data.toList < 9223372036854775808
        · have HP := Lib.hid (show Lib.parseIntB 64 s.data.toList = .ok (valF 0 s.data.toList : Int) by rw [parseI _ (digs_list HDA.out).1 (digs_list HDA.out).2, if_pos hv])
          have HV := Lib.hid hv
          have tok_p : True := trivial
          clear hv
          go_enter Tryd.func11, Tryd.ntmps11
          go_wp2_with (first | (go_at_call 33; (with_reducible refine (digits_any s true _ HSM.out HDA.out).mono ?_); rintro e w2 ⟨rfl, hd⟩; have n0_ : Aside0 (Below w.heap.size w w2) := ⟨by obtain ⟨m, rfl⟩ := hd; exact pxb HB⟩; clear HB hd; have HB := n0_; clear n0_) | (clear tok_p; go_at_call 34; (with_reducible refine (pint_ok s HS.out _ HP.out _).mono ?_); rintro e w3 ⟨rfl, hb⟩; have n0_ := pxs HB hb; clear HB hb; have HB := n0_; clear n0_))
          go_ret2
          refine ⟨?_, pxb HB⟩
          rw [intV_ok HDA.out HL.out HV.out]
          rfl
        · have HP := Lib.hid (show Lib.parseIntB 64 s.data.toList = .range by rw [parseI _ (digs_list HDA.out).1 (digs_list HDA.out).2, if_neg hv])
          have HV := Lib.hid hv
          have tok_p : True := trivial
          clear hv
          go_enter Tryd.func11, Tryd.ntmps11
          go_wp2_with (first | (go_at_call 33; (with_reducible refine (digits_any s true _ HSM.out HDA.out).mono ?_); rintro e w2 ⟨rfl, hd⟩; have n0_ : Aside0 (Below w.heap.size w w2) := ⟨by obtain ⟨m, rfl⟩ := hd; exact pxb HB⟩; clear HB hd; have HB := n0_; clear n0_) | (clear tok_p; go_at_call 34; (with_reducible refine (pint_range s HS.out HP.out _ (HG.out.later (pxb HB))).mono ?_); rintro e w3 ⟨n, t, a, rfl, hb⟩; have n0_ := pxs HB hb; clear HB hb; have HB := n0_; clear n0_))
          go_ret2
          refine ⟨?_, pxb HB⟩
          rw [intV_range HDA.out HL.out HV.out]
          rfl
    · have k1 : decide (1 < (s.size : Int)) = false := decide_eq_false (by omega)
      have k1' : decide (1 < s.size) = false := decide_eq_false h1i
      have HL := Lib.hid (show (decide (1 < s.size) && (bt s 0 == 48)) = false by rw [decide_eq_false h1i]; rfl)
      clear h1 h1i
      by_cases hv : valF 0 s.data.toList < 9223372036854775808
      · have HP := Lib.hid (show Lib.parseIntB 64 s.data.toList = .ok (valF 0 s.data.toList : Int) by rw [parseI _ (digs_list HDA.out).1 (digs_list HDA.out).2, if_pos hv])
        have HV := Lib.hid hv
        have tok_p : True := trivial
        clear hv
        go_enter Tryd.func11, Tryd.ntmps11
        go_wp2_with (first | (go_at_call 33; (with_reducible refine (digits_any s true _ HSM.out HDA.out).mono ?_); rintro e w2 ⟨rfl, hd⟩; have n0_ : Aside0 (Below w.heap.size w w2) := ⟨by obtain ⟨m, rfl⟩ := hd; exact pxb HB⟩; clear HB hd; have HB := n0_; clear n0_) | (clear tok_p; go_at_call 34; (with_reducible refine (pint_ok s HS.out _ HP.out _).mono ?_); rintro e w3 ⟨rfl, hb⟩; have n0_ := pxs HB hb; clear HB hb; have HB := n0_; clear n0_))
        go_ret2
        refine ⟨?_, pxb HB⟩
        rw [intV_ok HDA.out HL.out HV.out]
        rfl
      · have HP := Lib.hid (show Lib.parseIntB 64 s.data.toList = .range by rw [parseI _ (digs_list HDA.out).1 (digs_list HDA.out).2, if_neg hv])
        have HV := Lib.hid hv
        have tok_p : True := trivial
        clear hv
        go_enter Tryd.func11, Tryd.ntmps11
        go_wp2_with (first | (go_at_call 33; (with_reducible refine (digits_any s true _ HSM.out HDA.out).mono ?_); rintro e w2 ⟨rfl, hd⟩; have n0_ : Aside0 (Below w.heap.size w w2) := ⟨by obtain ⟨m, rfl⟩ := hd; exact pxb HB⟩; clear HB hd; have HB := n0_; clear n0_) | (clear tok_p; go_at_call 34; (with_reducible refine (pint_range s HS.out HP.out _ (HG.out.later (pxb HB))).mono ?_); rintro e w3 ⟨n, t, a, rfl, hb⟩; have n0_ := pxs HB hb; clear HB hb; have HB := n0_; clear n0_))
        go_ret2
        refine ⟨?_, pxb HB⟩
        rw [intV_range HDA.out HL.out HV.out]
        rfl
end Go.Proofs.YtbnopcndjdpnkaaDoor.NuW
