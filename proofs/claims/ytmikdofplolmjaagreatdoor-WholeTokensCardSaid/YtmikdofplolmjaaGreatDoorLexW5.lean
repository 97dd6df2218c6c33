/- How a text's reader goes on over a token; the library's variable that is looked at may be any whole number. -/
import Derived.Test.YtmikdofplolmjaaGreatDoorLexW4
namespace Go.Proofs.YtmikdofplolmjaaGreatDoor.LexW
open Go.RowKit Go.Shelf Go.Proofs.YtmikdofplolmjaaGreatDoorW.PrintWords Go.Proofs.YtmikdofplolmjaaGreatDoor.Lx
set_option linter.unusedVariables false
set_option linter.unusedSimpArgs false
/-- What is so behind a token. -/
def OneP (g : Nat) (s : ByteArray) (lv : Value) (i : Nat) (r : Nat × Nat × Nat) (w : World) (e : Ending) (w' : World) : Prop :=
  Only g w w' ∧ ∃ (j k : Nat), Rd g s j lv w' ∧ (r.2.2 = 0 → j = i + r.2.1 ∧ k = r.1) ∧ e = .returned (.tuple #[.int .i64 k, .int .i64 (r.2.2 : Nat)])
theorem OneP.no {g : Nat} {s : ByteArray} {lv : Value} {i j k c : Nat} {r : Nat × Nat × Nat} {w w' : World} (hr : r.2.2 = c) (hc : c ≠ 0) (h : Rd g s j lv w') (ho : Only g w w') : OneP g s lv i r w (.returned (.tuple #[.int .i64 (k : Int), .int .i64 (c : Int)])) w' :=
  ⟨ho, j, k, h, fun h0 => absurd (hr.symm.trans h0) hc, by rw [hr]⟩
theorem OneP.yes {g : Nat} {s : ByteArray} {lv : Value} {i j k n : Nat} {r : Nat × Nat × Nat} {w w' : World} (hr : r = (k, n, 0)) (hj : j = i + n) (h : Rd g s j lv w') (ho : Only g w w') : OneP g s lv i r w (.returned (.tuple #[.int .i64 (k : Int), .int .i64 0])) w' :=
  ⟨ho, j, k, h, fun _ => ⟨by rw [hr]; exact hj, by rw [hr]⟩, by rw [hr]; rfl⟩
set_option maxHeartbeats 8000000 in
set_option maxRecDepth 100000 in
theorem one_any (g : Nat) (s : ByteArray) (lv : Value) (i : Nat) (w : World) (hi : i < s.size) (hs : s.size ≤ 4611686018427387904) (hg : 3 < g) (hv : GVl w) (hR : Rd g s i lv w) :
    Calls Tryz.prog 19 #[.pointer (some ⟨g, 0, none⟩)] w (OneP g s lv i (oneN (s.data.toList.drop i)) w) := by
  have HR := Lib.hid hR
  have HO := Lib.hid (Only.refl g w)
  have HS := Lib.hid hs
  have HV := Lib.hid hv
  have HG := Lib.hid hg
  obtain ⟨K, hK⟩ : ∃ K, oneN (s.data.toList.drop i) = K := ⟨_, rfl⟩
  rw [hK]
  have hd := drop_at hi
  rw [hd, oneN] at hK
  rw [← hd] at hK
  obtain ⟨c0, c1, c2, f0, f1, f2⟩ := hR.at
  obtain ⟨c, hc⟩ : ∃ c, s[i] = c := ⟨_, rfl⟩
  clear hR hs hv hg c2 f0 f2 hd
  go_enter Tryz.func19, Tryz.ntmps19
  go_wp2
  go_quiet (fail)
  rw [hc] at hK
  have HI := Lib.hid hi
  clear hc hi c0 c1 f1
  have lwl : ∀ p, i + lenN p (s.data.toList.drop i) ≤ s.size := fun p => by
    have h1 := lenN_le p (s.data.toList.drop i)
    rw [List.length_drop, Array.length_toList] at h1
    have h2 : s.data.size = s.size := rfl
    have := HI.out
    omega
  have LW := Lib.hid lwl
  clear lwl
  cases h1 : letB c
  · rw [h1, if_neg (by decide)] at hK
    cases h2 : digB c
    · rw [h2, if_neg (by decide)] at hK
      have k3 : ((c.toNat : Int) == 34) = (c == 34) := u8_eq _ 34 (by decide)
      cases h3 : (c == 34)
      · rw [h3] at k3
        rw [if_neg (beq_eq_false_iff_ne.1 h3)] at hK
        have HK := Lib.hid hK
        clear hK
        by_cases h4' : signN (s.data.toList.drop i) = 0
        · have h4 := Lib.hid h4'
          clear h4'
          go_wp2_with (first | (go_at_call 31; refine (letter_any c _).mono ?_; rw [h1]; rintro e w' ⟨rfl, rfl⟩) | (go_at_call 32; refine (digit_any c _).mono ?_; rw [h2]; rintro e w' ⟨rfl, rfl⟩) | (go_at_call 41; refine (sign_any g s lv i _ HI.out HS.out (HV.out.below (show 3 < 4 by decide) (pw_below_drewN (Below.refl _ _) _)) (HR.out.drewN _)).mono ?_; rintro e w1 ⟨hO1, ⟨j, hR1, hj⟩, he⟩; rw [if_pos h4.out] at he; subst he; have HR1 := Lib.hid hR1; have HO1 := Lib.hid ((HO.out.drewN _).trans hO1); have HJ := Lib.hid hj; clear hR1 hO1 hj))
          go_ret2
          exact OneP.no (k := 5) (c := 60) (by rw [← HK.out, if_pos h4.out]) (by decide) HR1.out HO1.out
        · have h4 := Lib.hid h4'
          clear h4'
          go_wp2_with (first | (go_at_call 31; refine (letter_any c _).mono ?_; rw [h1]; rintro e w' ⟨rfl, rfl⟩) | (go_at_call 32; refine (digit_any c _).mono ?_; rw [h2]; rintro e w' ⟨rfl, rfl⟩) | (go_at_call 41; refine (sign_any g s lv i _ HI.out HS.out (HV.out.below (show 3 < 4 by decide) (pw_below_drewN (Below.refl _ _) _)) (HR.out.drewN _)).mono ?_; rintro e w1 ⟨hO1, ⟨j, hR1, hj⟩, he⟩; rw [if_neg h4.out] at he; subst he; have HR1 := Lib.hid hR1; have HO1 := Lib.hid ((HO.out.drewN _).trans hO1); have HJ := Lib.hid hj; clear hR1 hO1 hj))
          go_ret2
          exact OneP.yes (k := 5) (by rw [← HK.out, if_neg h4.out]) (HJ.out h4.out) HR1.out HO1.out
      · rw [h3] at k3
        rw [if_pos (beq_iff_eq.1 h3)] at hK
        have hdd : s.data.toList.drop i = s[i]'HI.out :: s.data.toList.drop (i + 1) := drop_at HI.out
        obtain ⟨C, hC⟩ : ∃ C, (quotN (s.data.toList.drop (i + 1))).2 = C := ⟨_, rfl⟩
        rw [hC] at hK
        have HC := Lib.hid hC
        have HK := Lib.hid hK
        clear hK hC hdd
        by_cases hC0 : C = 0
        · obtain rfl := hC0
          obtain ⟨m, hm⟩ : ∃ m, i + 1 + (quotN (s.data.toList.drop (i + 1))).1 = m := ⟨_, rfl⟩
          have hms : m ≤ s.size := by
            have h5 := quotN_le (s.data.toList.drop (i + 1))
            rw [List.length_drop, Array.length_toList] at h5
            have h6 : s.data.size = s.size := rfl
            have := HI.out
            omega
          have HM := Lib.hid hm
          have hmi : i ≤ m := by omega
          clear hm
          have hw : IntKind.i64.wrap ((m : Int) - (i : Int)) = (m : Int) - (i : Int) := by have := HS.out; exact IntWalk.i64_in _ (by omega)
          by_cases hlong : 256 < m - i
          · have t1 : decide ((256 : Int) < (m : Int) - (i : Int)) = true := decide_eq_true (by omega)
            go_wp2_with (first | (go_at_call 31; refine (letter_any c _).mono ?_; rw [h1]; rintro e w' ⟨rfl, rfl⟩) | (go_at_call 32; refine (digit_any c _).mono ?_; rw [h2]; rintro e w' ⟨rfl, rfl⟩) | (go_at_call 27; refine (quoted_any g s lv i _ HI.out HS.out (HR.out.drewN _)).mono ?_; rw [HC.out]; rintro e w1 ⟨rfl, ⟨j, hR1, hj⟩, hO1⟩; obtain rfl := (hj rfl).trans HM.out; clear hj; have HR1 := Lib.hid hR1; have HO1 := Lib.hid ((HO.out.drewN _).trans hO1); obtain ⟨c0, c1, c2, f0, f1, f2⟩ := hR1.at; clear hR1 hO1 c2 f0 f2))
            go_ret2
            exact OneP.no (k := 4) (c := 2) (by rw [← HK.out, if_pos trivial, if_pos (by have := HM.out; omega)]) (by decide) HR1.out HO1.out
          · have t1 : decide ((256 : Int) < (m : Int) - (i : Int)) = false := decide_eq_false (by omega)
            go_wp2_with (first | (go_at_call 31; refine (letter_any c _).mono ?_; rw [h1]; rintro e w' ⟨rfl, rfl⟩) | (go_at_call 32; refine (digit_any c _).mono ?_; rw [h2]; rintro e w' ⟨rfl, rfl⟩) | (go_at_call 27; refine (quoted_any g s lv i _ HI.out HS.out (HR.out.drewN _)).mono ?_; rw [HC.out]; rintro e w1 ⟨rfl, ⟨j, hR1, hj⟩, hO1⟩; obtain rfl := (hj rfl).trans HM.out; clear hj; have HR1 := Lib.hid hR1; have HO1 := Lib.hid ((HO.out.drewN _).trans hO1); obtain ⟨c0, c1, c2, f0, f1, f2⟩ := hR1.at; clear hR1 hO1 c2 f0 f2))
            go_ret2
            exact OneP.yes (k := 4) (by rw [← HK.out, if_pos trivial, if_neg (by have := HM.out; omega)]) (by have := HM.out; omega) HR1.out HO1.out
        · have t1 : ((C : Int) == 0) = false := beq_eq_false_iff_ne.2 (by omega)
          have HC0 := Lib.hid hC0
          clear hC0
          go_wp2_with (first | (go_at_call 31; refine (letter_any c _).mono ?_; rw [h1]; rintro e w' ⟨rfl, rfl⟩) | (go_at_call 32; refine (digit_any c _).mono ?_; rw [h2]; rintro e w' ⟨rfl, rfl⟩) | (go_at_call 27; refine (quoted_any g s lv i _ HI.out HS.out (HR.out.drewN _)).mono ?_; rw [HC.out]; rintro e w1 ⟨rfl, ⟨j, hR1, hj⟩, hO1⟩; have HR1 := Lib.hid hR1; have HO1 := Lib.hid ((HO.out.drewN _).trans hO1); clear hR1 hO1 hj))
          go_ret2
          exact OneP.no (k := 4) (by rw [← HK.out, if_neg HC0.out]) HC0.out HR1.out HO1.out
    · rw [h2, if_pos rfl] at hK
      obtain ⟨m, hm⟩ : ∃ m, i + lenN digB (s.data.toList.drop i) = m := ⟨_, rfl⟩
      have hms : m ≤ s.size := by rw [← hm]; exact LW.out _
      have hmi : i ≤ m := by omega
      have hdm : (s.data.toList.drop i).drop (lenN digB (s.data.toList.drop i)) = s.data.toList.drop m := by rw [List.drop_drop, hm]
      rw [hdm] at hK
      have HM := Lib.hid hm
      have HK := Lib.hid hK
      clear hm hK hdm
      have hw : IntKind.i64.wrap ((m : Int) - (i : Int)) = (m : Int) - (i : Int) := by have := HS.out; exact IntWalk.i64_in _ (by omega)
      have hwm : IntKind.i64.wrap ((m : Int) + 1) = (m : Int) + 1 := by have := HS.out; exact IntWalk.i64_in _ (by omega)
      -- is there a point, and a digit behind it?
      by_cases hf : ∃ h : m + 1 < s.size, s[m] = 46 ∧ digB s[m + 1] = true
      · obtain ⟨hl, k46, kd⟩ := hf
        obtain ⟨m2, hm2⟩ : ∃ m2, m + 1 + lenN digB (s.data.toList.drop (m + 1)) = m2 := ⟨_, rfl⟩
        have hms2 : m2 ≤ s.size := by
          have h5 := lenN_le digB (s.data.toList.drop (m + 1))
          rw [List.length_drop, Array.length_toList] at h5
          have h6 : s.data.size = s.size := rfl
          omega
        have hmi2 : m + 1 ≤ m2 := by omega
        have hfr : fracN (s.data.toList.drop m) = (3, m2 - m) := by
          have d2 := drop_at (s := s) (j := m + 1) hl
          rw [drop_at (by omega), d2, fracN, if_pos ⟨k46, kd⟩, ← d2]
          show (3, lenN digB (s.data.toList.drop (m + 1)) + 1) = _
          rw [show lenN digB (s.data.toList.drop (m + 1)) + 1 = m2 - m by omega]
        have HK2 : Hid ((if 20 < m2 - i then (0, 0, 2) else (3, m2 - i, 0)) = K) := by
          have h5 := HK.out
          rw [hfr] at h5
          rw [← h5]
          have := HM.out
          show (if 20 < m2 - i then (0, 0, 2) else (3, m2 - i, 0)) = if 20 < lenN digB (s.data.toList.drop i) + (m2 - m) then (0, 0, 2) else (3, lenN digB (s.data.toList.drop i) + (m2 - m), 0)
          rw [show lenN digB (s.data.toList.drop i) + (m2 - m) = m2 - i by omega]
        have HM2 := Lib.hid hm2
        have hw2 : IntKind.i64.wrap ((m2 : Int) - (i : Int)) = (m2 : Int) - (i : Int) := by have := HS.out; exact IntWalk.i64_in _ (by omega)
        have p0 : ((0 : Int) ≤ (m : Int) + 1) = True := eq_true (by omega)
        have p1 : ((m : Int) + 1).toNat = m + 1 := by omega
        have p3 : ((m : Int) + 1 < (s.size : Int)) = True := eq_true (by omega)
        have p3b : decide ((m : Int) + 1 < (s.size : Int)) = true := decide_eq_true (by omega)
        have p4 : (m < s.size) = True := eq_true (by omega)
        have hml : m < s.size := Nat.lt_of_succ_lt hl
        have k46b : (((s[m]'hml).toNat : Int) == 46) = true := by rw [k46]; rfl
        have HL := Lib.hid hl
        clear hm2 hfr k46
        by_cases hlong : 20 < m2 - i
        · have t1 : decide ((20 : Int) < (m2 : Int) - (i : Int)) = true := decide_eq_true (by omega)
          go_wp2_with (first | (go_at_call 31; refine (letter_any c _).mono ?_; rw [h1]; rintro e w' ⟨rfl, rfl⟩) | (go_at_call 32; refine (digit_any c _).mono ?_; rw [h2]; rintro e w' ⟨rfl, rfl⟩) | (go_at_call 37; refine (while_digit g s lv i _ (Nat.le_of_lt HI.out) HS.out (HR.out.drewN _)).mono ?_; rw [HM.out]; rintro e w1 ⟨rfl, hR1, hO1⟩; have HR1 := Lib.hid hR1; have HO1 := Lib.hid ((HO.out.drewN _).trans hO1); obtain ⟨c0, c1, c2, f0, f1, f2⟩ := hR1.at; clear hR1 hO1 c2 f0 f2))
          go_quiet ((go_at_call 32; exact Calls.quiet_of_same (digit_any _ _)))
          go_wp2_with (go_at_call 37; refine (while_digit g s lv (m + 1) _ (Nat.le_of_lt HL.out) HS.out ((HR1.out.drewN _).put _)).mono ?_; rw [HM2.out]; rintro e w3 ⟨rfl, hR3, hO3⟩; have HR3 := Lib.hid hR3; have HO3 := Lib.hid (((HO1.out.drewN _).put 1 _).trans hO3); obtain ⟨c0, c1, c2, f0, f1, f2⟩ := hR3.at; clear hR3 hO3 c2 f0 f2)
          go_ret2
          exact OneP.no (k := 0) (c := 2) (by rw [← HK2.out, if_pos hlong]) (by decide) HR3.out HO3.out
        · have t1 : decide ((20 : Int) < (m2 : Int) - (i : Int)) = false := decide_eq_false (by omega)
          go_wp2_with (first | (go_at_call 31; refine (letter_any c _).mono ?_; rw [h1]; rintro e w' ⟨rfl, rfl⟩) | (go_at_call 32; refine (digit_any c _).mono ?_; rw [h2]; rintro e w' ⟨rfl, rfl⟩) | (go_at_call 37; refine (while_digit g s lv i _ (Nat.le_of_lt HI.out) HS.out (HR.out.drewN _)).mono ?_; rw [HM.out]; rintro e w1 ⟨rfl, hR1, hO1⟩; have HR1 := Lib.hid hR1; have HO1 := Lib.hid ((HO.out.drewN _).trans hO1); obtain ⟨c0, c1, c2, f0, f1, f2⟩ := hR1.at; clear hR1 hO1 c2 f0 f2))
          go_quiet ((go_at_call 32; exact Calls.quiet_of_same (digit_any _ _)))
          go_wp2_with (go_at_call 37; refine (while_digit g s lv (m + 1) _ (Nat.le_of_lt HL.out) HS.out ((HR1.out.drewN _).put _)).mono ?_; rw [HM2.out]; rintro e w3 ⟨rfl, hR3, hO3⟩; have HR3 := Lib.hid hR3; have HO3 := Lib.hid (((HO1.out.drewN _).put 1 _).trans hO3); obtain ⟨c0, c1, c2, f0, f1, f2⟩ := hR3.at; clear hR3 hO3 c2 f0 f2)
          go_ret2
          exact OneP.yes (k := 3) (by rw [← HK2.out, if_neg hlong]) (by omega) HR3.out HO3.out
      · have hfr : fracN (s.data.toList.drop m) = (2, 0) := by
          rcases Nat.lt_or_ge m s.size with h5 | h5
          · rcases Nat.lt_or_ge (m + 1) s.size with h6 | h6
            · rw [drop_at h5, drop_at h6, fracN, if_neg]
              rintro ⟨k1, k2⟩
              exact hf ⟨h6, k1, k2⟩
            · rw [drop_at h5, drop_end h6]; rfl
          · rw [drop_end h5]; rfl
        have HK2 : Hid ((if 20 < m - i then (0, 0, 2) else (2, m - i, 0)) = K) := by
          have h5 := HK.out
          rw [hfr] at h5
          rw [← h5]
          have := HM.out
          show (if 20 < m - i then (0, 0, 2) else (2, m - i, 0)) = if 20 < lenN digB (s.data.toList.drop i) + 0 then (0, 0, 2) else (2, lenN digB (s.data.toList.drop i) + 0, 0)
          rw [show lenN digB (s.data.toList.drop i) + 0 = m - i by omega]
        have p0 : ((0 : Int) ≤ (m : Int) + 1) = True := eq_true (by omega)
        have p1 : ((m : Int) + 1).toNat = m + 1 := by omega
        clear hfr
        by_cases hl : m + 1 < s.size
        · have hml : m < s.size := Nat.lt_of_succ_lt hl
          have p3 : ((m : Int) + 1 < (s.size : Int)) = True := eq_true (by omega)
          have p3b : decide ((m : Int) + 1 < (s.size : Int)) = true := decide_eq_true (by omega)
          have p4 : (m < s.size) = True := eq_true (by omega)
          have k4 : (((s[m]'hml).toNat : Int) == 46) = (s[m]'hml == 46) := u8_eq _ 46 (by decide)
          cases h4 : (s[m]'hml == 46)
          · rw [h4] at k4
            clear hf
            by_cases hlong : 20 < m - i
            · have t1 : decide ((20 : Int) < (m : Int) - (i : Int)) = true := decide_eq_true (by omega)
              go_wp2_with (first | (go_at_call 31; refine (letter_any c _).mono ?_; rw [h1]; rintro e w' ⟨rfl, rfl⟩) | (go_at_call 32; refine (digit_any c _).mono ?_; rw [h2]; rintro e w' ⟨rfl, rfl⟩) | (go_at_call 37; refine (while_digit g s lv i _ (Nat.le_of_lt HI.out) HS.out (HR.out.drewN _)).mono ?_; rw [HM.out]; rintro e w1 ⟨rfl, hR1, hO1⟩; have HR1 := Lib.hid hR1; have HO1 := Lib.hid ((HO.out.drewN _).trans hO1); obtain ⟨c0, c1, c2, f0, f1, f2⟩ := hR1.at; clear hR1 hO1 c2 f0 f2))
              go_quiet (fail)
              go_wp2
              go_ret2
              exact OneP.no (k := 0) (c := 2) (by rw [← HK2.out, if_pos hlong]) (by decide) (HR1.out.drewN _) (HO1.out.drewN _)
            · have t1 : decide ((20 : Int) < (m : Int) - (i : Int)) = false := decide_eq_false (by omega)
              go_wp2_with (first | (go_at_call 31; refine (letter_any c _).mono ?_; rw [h1]; rintro e w' ⟨rfl, rfl⟩) | (go_at_call 32; refine (digit_any c _).mono ?_; rw [h2]; rintro e w' ⟨rfl, rfl⟩) | (go_at_call 37; refine (while_digit g s lv i _ (Nat.le_of_lt HI.out) HS.out (HR.out.drewN _)).mono ?_; rw [HM.out]; rintro e w1 ⟨rfl, hR1, hO1⟩; have HR1 := Lib.hid hR1; have HO1 := Lib.hid ((HO.out.drewN _).trans hO1); obtain ⟨c0, c1, c2, f0, f1, f2⟩ := hR1.at; clear hR1 hO1 c2 f0 f2))
              go_quiet (fail)
              go_wp2
              go_ret2
              exact OneP.yes (k := 2) (by rw [← HK2.out, if_neg hlong]) (by omega) (HR1.out.drewN _) (HO1.out.drewN _)
          · rw [h4] at k4
            have kd : digB (s[m + 1]'hl) = false := by
              cases h5 : digB (s[m + 1]'hl)
              · rfl
              · exact absurd ⟨hl, beq_iff_eq.1 h4, h5⟩ hf
            clear hf
            by_cases hlong : 20 < m - i
            · have t1 : decide ((20 : Int) < (m : Int) - (i : Int)) = true := decide_eq_true (by omega)
              go_wp2_with (first | (go_at_call 31; refine (letter_any c _).mono ?_; rw [h1]; rintro e w' ⟨rfl, rfl⟩) | (go_at_call 32; refine (digit_any c _).mono ?_; rw [h2]; rintro e w' ⟨rfl, rfl⟩) | (go_at_call 37; refine (while_digit g s lv i _ (Nat.le_of_lt HI.out) HS.out (HR.out.drewN _)).mono ?_; rw [HM.out]; rintro e w1 ⟨rfl, hR1, hO1⟩; have HR1 := Lib.hid hR1; have HO1 := Lib.hid ((HO.out.drewN _).trans hO1); obtain ⟨c0, c1, c2, f0, f1, f2⟩ := hR1.at; clear hR1 hO1 c2 f0 f2))
              go_quiet ((go_at_call 32; exact Calls.quiet_of_same (digit_any _ _)))
              go_wp2
              go_ret2
              exact OneP.no (k := 0) (c := 2) (by rw [← HK2.out, if_pos hlong]) (by decide) (HR1.out.drewN _) (HO1.out.drewN _)
            · have t1 : decide ((20 : Int) < (m : Int) - (i : Int)) = false := decide_eq_false (by omega)
              go_wp2_with (first | (go_at_call 31; refine (letter_any c _).mono ?_; rw [h1]; rintro e w' ⟨rfl, rfl⟩) | (go_at_call 32; refine (digit_any c _).mono ?_; rw [h2]; rintro e w' ⟨rfl, rfl⟩) | (go_at_call 37; refine (while_digit g s lv i _ (Nat.le_of_lt HI.out) HS.out (HR.out.drewN _)).mono ?_; rw [HM.out]; rintro e w1 ⟨rfl, hR1, hO1⟩; have HR1 := Lib.hid hR1; have HO1 := Lib.hid ((HO.out.drewN _).trans hO1); obtain ⟨c0, c1, c2, f0, f1, f2⟩ := hR1.at; clear hR1 hO1 c2 f0 f2))
              go_quiet ((go_at_call 32; exact Calls.quiet_of_same (digit_any _ _)))
              go_wp2
              go_ret2
              exact OneP.yes (k := 2) (by rw [← HK2.out, if_neg hlong]) (by omega) (HR1.out.drewN _) (HO1.out.drewN _)
        · have p3 : ((m : Int) + 1 < (s.size : Int)) = False := eq_false (by omega)
          have p3b : decide ((m : Int) + 1 < (s.size : Int)) = false := decide_eq_false (by omega)
          clear hf
          by_cases hlong : 20 < m - i
          · have t1 : decide ((20 : Int) < (m : Int) - (i : Int)) = true := decide_eq_true (by omega)
            go_wp2_with (first | (go_at_call 31; refine (letter_any c _).mono ?_; rw [h1]; rintro e w' ⟨rfl, rfl⟩) | (go_at_call 32; refine (digit_any c _).mono ?_; rw [h2]; rintro e w' ⟨rfl, rfl⟩) | (go_at_call 37; refine (while_digit g s lv i _ (Nat.le_of_lt HI.out) HS.out (HR.out.drewN _)).mono ?_; rw [HM.out]; rintro e w1 ⟨rfl, hR1, hO1⟩; have HR1 := Lib.hid hR1; have HO1 := Lib.hid ((HO.out.drewN _).trans hO1); obtain ⟨c0, c1, c2, f0, f1, f2⟩ := hR1.at; clear hR1 hO1 c2 f0 f2))
            go_quiet (fail)
            go_wp2
            go_ret2
            exact OneP.no (k := 0) (c := 2) (by rw [← HK2.out, if_pos hlong]) (by decide) (HR1.out.drewN _) (HO1.out.drewN _)
          · have t1 : decide ((20 : Int) < (m : Int) - (i : Int)) = false := decide_eq_false (by omega)
            go_wp2_with (first | (go_at_call 31; refine (letter_any c _).mono ?_; rw [h1]; rintro e w' ⟨rfl, rfl⟩) | (go_at_call 32; refine (digit_any c _).mono ?_; rw [h2]; rintro e w' ⟨rfl, rfl⟩) | (go_at_call 37; refine (while_digit g s lv i _ (Nat.le_of_lt HI.out) HS.out (HR.out.drewN _)).mono ?_; rw [HM.out]; rintro e w1 ⟨rfl, hR1, hO1⟩; have HR1 := Lib.hid hR1; have HO1 := Lib.hid ((HO.out.drewN _).trans hO1); obtain ⟨c0, c1, c2, f0, f1, f2⟩ := hR1.at; clear hR1 hO1 c2 f0 f2))
            go_quiet (fail)
            go_wp2
            go_ret2
            exact OneP.yes (k := 2) (by rw [← HK2.out, if_neg hlong]) (by omega) (HR1.out.drewN _) (HO1.out.drewN _)
  · rw [h1, if_pos rfl] at hK
    have HK := Lib.hid hK
    clear hK
    obtain ⟨m, hm⟩ : ∃ m, i + lenN wrdB (s.data.toList.drop i) = m := ⟨_, rfl⟩
    have hms : m ≤ s.size := by rw [← hm]; exact LW.out _
    have hmi : i ≤ m := by omega
    have HM := Lib.hid hm
    have hw : IntKind.i64.wrap ((m : Int) - (i : Int)) = (m : Int) - (i : Int) := by have := HS.out; exact IntWalk.i64_in _ (by omega)
    clear hm
    by_cases hlong : 64 < m - i
    · have t1 : decide ((64 : Int) < (m : Int) - (i : Int)) = true := decide_eq_true (by omega)
      go_wp2_with (first | (go_at_call 31; refine (letter_any c _).mono ?_; rw [h1]; rintro e w' ⟨rfl, rfl⟩) | (go_at_call 37; refine (while_word g s lv i _ (Nat.le_of_lt HI.out) HS.out (HR.out.drewN _)).mono ?_; rw [HM.out]; rintro e w1 ⟨rfl, hR1, hO1⟩; have HR1 := Lib.hid hR1; have HO1 := Lib.hid ((HO.out.drewN _).trans hO1); obtain ⟨c0, c1, c2, f0, f1, f2⟩ := hR1.at; clear hR1 hO1 c2 f0 f2))
      go_ret2
      exact OneP.no (by rw [← HK.out, if_pos (by have := HM.out; omega)]) (by decide) HR1.out HO1.out
    · have t1 : decide ((64 : Int) < (m : Int) - (i : Int)) = false := decide_eq_false (by omega)
      go_wp2_with (first | (go_at_call 31; refine (letter_any c _).mono ?_; rw [h1]; rintro e w' ⟨rfl, rfl⟩) | (go_at_call 37; refine (while_word g s lv i _ (Nat.le_of_lt HI.out) HS.out (HR.out.drewN _)).mono ?_; rw [HM.out]; rintro e w1 ⟨rfl, hR1, hO1⟩; have HR1 := Lib.hid hR1; have HO1 := Lib.hid ((HO.out.drewN _).trans hO1); obtain ⟨c0, c1, c2, f0, f1, f2⟩ := hR1.at; clear hR1 hO1 c2 f0 f2))
      go_ret2
      exact OneP.yes (by rw [← HK.out, if_neg (by have := HM.out; omega)]) HM.out.symm HR1.out HO1.out
end Go.Proofs.YtmikdofplolmjaaGreatDoor.LexW
