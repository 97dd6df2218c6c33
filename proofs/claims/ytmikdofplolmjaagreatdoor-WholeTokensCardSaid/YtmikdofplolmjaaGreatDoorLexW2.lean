/- How a text's reader goes on over blanks and comments; no condition. -/
import Derived.Test.YtmikdofplolmjaaGreatDoorLexW1
namespace Go.Proofs.YtmikdofplolmjaaGreatDoor.LexW
open Go.RowKit Go.Shelf Go.Proofs.YtmikdofplolmjaaGreatDoorW.PrintWords Go.Proofs.YtmikdofplolmjaaGreatDoor.Lx
set_option linter.unusedVariables false
set_option linter.unusedSimpArgs false
theorem drop_at {s : ByteArray} {j : Nat} (h : j < s.size) : s.data.toList.drop j = s[j] :: s.data.toList.drop (j + 1) := by
  rw [List.drop_eq_getElem_cons (by rw [Array.length_toList]; exact h)]
  rfl
theorem drop_end {s : ByteArray} {j : Nat} (h : s.size ≤ j) : s.data.toList.drop j = [] := List.drop_eq_nil_of_le (by rw [Array.length_toList]; exact h)
theorem skip_blank : ∀ l : List UInt8, skipN false l = lenN blkB l + skipN false (l.drop (lenN blkB l))
  | [] => rfl
  | c :: l => by
    by_cases h : blkB c = true
    · rw [skipN, if_pos h, lenN, if_pos h, List.drop_succ_cons, skip_blank l]
      omega
    · rw [lenN, if_neg h, List.drop_zero, Nat.zero_add]
theorem prefix_at {s : ByteArray} {j : Nat} : Lib.hasPrefix (s.data.toList.drop j) [47, 47] = true ↔ ∃ h : j + 1 < s.size, s[j] = 47 ∧ s[j + 1] = 47 := by
  unfold Lib.hasPrefix
  constructor
  · intro h
    obtain ⟨r, hr⟩ := List.isPrefixOf_iff_prefix.1 h
    have hl := congrArg List.length hr
    rw [List.length_append, List.length_drop, Array.length_toList] at hl
    have h1 : j + 1 < s.size := by
      have : s.data.size = s.size := rfl
      simp at hl
      omega
    refine ⟨h1, ?_⟩
    rw [drop_at (by omega), drop_at h1] at hr
    injection hr with e1 hr
    injection hr with e2 _
    exact ⟨e1.symm, e2.symm⟩
  · rintro ⟨h1, e1, e2⟩
    rw [drop_at (by omega), drop_at h1, e1, e2]
    simp
set_option maxHeartbeats 4000000 in
set_option maxRecDepth 100000 in
theorem skip_any (g : Nat) (s : ByteArray) (lv : Value) (i : Nat) (w : World) (hi : i ≤ s.size) (hs : s.size ≤ 4611686018427387904) (hR : Rd g s i lv w) :
    Calls Tryz.prog 18 #[.pointer (some ⟨g, 0, none⟩)] w fun e w' => e = .returned (.tuple #[]) ∧ Rd g s ((i + skipN false (s.data.toList.drop i) : Nat) : Int) lv w' ∧ Only g w w' := by
  have HR := Lib.hid hR
  have HO := Lib.hid (Only.refl g w)
  have HI := Lib.hid hi
  have HS := Lib.hid hs
  obtain ⟨K, hK⟩ : ∃ K, i + skipN false (s.data.toList.drop i) = K := ⟨_, rfl⟩
  rw [hK]
  have HK := Lib.hid hK
  clear hR hK hi hs
  go_enter Tryz.func18, Tryz.ntmps18
  go_wp2
  go_loopg [] (s.size - i) (fun kq w' => ∃ j : Nat, Hid (j ≤ s.size ∧ j + skipN false (s.data.toList.drop j) = K ∧ kq = s.size - j ∧ Rd g s j lv w' ∧ Only g w w'))
  case atStart => exact ⟨i, HI.out, HK.out, rfl, HR.out, HO.out⟩
  case round =>
    obtain ⟨j, hrel⟩ := hrel
    obtain ⟨hj, hk, hg, hR, ho⟩ := hrel.out
    have HR2 := Lib.hid hR
    have HO2 := Lib.hid ho
    have HJ := Lib.hid hj
    have HK2 := Lib.hid hk
    have HG := Lib.hid hg
    clear hrel hj hk hg hR ho HR HO HI HK
    go_wp2_with (go_at_call 37; refine (while_blank g s lv j _ HJ.out HS.out HR2.out).mono ?_; rintro e w1 ⟨rfl, hR, hO⟩)
    obtain ⟨m, hm⟩ : ∃ m, j + lenN blkB (s.data.toList.drop j) = m := ⟨_, rfl⟩
    have hmj : j ≤ m := by omega
    have hms : m ≤ s.size := by have := lenN_le blkB (s.data.toList.drop j); rw [List.length_drop, Array.length_toList] at this; have h1 : s.data.size = s.size := rfl; have := HJ.out; omega
    have hmk : m + skipN false (s.data.toList.drop m) = K := by
      have h1 := skip_blank (s.data.toList.drop j)
      rw [List.drop_drop, hm] at h1
      have := HK2.out
      omega
    rw [hm] at hR
    have hb : lenN blkB (s.data.toList.drop m) = 0 := by rw [← hm, ← List.drop_drop]; exact lenN_drop _ _
    have ho := HO2.out.trans hO
    have HB := Lib.hid hb
    have HR := Lib.hid hR
    have HO := Lib.hid ho
    have HMK := Lib.hid hmk
    have HMS := Lib.hid hms
    have HMJ := Lib.hid hmj
    obtain ⟨c0, c1, c2, f0, f1, f2⟩ := hR.at
    clear HR2 HO2 HK2 HJ hm hO ho hb hR hmk hmj c2 f2 f0 f1
    have q1 : decide (m ≤ s.size) = true := decide_eq_true hms
    have et : (s.data.toList.drop m).take (s.size - m) = s.data.toList.drop m := List.take_of_length_le (by rw [List.length_drop, Array.length_toList]; exact Nat.le_refl _)
    have HP := Lib.hid (prefix_at (s := s) (j := m))
    rw [← et] at HP
    clear et
    cases hp : Lib.hasPrefix ((s.data.toList.drop m).take (s.size - m)) [47, 47]
    · go_wp2
      go_quiet ((go_at_call 39; exact Calls.quiet_of_same (Any.strings_HasPrefix Shelf.lays99 _ _ _)))
      go_wp2
      refine bodyPost_ret (results_none (by rfl) _ _ _) rfl ?_
      have e : K = m := by
        have h1 := HMK.out
        have h2 := HB.out
        have h3 := HP.out
        rcases Nat.lt_or_ge m s.size with hlt | hge
        · rw [drop_at hlt] at h1 h2
          rw [lenN] at h2
          have h4 : ¬ blkB s[m] = true := fun h => by rw [if_pos h] at h2; omega
          rw [skipN, if_neg h4, if_neg] at h1
          · omega
          · rintro ⟨k1, k2⟩
            have h5 : m + 1 < s.size := by
              rcases Nat.lt_or_ge (m + 1) s.size with h | h
              · exact h
              · rw [drop_end h] at k2; cases k2
            rw [drop_at h5] at k2
            have := h3.2 ⟨h5, k1, by simpa using k2⟩
            rw [hp] at this
            cases this
        · rw [drop_end hge] at h1
          have : skipN false ([] : List UInt8) = 0 := rfl
          omega
      exact ⟨rfl, e ▸ HR.out.drewN _, HO.out.drewN _⟩
    · obtain ⟨h5, k1, k2⟩ := HP.out.1 hp
      have HT : Hid (m < s.size ∧ ∃ r, s.data.toList.drop m = 47 :: r) := ⟨by omega, _, by rw [drop_at (by omega), k1]⟩
      have HMT : Hid (m + skipN true (s.data.toList.drop m) = K) := by
        have h1 := HMK.out
        rw [drop_at (by omega), drop_at h5, k1, k2] at h1 ⊢
        rw [skipN, if_neg (by decide), if_pos ⟨rfl, rfl⟩] at h1
        rw [skipN, if_neg (by decide)]
        exact h1
      clear h5 k1 k2 HP
      go_wp2
      go_quiet ((go_at_call 39; exact Calls.quiet_of_same (Any.strings_HasPrefix Shelf.lays99 _ _ _)))
      go_wp2
      go_loopg [] (s.size - m) (fun kq w' => ∃ q : Nat, Hid (m ≤ q ∧ q ≤ s.size ∧ q + skipN true (s.data.toList.drop q) = K ∧ kq = s.size - q ∧ Rd g s q lv w' ∧ Only g w w'))
      case atStart => exact ⟨m, Nat.le_refl _, HMS.out, HMT.out, rfl, HR.out.drewN _, HO.out.drewN _⟩
      case round =>
        obtain ⟨q, hrel⟩ := hrel
        obtain ⟨hm, hq, hk, hg, hR, ho⟩ := hrel.out
        have HR2 := Lib.hid hR
        have HO2 := Lib.hid ho
        have HM2 := Lib.hid hm
        have HQ := Lib.hid hq
        have HK2 := Lib.hid hk
        have HG2 := Lib.hid hg
        obtain ⟨c0, c1, c2, f0, f1, f2⟩ := hR.at
        clear hrel hm hq hk hg hR ho HR HO HMT c2 f2 f0
        by_cases hlt : q < s.size
        · have hu : ((s[q].toNat : Int) == 10) = (s[q] == 10) := u8_eq _ 10 (by decide)
          cases hc : (s[q] == 10)
          · have hu2 : ((s[q].toNat : Int) != 10) = true := by rw [bne, hu, hc]; rfl
            rw [hc] at hu
            have hw : IntKind.i64.wrap ((q : Int) + 1) = ((q + 1 : Nat) : Int) := by have := HS.out; exact IntWalk.i64_in _ (by omega)
            go_wp2
            go_quiet (fail)
            go_wp2
            go_roundg (s.size - (q + 1))
            case measure => have := HG2.out; omega
            case rel =>
              refine ⟨q + 1, by have := HM2.out; omega, by omega, ?_, rfl, (HR2.out.drewN _).put _, (HO2.out.drewN _).put 1 _⟩
              have h1 := HK2.out
              rw [drop_at hlt, skipN, if_neg (by simpa using hc)] at h1
              omega
          · have hu2 : ((s[q].toNat : Int) != 10) = false := by rw [bne, hu, hc]; rfl
            rw [hc] at hu
            go_wp2
            go_quiet (fail)
            go_wp2
            have hmq : m < q := by
              obtain ⟨t1, r, t2⟩ := HT.out
              have := HM2.out
              rcases Nat.lt_or_ge m q with h | h
              · exact h
              · have : q = m := by omega
                subst this
                rw [drop_at hlt] at t2
                injection t2 with t2 _
                rw [t2] at hc
                exact absurd hc (by decide)
            go_roundg (s.size - q)
            case measure => have := HG.out; have := HMJ.out; omega
            case rel =>
              refine ⟨q, HQ.out, ?_, rfl, HR2.out.drewN _, HO2.out.drewN _⟩
              have h1 := HK2.out
              rw [drop_at hlt] at h1 ⊢
              have hc' : s[q] = 10 := by simpa using hc
              rw [hc'] at h1 ⊢
              rw [skipN, if_pos rfl] at h1
              rw [skipN, if_pos (by decide)]
              exact h1
        · have hqs : q = s.size := by have := HQ.out; omega
          go_wp2
          go_quiet (fail)
          go_wp2
          have hmq : m < s.size := by obtain ⟨t1, _⟩ := HT.out; exact t1
          go_roundg (s.size - q)
          case measure => have := HG.out; have := HMJ.out; omega
          case rel =>
            refine ⟨q, HQ.out, ?_, rfl, HR2.out.drewN _, HO2.out.drewN _⟩
            have h1 := HK2.out
            rw [drop_end (by omega)] at h1 ⊢
            exact h1
end Go.Proofs.YtmikdofplolmjaaGreatDoor.LexW
