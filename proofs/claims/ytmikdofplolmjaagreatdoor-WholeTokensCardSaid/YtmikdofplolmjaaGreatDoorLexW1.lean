/- How a text's reader goes on over bytes of a sort; no condition. -/
import Derived.Test.YtmikdofplolmjaaGreatDoorLexW0
namespace Go.Proofs.YtmikdofplolmjaaGreatDoor.LexW
open Go.RowKit Go.Shelf Go.Proofs.YtmikdofplolmjaaGreatDoorW.PrintWords Go.Proofs.YtmikdofplolmjaaGreatDoor.Lx
set_option linter.unusedVariables false
set_option linter.unusedSimpArgs false
theorem lenN_at {p : UInt8 → Bool} {s : ByteArray} {j : Nat} (h : j < s.size) : lenN p (s.data.toList.drop j) = if p s[j] then lenN p (s.data.toList.drop (j + 1)) + 1 else 0 := by
  rw [List.drop_eq_getElem_cons (by rw [Array.length_toList]; exact h), lenN]
  rfl
theorem lenN_end {p : UInt8 → Bool} {s : ByteArray} {j : Nat} (h : s.size ≤ j) : lenN p (s.data.toList.drop j) = 0 := by
  rw [List.drop_eq_nil_of_le (by rw [Array.length_toList]; exact h)]
  rfl
theorem u8_eq (c : UInt8) (k : Nat) (hk : k < 256) : ((c.toNat : Int) == (k : Int)) = (c == UInt8.ofNat k) := by
  rw [Bool.eq_iff_iff, beq_iff_eq, beq_iff_eq, ← UInt8.toNat_inj, UInt8.toNat_ofNat_of_lt' hk]
  omega
theorem u8_le (c : UInt8) (k : Nat) (hk : k < 256) : decide ((k : Int) ≤ (c.toNat : Int)) = decide (UInt8.ofNat k ≤ c) := by
  rw [Bool.eq_iff_iff, decide_eq_true_iff, decide_eq_true_iff, UInt8.le_iff_toNat_le, UInt8.toNat_ofNat_of_lt' hk]
  omega
theorem u8_ge (c : UInt8) (k : Nat) (hk : k < 256) : decide ((c.toNat : Int) ≤ (k : Int)) = decide (c ≤ UInt8.ofNat k) := by
  rw [Bool.eq_iff_iff, decide_eq_true_iff, decide_eq_true_iff, UInt8.le_iff_toNat_le, UInt8.toNat_ofNat_of_lt' hk]
  omega
set_option maxHeartbeats 1000000 in
theorem blank_any (c : UInt8) (w : World) : Calls Tryz.prog 38 #[.int .u8 c.toNat] w fun e w' => e = .returned (.bool (blkB c)) ∧ w' = w := by
  have e1 : ((c.toNat : Int) == 32) = (c == 32) := u8_eq c 32 (by decide)
  have e2 : ((c.toNat : Int) == 9) = (c == 9) := u8_eq c 9 (by decide)
  have e3 : ((c.toNat : Int) == 10) = (c == 10) := u8_eq c 10 (by decide)
  have e4 : ((c.toNat : Int) == 13) = (c == 13) := u8_eq c 13 (by decide)
  unfold blkB
  generalize (c == 32) = b1, (c == 9) = b2, (c == 10) = b3, (c == 13) = b4 at e1 e2 e3 e4 ⊢
  cases b1 <;> cases b2 <;> cases b3 <;> cases b4
  all_goals
    go_enter Tryz.func38, Tryz.ntmps38
    go_wp2
    go_ret
    exact ⟨rfl, rfl⟩
set_option maxHeartbeats 1000000 in
theorem digit_any (c : UInt8) (w : World) : Calls Tryz.prog 32 #[.int .u8 c.toNat] w fun e w' => e = .returned (.bool (digB c)) ∧ w' = w := by
  have e1 : decide ((48 : Int) ≤ (c.toNat : Int)) = decide (48 ≤ c) := u8_le c 48 (by decide)
  have e2 : decide ((c.toNat : Int) ≤ 57) = decide (c ≤ 57) := u8_ge c 57 (by decide)
  unfold digB
  generalize decide (48 ≤ c) = b1, decide (c ≤ 57) = b2 at e1 e2 ⊢
  cases b1 <;> cases b2
  all_goals
    go_enter Tryz.func32, Tryz.ntmps32
    go_wp2
    go_ret
    exact ⟨rfl, rfl⟩
set_option maxHeartbeats 2000000 in
theorem letter_any (c : UInt8) (w : World) : Calls Tryz.prog 31 #[.int .u8 c.toNat] w fun e w' => e = .returned (.bool (letB c)) ∧ w' = w := by
  have e1 : decide ((97 : Int) ≤ (c.toNat : Int)) = decide (97 ≤ c) := u8_le c 97 (by decide)
  have e2 : decide ((c.toNat : Int) ≤ 122) = decide (c ≤ 122) := u8_ge c 122 (by decide)
  have e3 : decide ((65 : Int) ≤ (c.toNat : Int)) = decide (65 ≤ c) := u8_le c 65 (by decide)
  have e4 : decide ((c.toNat : Int) ≤ 90) = decide (c ≤ 90) := u8_ge c 90 (by decide)
  have e5 : ((c.toNat : Int) == 95) = (c == 95) := u8_eq c 95 (by decide)
  unfold letB
  generalize decide (97 ≤ c) = b1, decide (c ≤ 122) = b2, decide (65 ≤ c) = b3, decide (c ≤ 90) = b4, (c == 95) = b5 at e1 e2 e3 e4 e5 ⊢
  cases b1 <;> cases b2 <;> cases b3 <;> cases b4 <;> cases b5
  all_goals
    go_enter Tryz.func31, Tryz.ntmps31
    go_wp2
    go_ret
    exact ⟨rfl, rfl⟩
set_option maxHeartbeats 1000000 in
theorem word_any (c : UInt8) (w : World) : Calls Tryz.prog 40 #[.int .u8 c.toNat] w fun e w' => e = .returned (.bool (wrdB c)) ∧ w' = w := by
  have e1 : wrdB c = (letB c || digB c) := rfl
  rw [e1]
  clear e1
  cases h1 : letB c <;> cases h2 : digB c
  all_goals
    go_enter Tryz.func40, Tryz.ntmps40
    go_wp2_with (first | (go_at_call 31; refine (letter_any c _).mono ?_; rw [h1]; rintro e w' ⟨rfl, rfl⟩) | (go_at_call 32; refine (digit_any c _).mono ?_; rw [h2]; rintro e w' ⟨rfl, rfl⟩))
    go_ret
    exact ⟨rfl, rfl⟩
set_option maxHeartbeats 4000000 in
set_option maxRecDepth 100000 in
theorem while_blank (g : Nat) (s : ByteArray) (lv : Value) (i : Nat) (w : World) (hi : i ≤ s.size) (hs : s.size ≤ 4611686018427387904) (hR : Rd g s i lv w) :
    Calls Tryz.prog 37 #[.pointer (some ⟨g, 0, none⟩), .func (.func 38) #[] #[]] w fun e w' => e = .returned (.tuple #[]) ∧ Rd g s ((i + lenN blkB (s.data.toList.drop i) : Nat) : Int) lv w' ∧ Only g w w' := by
  have HR := Lib.hid hR
  have HO := Lib.hid (Only.refl g w)
  have HI := Lib.hid hi
  have HS := Lib.hid hs
  obtain ⟨K, hK⟩ : ∃ K, i + lenN blkB (s.data.toList.drop i) = K := ⟨_, rfl⟩
  rw [hK]
  have HK := Lib.hid hK
  clear hR hK hi hs
  go_enter Tryz.func37, Tryz.ntmps37
  go_wp2
  go_loopg [] (s.size - i) (fun kq w' => ∃ j : Nat, Hid (j ≤ s.size ∧ j + lenN blkB (s.data.toList.drop j) = K ∧ kq = s.size - j ∧ Rd g s j lv w' ∧ Only g w w'))
  case atStart => exact ⟨i, HI.out, HK.out, rfl, HR.out, HO.out⟩
  case round =>
    obtain ⟨j, hrel⟩ := hrel
    obtain ⟨hj, hk, hg, hR, ho⟩ := hrel.out
    obtain ⟨c0, c1, c2, f0, f1, f2⟩ := hR.at
    have HR2 := Lib.hid hR
    have HO2 := Lib.hid ho
    have HJ := Lib.hid hj
    have HK2 := Lib.hid hk
    have HG := Lib.hid hg
    clear hrel hj hk hg hR ho c2 f2 HR HO HI HK
    by_cases hlt : j < s.size
    · have hn := lenN_at (p := blkB) hlt
      cases hp : blkB s[j]
      · rw [hp, if_neg (by decide)] at hn
        have HN := Lib.hid hn
        clear hn
        go_wp2
        go_quiet ((go_at_call 38; exact Calls.quiet_of_same (blank_any _ _)))
        go_wp2
        go_end0
        have e : K = j := by have := HK2.out; have := HN.out; omega
        exact ⟨rfl, e ▸ HR2.out.drewN _, HO2.out.drewN _⟩
      · rw [hp, if_pos rfl] at hn
        have HN := Lib.hid hn
        clear hn
        have hw : IntKind.i64.wrap ((j : Int) + 1) = ((j + 1 : Nat) : Int) := by have := HS.out; exact IntWalk.i64_in _ (by omega)
        go_wp2
        go_quiet ((go_at_call 38; exact Calls.quiet_of_same (blank_any _ _)))
        go_wp2
        go_roundg (s.size - (j + 1))
        case measure => have := HG.out; omega
        case rel => exact ⟨j + 1, by omega, by have := HK2.out; have := HN.out; omega, rfl, (HR2.out.drewN _).put _, (HO2.out.drewN _).put 1 _⟩
    · go_wp2
      go_quiet (fail)
      go_wp2
      go_end0
      have e : K = j := by have := HK2.out; have := lenN_end (p := blkB) (s := s) (j := j) (by omega); omega
      exact ⟨rfl, e ▸ HR2.out.drewN _, HO2.out.drewN _⟩
set_option maxHeartbeats 4000000 in
set_option maxRecDepth 100000 in
theorem while_digit (g : Nat) (s : ByteArray) (lv : Value) (i : Nat) (w : World) (hi : i ≤ s.size) (hs : s.size ≤ 4611686018427387904) (hR : Rd g s i lv w) :
    Calls Tryz.prog 37 #[.pointer (some ⟨g, 0, none⟩), .func (.func 32) #[] #[]] w fun e w' => e = .returned (.tuple #[]) ∧ Rd g s ((i + lenN digB (s.data.toList.drop i) : Nat) : Int) lv w' ∧ Only g w w' := by
  have HR := Lib.hid hR
  have HO := Lib.hid (Only.refl g w)
  have HI := Lib.hid hi
  have HS := Lib.hid hs
  obtain ⟨K, hK⟩ : ∃ K, i + lenN digB (s.data.toList.drop i) = K := ⟨_, rfl⟩
  rw [hK]
  have HK := Lib.hid hK
  clear hR hK hi hs
  go_enter Tryz.func37, Tryz.ntmps37
  go_wp2
  go_loopg [] (s.size - i) (fun kq w' => ∃ j : Nat, Hid (j ≤ s.size ∧ j + lenN digB (s.data.toList.drop j) = K ∧ kq = s.size - j ∧ Rd g s j lv w' ∧ Only g w w'))
  case atStart => exact ⟨i, HI.out, HK.out, rfl, HR.out, HO.out⟩
  case round =>
    obtain ⟨j, hrel⟩ := hrel
    obtain ⟨hj, hk, hg, hR, ho⟩ := hrel.out
    obtain ⟨c0, c1, c2, f0, f1, f2⟩ := hR.at
    have HR2 := Lib.hid hR
    have HO2 := Lib.hid ho
    have HJ := Lib.hid hj
    have HK2 := Lib.hid hk
    have HG := Lib.hid hg
    clear hrel hj hk hg hR ho c2 f2 HR HO HI HK
    by_cases hlt : j < s.size
    · have hn := lenN_at (p := digB) hlt
      cases hp : digB s[j]
      · rw [hp, if_neg (by decide)] at hn
        have HN := Lib.hid hn
        clear hn
        go_wp2
        go_quiet ((go_at_call 32; exact Calls.quiet_of_same (digit_any _ _)))
        go_wp2
        go_end0
        have e : K = j := by have := HK2.out; have := HN.out; omega
        exact ⟨rfl, e ▸ HR2.out.drewN _, HO2.out.drewN _⟩
      · rw [hp, if_pos rfl] at hn
        have HN := Lib.hid hn
        clear hn
        have hw : IntKind.i64.wrap ((j : Int) + 1) = ((j + 1 : Nat) : Int) := by have := HS.out; exact IntWalk.i64_in _ (by omega)
        go_wp2
        go_quiet ((go_at_call 32; exact Calls.quiet_of_same (digit_any _ _)))
        go_wp2
        go_roundg (s.size - (j + 1))
        case measure => have := HG.out; omega
        case rel => exact ⟨j + 1, by omega, by have := HK2.out; have := HN.out; omega, rfl, (HR2.out.drewN _).put _, (HO2.out.drewN _).put 1 _⟩
    · go_wp2
      go_quiet (fail)
      go_wp2
      go_end0
      have e : K = j := by have := HK2.out; have := lenN_end (p := digB) (s := s) (j := j) (by omega); omega
      exact ⟨rfl, e ▸ HR2.out.drewN _, HO2.out.drewN _⟩
set_option maxHeartbeats 4000000 in
set_option maxRecDepth 100000 in
theorem while_word (g : Nat) (s : ByteArray) (lv : Value) (i : Nat) (w : World) (hi : i ≤ s.size) (hs : s.size ≤ 4611686018427387904) (hR : Rd g s i lv w) :
    Calls Tryz.prog 37 #[.pointer (some ⟨g, 0, none⟩), .func (.func 40) #[] #[]] w fun e w' => e = .returned (.tuple #[]) ∧ Rd g s ((i + lenN wrdB (s.data.toList.drop i) : Nat) : Int) lv w' ∧ Only g w w' := by
  have HR := Lib.hid hR
  have HO := Lib.hid (Only.refl g w)
  have HI := Lib.hid hi
  have HS := Lib.hid hs
  obtain ⟨K, hK⟩ : ∃ K, i + lenN wrdB (s.data.toList.drop i) = K := ⟨_, rfl⟩
  rw [hK]
  have HK := Lib.hid hK
  clear hR hK hi hs
  go_enter Tryz.func37, Tryz.ntmps37
  go_wp2
  go_loopg [] (s.size - i) (fun kq w' => ∃ j : Nat, Hid (j ≤ s.size ∧ j + lenN wrdB (s.data.toList.drop j) = K ∧ kq = s.size - j ∧ Rd g s j lv w' ∧ Only g w w'))
  case atStart => exact ⟨i, HI.out, HK.out, rfl, HR.out, HO.out⟩
  case round =>
    obtain ⟨j, hrel⟩ := hrel
    obtain ⟨hj, hk, hg, hR, ho⟩ := hrel.out
    obtain ⟨c0, c1, c2, f0, f1, f2⟩ := hR.at
    have HR2 := Lib.hid hR
    have HO2 := Lib.hid ho
    have HJ := Lib.hid hj
    have HK2 := Lib.hid hk
    have HG := Lib.hid hg
    clear hrel hj hk hg hR ho c2 f2 HR HO HI HK
    by_cases hlt : j < s.size
    · have hn := lenN_at (p := wrdB) hlt
      cases hp : wrdB s[j]
      · rw [hp, if_neg (by decide)] at hn
        have HN := Lib.hid hn
        clear hn
        go_wp2
        go_quiet ((go_at_call 40; exact Calls.quiet_of_same (word_any _ _)))
        go_wp2
        go_end0
        have e : K = j := by have := HK2.out; have := HN.out; omega
        exact ⟨rfl, e ▸ HR2.out.drewN _, HO2.out.drewN _⟩
      · rw [hp, if_pos rfl] at hn
        have HN := Lib.hid hn
        clear hn
        have hw : IntKind.i64.wrap ((j : Int) + 1) = ((j + 1 : Nat) : Int) := by have := HS.out; exact IntWalk.i64_in _ (by omega)
        go_wp2
        go_quiet ((go_at_call 40; exact Calls.quiet_of_same (word_any _ _)))
        go_wp2
        go_roundg (s.size - (j + 1))
        case measure => have := HG.out; omega
        case rel => exact ⟨j + 1, by omega, by have := HK2.out; have := HN.out; omega, rfl, (HR2.out.drewN _).put _, (HO2.out.drewN _).put 1 _⟩
    · go_wp2
      go_quiet (fail)
      go_wp2
      go_end0
      have e : K = j := by have := HK2.out; have := lenN_end (p := wrdB) (s := s) (j := j) (by omega); omega
      exact ⟨rfl, e ▸ HR2.out.drewN _, HO2.out.drewN _⟩
end Go.Proofs.YtmikdofplolmjaaGreatDoor.LexW
