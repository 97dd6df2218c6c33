/- How a text's reader goes on over a text in quotes; no condition. -/
import Derived.Test.YtmikdofplolmjaaGreatDoorLexW2
namespace Go.Proofs.YtmikdofplolmjaaGreatDoor.LexW
open Go.RowKit Go.Shelf Go.Proofs.YtmikdofplolmjaaGreatDoorW.PrintWords Go.Proofs.YtmikdofplolmjaaGreatDoor.Lx
set_option linter.unusedVariables false
set_option linter.unusedSimpArgs false
theorem index_neg {l : List UInt8} {c : UInt8} : Lib.indexByte l c < 0 ↔ ¬ c ∈ l := by
  induction l with
  | nil => simp [Lib.indexByte]
  | cons b l ih =>
    have hge := Lib.indexByte_ge l c
    rw [Lib.indexByte]
    by_cases hb : b = c
    · subst hb
      simp
    · have h1 : (b == c) = false := beq_eq_false_iff_ne.2 hb
      rw [h1, List.mem_cons, not_or]
      simp only [Bool.false_eq_true, if_false]
      by_cases h2 : Lib.indexByte l c = -1
      · rw [h2] at ih ⊢
        simp only [beq_self_eq_true, if_true]
        exact ⟨fun _ => ⟨fun e => hb e.symm, ih.1 (by decide)⟩, fun _ => by decide⟩
      · have h3 : (Lib.indexByte l c == -1) = false := beq_eq_false_iff_ne.2 h2
        rw [h3]
        simp only [Bool.false_eq_true, if_false]
        exact ⟨fun h => by omega, fun h => absurd (ih.2 h.2) (by omega)⟩
/-- The place of a byte among those that may stand behind a stroke. -/
def escI (c : UInt8) : Int := Lib.indexByte [34, 92, 110, 116] c
theorem escI_neg (c : UInt8) : decide (escI c < 0) = !decide (c = 34 ∨ c = 92 ∨ c = 110 ∨ c = 116) := by
  rw [Bool.eq_iff_iff, Bool.not_eq_true', decide_eq_true_iff, decide_eq_false_iff_not, escI, index_neg]
  simp
theorem esc_any (c : UInt8) (w : World) : Calls Tryz.prog 33 #[.string ⟨#[34, 92, 110, 116]⟩, .int .u8 c.toNat] w fun e w' => e = .returned (.int .i64 (escI c)) ∧ w' = w := by
  refine (Any.strings_IndexByte Shelf.lays137 ⟨#[34, 92, 110, 116]⟩ c.toNat w).mono ?_
  rintro e w' ⟨rfl, rfl⟩
  refine ⟨?_, rfl⟩
  rw [Int.toNat_natCast, escI]
  simp
theorem u8_lt (c : UInt8) (k : Nat) (hk : k < 256) : decide ((c.toNat : Int) < (k : Int)) = decide (c < UInt8.ofNat k) := by
  rw [Bool.eq_iff_iff, decide_eq_true_iff, decide_eq_true_iff, UInt8.lt_iff_toNat_lt, UInt8.toNat_ofNat_of_lt' hk]
  omega
theorem u8_gt (c : UInt8) (k : Nat) (hk : k < 256) : decide ((k : Int) < (c.toNat : Int)) = decide (UInt8.ofNat k < c) := by
  rw [Bool.eq_iff_iff, decide_eq_true_iff, decide_eq_true_iff, UInt8.lt_iff_toNat_lt, UInt8.toNat_ofNat_of_lt' hk]
  omega
theorem quotN_end (l : List UInt8) : quotN (34 :: l) = (1, 0) := by
  cases l <;> rw [quotN, if_pos rfl]
theorem quotN_nl (l : List UInt8) : quotN (10 :: l) = (0, 61) := by
  cases l <;> rw [quotN, if_neg (by decide), if_pos rfl]
theorem quotN_sign {c : UInt8} (l : List UInt8) (h1 : c ≠ 34) (h2 : c ≠ 10) (h3 : c < 32 ∨ 126 < c) : quotN (c :: l) = (0, 60) := by
  cases l <;> rw [quotN, if_neg h1, if_neg h2, if_pos h3]
theorem quotN_esc {d : UInt8} (l : List UInt8) (h : d = 34 ∨ d = 92 ∨ d = 110 ∨ d = 116) : quotN (92 :: d :: l) = ((quotN l).1 + 2, (quotN l).2) := by
  rw [quotN, if_neg (by decide), if_neg (by decide), if_neg (by decide), if_pos rfl, if_pos h]
theorem quotN_noesc {d : UInt8} (l : List UInt8) (h : ¬ (d = 34 ∨ d = 92 ∨ d = 110 ∨ d = 116)) : quotN (92 :: d :: l) = (0, 5) := by
  rw [quotN, if_neg (by decide), if_neg (by decide), if_neg (by decide), if_pos rfl, if_neg h]
theorem quotN_else {c : UInt8} (l : List UInt8) (h1 : c ≠ 34) (h2 : c ≠ 10) (h3 : ¬ (c < 32 ∨ 126 < c)) (h4 : c ≠ 92) : (quotN (c :: l)).2 = (quotN l).2 ∧ ((quotN l).2 = 0 → (quotN (c :: l)).1 = (quotN l).1 + 1) := by
  cases l with
  | nil =>
    have e : quotN [c] = (0, 61) := by rw [quotN, if_neg h1, if_neg h2, if_neg h3]
    rw [e]
    exact ⟨rfl, fun h => by cases h⟩
  | cons d l => rw [quotN, if_neg h1, if_neg h2, if_neg h3, if_neg h4]; exact ⟨rfl, fun _ => rfl⟩
set_option maxHeartbeats 8000000 in
set_option maxRecDepth 100000 in
theorem quoted_any (g : Nat) (s : ByteArray) (lv : Value) (i : Nat) (w : World) (hi : i < s.size) (hs : s.size ≤ 4611686018427387904) (hR : Rd g s i lv w) :
    Calls Tryz.prog 27 #[.pointer (some ⟨g, 0, none⟩)] w fun e w' => e = .returned (.int .i64 ((quotN (s.data.toList.drop (i + 1))).2 : Nat)) ∧ (∃ j : Nat, Rd g s j lv w' ∧ ((quotN (s.data.toList.drop (i + 1))).2 = 0 → j = i + 1 + (quotN (s.data.toList.drop (i + 1))).1)) ∧ Only g w w' := by
  have HR := Lib.hid hR
  have HO := Lib.hid (Only.refl g w)
  have HI := Lib.hid hi
  have HS := Lib.hid hs
  have hw0 : IntKind.i64.wrap ((i : Int) + 1) = ((i + 1 : Nat) : Int) := IntWalk.i64_in _ (by omega)
  obtain ⟨c0, c1, c2, f0, f1, f2⟩ := hR.at
  obtain ⟨K, hK⟩ : ∃ K, i + 1 + (quotN (s.data.toList.drop (i + 1))).1 = K := ⟨_, rfl⟩
  obtain ⟨C, hC⟩ : ∃ C, (quotN (s.data.toList.drop (i + 1))).2 = C := ⟨_, rfl⟩
  rw [hK, hC]
  have HK := Lib.hid hK
  have HC := Lib.hid hC
  clear hR hK hC hi hs c0 c2 f0 f2
  go_enter Tryz.func27, Tryz.ntmps27
  go_wp2
  go_loopg [] (s.size - (i + 1)) (fun kq w' => ∃ j : Nat, Hid (j ≤ s.size ∧ (quotN (s.data.toList.drop j)).2 = C ∧ (C = 0 → j + (quotN (s.data.toList.drop j)).1 = K) ∧ kq = s.size - j ∧ Rd g s j lv w' ∧ Only g w w'))
  case atStart => exact ⟨i + 1, HI.out, HC.out, fun _ => HK.out, rfl, HR.out.put _, HO.out.put 1 _⟩
  case round =>
    obtain ⟨j, hrel⟩ := hrel
    obtain ⟨hj, hc, hk, hg, hR, ho⟩ := hrel.out
    have HR2 := Lib.hid hR
    have HO2 := Lib.hid ho
    have HJ := Lib.hid hj
    have HC2 := Lib.hid hc
    have HK2 := Lib.hid hk
    have HG := Lib.hid hg
    obtain ⟨c0, c1, c2, f0, f1, f2⟩ := hR.at
    clear hrel hj hc hk hg hR ho c2 f2 HR HO HI HK HC hw0
    by_cases hlt : j < s.size
    · have hw : IntKind.i64.wrap ((j : Int) + 1) = ((j + 1 : Nat) : Int) := by have := HS.out; exact IntWalk.i64_in _ (by omega)
      have HD := Lib.hid (drop_at hlt)
      have k1 : ((s[j].toNat : Int) == 34) = (s[j] == 34) := u8_eq _ 34 (by decide)
      have k2 : ((s[j].toNat : Int) == 10) = (s[j] == 10) := u8_eq _ 10 (by decide)
      have k3 : decide ((s[j].toNat : Int) < 32) = decide (s[j] < 32) := u8_lt _ 32 (by decide)
      have k4 : decide (126 < (s[j].toNat : Int)) = decide (126 < s[j]) := u8_gt _ 126 (by decide)
      have k5 : ((s[j].toNat : Int) == 92) = (s[j] == 92) := u8_eq _ 92 (by decide)
      cases t1 : (s[j] == 34)
      · rw [t1] at k1
        have n1 := Lib.hid (beq_eq_false_iff_ne.1 t1)
        cases t2 : (s[j] == 10)
        · rw [t2] at k2
          have n2 := Lib.hid (beq_eq_false_iff_ne.1 t2)
          by_cases t3 : s[j] < 32 ∨ 126 < s[j]
          · have e : C = 60 := by
              have h1 := HC2.out
              rw [HD.out, quotN_sign _ n1.out n2.out t3] at h1
              exact h1.symm
            have T3 := Lib.hid t3
            clear t3
            cases t4 : decide (s[j] < 32)
            · have t5 : decide (126 < s[j]) = true := by
                rcases T3.out with h | h
                · rw [decide_eq_true h] at t4; cases t4
                · exact decide_eq_true h
              rw [t4] at k3
              rw [t5] at k4
              clear k5
              go_wp2
              go_quiet (fail)
              go_wp2
              go_quiet (fail)
              go_wp2
              go_ret
              exact ⟨by rw [e]; rfl, ⟨j, HR2.out.drewN _, fun h => by rw [e] at h; cases h⟩, HO2.out.drewN _⟩
            · rw [t4] at k3
              clear k5 k4
              go_wp2
              go_quiet (fail)
              go_wp2
              go_quiet (fail)
              go_wp2
              go_ret
              exact ⟨by rw [e]; rfl, ⟨j, HR2.out.drewN _, fun h => by rw [e] at h; cases h⟩, HO2.out.drewN _⟩
          · have n3 := Lib.hid t3
            rw [decide_eq_false (fun h => t3 (.inl h))] at k3
            rw [decide_eq_false (fun h => t3 (.inr h))] at k4
            clear t3
            cases t5 : (s[j] == 92)
            · rw [t5] at k5
              have n5 := Lib.hid (beq_eq_false_iff_ne.1 t5)
              go_wp2
              go_quiet (fail)
              go_wp2
              go_quiet (fail)
              go_wp2
              go_roundg (s.size - (j + 1))
              case measure => have := HG.out; omega
              case rel =>
                obtain ⟨q1, q2⟩ := quotN_else (s.data.toList.drop (j + 1)) n1.out n2.out n3.out n5.out
                refine ⟨j + 1, by omega, ?_, ?_, rfl, (HR2.out.drewN _).put _, (HO2.out.drewN _).put 1 _⟩
                · rw [← q1, ← HD.out]; exact HC2.out
                · intro h
                  have h1 := HC2.out
                  rw [HD.out, q1] at h1
                  have h2 := HK2.out h
                  rw [HD.out, q2 (by omega)] at h2
                  omega
            · rw [t5] at k5
              have n5 := Lib.hid (beq_iff_eq.1 t5)
              by_cases hl2 : j + 1 < s.size
              · have HD2 := Lib.hid (drop_at hl2)
                clear hw
                have hw : IntKind.i64.wrap ((j : Int) + 1) = (j : Int) + 1 := by have := HS.out; exact IntWalk.i64_in _ (by omega)
                have hw3 : IntKind.i64.wrap ((j : Int) + 1 + 1) = (j : Int) + 1 + 1 := by have := HS.out; exact IntWalk.i64_in _ (by omega)
                have p0 : ((0 : Int) ≤ (j : Int) + 1) = True := eq_true (by omega)
                have p1 : ((j : Int) + 1).toNat = j + 1 := by omega
                have p2 : (j + 1 < s.size) = True := eq_true hl2
                have p3 : ((j : Int) + 1 < (s.size : Int)) = True := eq_true (by omega)
                have ke := escI_neg s[j + 1]
                have ll1 : decide ((j : Int) + 1 < (s.size : Int)) = true := decide_eq_true (by omega)
                have ll2 : decide ((s.size : Int) ≤ (j : Int) + 1) = false := decide_eq_false (by omega)
                have ll3 : decide (s.size ≤ j + 1) = false := decide_eq_false (by omega)
                by_cases t6 : s[j + 1] = 34 ∨ s[j + 1] = 92 ∨ s[j + 1] = 110 ∨ s[j + 1] = 116
                · rw [decide_eq_true t6] at ke
                  have T6 := Lib.hid t6
                  clear t6
                  go_wp2
                  go_quiet (fail)
                  go_wp2
                  go_quiet (fail)
                  go_wp2
                  go_quiet (fail)
                  go_wp2
                  go_quiet ((go_at_call 33; exact quiet_more (esc_any _ _)))
                  go_wp2
                  go_roundg (s.size - (j + 2))
                  case measure => have := HG.out; omega
                  case rel =>
                    have h1 := HC2.out
                    have h2 := HK2.out
                    rw [HD.out, HD2.out, n5.out, quotN_esc _ T6.out] at h1 h2
                    exact ⟨j + 1 + 1, by omega, h1, fun h => by have := h2 h; simp only at this; omega, rfl, ((HR2.out.drewN _).put _).put _, ((HO2.out.drewN _).put 1 _).put 1 _⟩
                · rw [decide_eq_false t6] at ke
                  have e : C = 5 := by
                    have h1 := HC2.out
                    rw [HD.out, HD2.out, n5.out, quotN_noesc _ t6] at h1
                    exact h1.symm
                  clear t6
                  go_wp2
                  go_quiet (fail)
                  go_wp2
                  go_quiet (fail)
                  go_wp2
                  go_quiet (fail)
                  go_wp2
                  go_quiet ((go_at_call 33; exact quiet_more (esc_any _ _)))
                  go_wp2
                  go_ret
                  exact ⟨by rw [e]; rfl, ⟨j, ((HR2.out.drewN _).drewN _).drewN _, fun h => by rw [e] at h; cases h⟩, ((HO2.out.drewN _).drewN _).drewN _⟩
              · have e : C = 61 := by
                  have h1 := HC2.out
                  rw [HD.out, drop_end (s := s) (j := j + 1) (by omega), n5.out] at h1
                  exact h1.symm
                have p2 : (j + 1 < s.size) = False := eq_false hl2
                have p3 : decide ((s.size : Int) ≤ (j : Int) + 1) = true := decide_eq_true (by omega)
                have p4 : decide (s.size ≤ j + 1) = true := decide_eq_true (by omega)
                go_wp2
                go_quiet (fail)
                go_wp2
                go_quiet (fail)
                go_wp2
                go_quiet (fail)
                go_wp2
                go_ret
                exact ⟨by rw [e]; rfl, ⟨j, (HR2.out.drewN _).drewN _, fun h => by rw [e] at h; cases h⟩, (HO2.out.drewN _).drewN _⟩
        · rw [t2] at k2
          have e : C = 61 := by
            have h1 := HC2.out
            rw [HD.out, beq_iff_eq.1 t2, quotN_nl] at h1
            exact h1.symm
          go_wp2
          go_quiet (fail)
          go_wp2
          go_quiet (fail)
          go_wp2
          go_ret
          exact ⟨by rw [e]; rfl, ⟨j, HR2.out.drewN _, fun h => by rw [e] at h; cases h⟩, HO2.out.drewN _⟩
      · rw [t1] at k1
        have e : C = 0 ∧ K = j + 1 := by
          have h1 := HC2.out
          have h2 := HK2.out
          rw [HD.out, beq_iff_eq.1 t1, quotN_end] at h1 h2
          have h1' : 0 = C := h1
          exact ⟨h1'.symm, (h2 h1'.symm).symm⟩
        go_wp2
        go_quiet (fail)
        go_wp2
        go_quiet (fail)
        go_wp2
        go_ret
        exact ⟨by rw [e.1]; rfl, ⟨j + 1, (HR2.out.drewN _).put _, fun _ => e.2.symm⟩, (HO2.out.drewN _).put 1 _⟩
    · have e : C = 61 := by
        have h1 := HC2.out
        rw [drop_end (by omega)] at h1
        exact h1.symm
      go_wp2
      go_quiet (fail)
      go_wp2
      go_ret
      exact ⟨by rw [e]; rfl, ⟨j, HR2.out.drewN _, fun h => by rw [e] at h; cases h⟩, HO2.out.drewN _⟩
end Go.Proofs.YtmikdofplolmjaaGreatDoor.LexW
