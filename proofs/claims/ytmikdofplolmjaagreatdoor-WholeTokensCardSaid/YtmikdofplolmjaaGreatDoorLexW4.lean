/- How a text's reader goes on over a sign; the library's variable that is looked at may be any whole number. -/
import Derived.Test.YtmikdofplolmjaaGreatDoorLexW3
import Derived.Shelf.Strings.Shaped
namespace Go.Proofs.YtmikdofplolmjaaGreatDoor.LexW
open Go.RowKit Go.Shelf Go.Proofs.YtmikdofplolmjaaGreatDoorW.PrintWords Go.Proofs.YtmikdofplolmjaaGreatDoor.Lx
set_option linter.unusedVariables false
set_option linter.unusedSimpArgs false
/-- The library's variable holds some whole number. -/
def GVl (w : World) : Prop := ∃ m, w.cell? ⟨3, 0, none⟩ = some (.int .i64 m)
theorem GVl.pos {w : World} (h : GVl w) : 3 < w.heap.size := by
  obtain ⟨m, hm⟩ := h
  exact World.block_lt_of_cell? w _ hm
theorem GVl.below {B : Nat} {w w' : World} (h : GVl w) (hB : 3 < B) (hb : Below B w w') : GVl w' := by
  obtain ⟨m, hm⟩ := h
  exact ⟨m, (hb.cell (p := ⟨3, 0, none⟩) hB).trans hm⟩
theorem GVl.only {g : Nat} {w w' : World} (h : GVl w) (hg : 3 < g) (ho : Only g w w') : GVl w' := h.below hg ho.below
theorem GVl.later {w w' : World} (h : GVl w) (hb : Below w.heap.size w w') : GVl w' := h.below h.pos hb
theorem GVl.drewN {w : World} (h : GVl w) (n : Nat) : GVl (w.drewN n) := h.below (show 3 < 4 by decide) (pw_below_drewN (Below.refl _ _) _)
def twosL : List UInt8 := [61, 61, 32, 33, 61, 32, 60, 61, 32, 62, 61, 32, 38, 38, 32, 124, 124, 32]
def twosC (i : Nat) : Bool := match twosL[i]?, twosL[i + 1]?, twosL[i + 2]? with
  | some c, some d, some x => !(x == 32) || c == 32 || d == 32 || twoB c d
  | _, _, _ => true
theorem twosC_all : (List.range 18).all twosC = true := by decide +kernel
theorem two_iff {c d : UInt8} (hc : c ≠ 32) (hd : d ≠ 32) : Lib.contains twosL [c, d, 32] = twoB c d := by
  rw [Bool.eq_iff_iff, contains_two]
  constructor
  · rintro ⟨i, h1, h2, h3, h4⟩
    have hall := List.all_eq_true.1 twosC_all i (List.mem_range.2 h1)
    unfold twosC at hall
    rw [h2, h3, h4] at hall
    simpa [hc, hd] using hall
  · intro h
    have : (c = 61 ∧ d = 61) ∨ (c = 33 ∧ d = 61) ∨ (c = 60 ∧ d = 61) ∨ (c = 62 ∧ d = 61) ∨ (c = 38 ∧ d = 38) ∨ (c = 124 ∧ d = 124) := by
      simpa [twoB, or_assoc] using h
    rcases this with ⟨rfl, rfl⟩ | ⟨rfl, rfl⟩ | ⟨rfl, rfl⟩ | ⟨rfl, rfl⟩ | ⟨rfl, rfl⟩ | ⟨rfl, rfl⟩
    · exact ⟨0, by decide, rfl, rfl, rfl⟩
    · exact ⟨3, by decide, rfl, rfl, rfl⟩
    · exact ⟨6, by decide, rfl, rfl, rfl⟩
    · exact ⟨9, by decide, rfl, rfl, rfl⟩
    · exact ⟨12, by decide, rfl, rfl, rfl⟩
    · exact ⟨15, by decide, rfl, rfl, rfl⟩
theorem two_contains (x : ByteArray) (b : Bool) (w : World) (hx : x.size = 3) (hb : Lib.contains twosL x.data.toList = b) (h : GVl w) :
    Calls Tryz.prog 34 #[.string ⟨#[61, 61, 32, 33, 61, 32, 60, 61, 32, 62, 61, 32, 38, 38, 32, 124, 124, 32]⟩, .string x] w fun e w' => e = .returned (.bool b) ∧ w' = w := by
  obtain ⟨m, hm⟩ := h
  refine (Any.strings_Contains Shelf.lays144 ⟨#[61, 61, 32, 33, 61, 32, 60, 61, 32, 62, 61, 32, 38, 38, 32, 124, 124, 32]⟩ x m w (by decide) hm).mono ?_
  rintro e w' ⟨rfl, rfl⟩
  exact ⟨by rw [← hb]; rfl, rfl⟩
/-- The place of a byte among the signs of one byte. -/
def oneI (c : UInt8) : Int := Lib.indexByte [123, 125, 40, 41, 91, 93, 59, 44, 46, 61, 60, 62, 43, 45, 42, 47, 37, 33, 63] c
theorem oneI_ge (c : UInt8) : decide (0 ≤ oneI c) = oneB c := by
  have h : decide (oneI c < 0) = !(oneB c) := by
    rw [Bool.eq_iff_iff, Bool.not_eq_true', decide_eq_true_iff, oneI, index_neg, oneB]
    simp only [List.contains_eq_mem, decide_eq_false_iff_not]
  by_cases h0 : oneI c < 0
  · rw [decide_eq_true h0] at h
    rw [decide_eq_false (by omega)]
    cases hb : oneB c
    · rfl
    · rw [hb] at h; cases h
  · rw [decide_eq_false h0] at h
    rw [decide_eq_true (by omega)]
    cases hb : oneB c
    · rw [hb] at h; cases h
    · rfl
theorem ones_any (c : UInt8) (w : World) : Calls Tryz.prog 33 #[.string ⟨#[123, 125, 40, 41, 91, 93, 59, 44, 46, 61, 60, 62, 43, 45, 42, 47, 37, 33, 63]⟩, .int .u8 c.toNat] w fun e w' => e = .returned (.int .i64 (oneI c)) ∧ w' = w := by
  refine (Any.strings_IndexByte Shelf.lays137 ⟨#[123, 125, 40, 41, 91, 93, 59, 44, 46, 61, 60, 62, 43, 45, 42, 47, 37, 33, 63]⟩ c.toNat w).mono ?_
  rintro e w' ⟨rfl, rfl⟩
  refine ⟨?_, rfl⟩
  rw [Int.toNat_natCast, oneI]
  simp
theorem signN_two {x : ByteArray} (h : 1 < x.size) : signN x.data.toList = if twoB x[0] x[1] then 2 else if oneB x[0] then 1 else 0 := by
  have h1 := drop_at (s := x) (j := 0) (by omega)
  have h2 := drop_at (s := x) (j := 1) h
  rw [List.drop_zero] at h1
  rw [h1, h2, signN]
theorem signN_one {x : ByteArray} (h0 : 0 < x.size) (h : ¬ 1 < x.size) : signN x.data.toList = if oneB x[0] then 1 else 0 := by
  have e : x.data.toList = [x[0]] := by
    have h1 := drop_at (s := x) (j := 0) h0
    rw [List.drop_zero, drop_end (j := 0 + 1) (by omega)] at h1
    exact h1
  rw [e, signN]
theorem two_list {x : ByteArray} (h : 1 < x.size) : (x.extract 0 2 ++ ⟨#[32]⟩).data.toList = [x[0], x[1], 32] := by
  have h1 := drop_at (s := x) (j := 0) (by omega)
  have h2 := drop_at (s := x) (j := 1) h
  rw [List.drop_zero] at h1
  have : (x.extract 0 2).data.toList = x.data.toList.take 2 := by
    simp [ByteArray.data_extract]
  rw [ByteArray.data_append, Array.toList_append, this, h1, h2]
  rfl
/-- What is so behind a sign. -/
def SignP (g : Nat) (s : ByteArray) (lv : Value) (i K : Nat) (w : World) (e : Ending) (w' : World) : Prop :=
  Only g w w' ∧ (∃ j : Nat, Rd g s j lv w' ∧ (K ≠ 0 → j = i + K)) ∧ e = .returned (.int .i64 (if K = 0 then 60 else 0))
theorem SignP.no {g : Nat} {s : ByteArray} {lv : Value} {i K : Nat} {w w' : World} (hK : K = 0) (hr : Rd g s i lv w') (ho : Only g w w') : SignP g s lv i K w (.returned (.int .i64 60)) w' :=
  ⟨ho, ⟨i, hr, fun h => absurd hK h⟩, by rw [if_pos hK]⟩
theorem SignP.yes {g : Nat} {s : ByteArray} {lv : Value} {i K j : Nat} {w w' : World} (hK : K = j) (hj : 0 < j) (hr : Rd g s ((i + j : Nat) : Int) lv w') (ho : Only g w w') : SignP g s lv i K w (.returned (.int .i64 0)) w' :=
  ⟨ho, ⟨i + j, hr, fun _ => by omega⟩, by rw [if_neg (by omega)]⟩
set_option maxHeartbeats 8000000 in
set_option maxRecDepth 100000 in
theorem sign_any (g : Nat) (s : ByteArray) (lv : Value) (i : Nat) (w : World) (hi : i < s.size) (hs : s.size ≤ 4611686018427387904) (hv : GVl w) (hR : Rd g s i lv w) :
    Calls Tryz.prog 41 #[.pointer (some ⟨g, 0, none⟩)] w (SignP g s lv i (signN (s.data.toList.drop i)) w) := by
  have HR := Lib.hid hR
  have HO := Lib.hid (Only.refl g w)
  have HS := Lib.hid hs
  have HV := Lib.hid hv
  obtain ⟨K, hK⟩ : ∃ K, signN (s.data.toList.drop i) = K := ⟨_, rfl⟩
  rw [hK]
  have HK := Lib.hid hK
  obtain ⟨c0, c1, c2, f0, f1, f2⟩ := hR.at
  clear hR hK hs hv c2 f0 f2
  have q1 : decide (i ≤ s.size) = true := decide_eq_true (by omega)
  have hw1 : IntKind.i64.wrap ((i : Int) + 1) = (i : Int) + 1 := by have := HS.out; exact IntWalk.i64_in _ (by omega)
  have hw2 : IntKind.i64.wrap ((i : Int) + 2) = (i : Int) + 2 := by have := HS.out; exact IntWalk.i64_in _ (by omega)
  have HI := Lib.hid hi
  go_enter Tryz.func41, Tryz.ntmps41
  go_wp2
  go_quiet (fail)
  generalize hx : s.extract i s.size = x
  have hxl : x.data.toList = s.data.toList.drop i := by
    rw [← hx]
    simp [ByteArray.data_extract]
    rw [List.take_of_length_le (by rw [List.length_drop, Array.length_toList]; exact Nat.le_refl _)]
  have hxs : x.size = s.size - i := by
    have h1 := congrArg List.length hxl
    rw [List.length_drop, Array.length_toList, Array.length_toList] at h1
    exact h1
  have hx0 : 0 < x.size := by omega
  rw [← hxl] at HK
  have HXS := Lib.hid hxs
  clear hx hxl hxs q1 hi
  have ho := oneI_ge x[0]
  by_cases hl2 : 1 < x.size
  · have k1 : decide ((1 : Int) < (x.size : Int)) = true := decide_eq_true (by omega)
    have k2 : (2 ≤ x.size) = True := eq_true hl2
    have k3 : decide (2 ≤ x.size) = true := decide_eq_true hl2
    have e1 : ((x[0].toNat : Int) == 32) = (x[0] == 32) := u8_eq _ 32 (by decide)
    have e2 : ((x[0].toNat : Int) != 32) = (x[0] != 32) := by rw [bne, e1]; rfl
    have e3 : ((x[1].toNat : Int) == 32) = (x[1] == 32) := u8_eq _ 32 (by decide)
    have e4 : ((x[1].toNat : Int) != 32) = (x[1] != 32) := by rw [bne, e3]; rfl
    have hsg := signN_two hl2
    have hsz : (x.extract 0 2 ++ ⟨#[32]⟩).size = 3 := by
      have := congrArg List.length (two_list hl2)
      rw [Array.length_toList] at this
      exact this
    have HSZ := Lib.hid hsz
    have HTL := Lib.hid (two_list hl2)
    rw [HK.out] at hsg
    have HSG := Lib.hid hsg
    clear e1 e3 hsg hsz
    -- is it a sign of two bytes?
    cases hb : Lib.contains twosL (x.extract 0 2 ++ ⟨#[32]⟩).data.toList
    · have HT : Hid (twoB x[0] x[1] = false) := by
        have h := hb
        rw [HTL.out] at h
        by_cases h1 : x[0] = 32
        · rw [h1]; rfl
        · by_cases h2 : x[1] = 32
          · rw [h2]; simp [Hid, twoB]
          · rw [two_iff h1 h2] at h; exact h
      have HB := Lib.hid hb
      clear hb
      cases hc : oneB x[0]
      · rw [hc] at ho
        go_wp2_with (first | (go_at_call 34; refine (two_contains _ false _ HSZ.out HB.out (HV.out.below (show 3 < 4 by decide) (pw_below_drewN (Below.refl _ _) _))).mono ?_; rintro e w' ⟨rfl, rfl⟩) | (go_at_call 33; refine (ones_any x[0] _).mono ?_; rintro e w' ⟨rfl, rfl⟩))
        go_ret
        exact SignP.no (by rw [HSG.out, HT.out, hc]; rfl) (HR.out.drewN _) (HO.out.drewN _)
      · rw [hc] at ho
        go_wp2_with (first | (go_at_call 34; refine (two_contains _ false _ HSZ.out HB.out (HV.out.below (show 3 < 4 by decide) (pw_below_drewN (Below.refl _ _) _))).mono ?_; rintro e w' ⟨rfl, rfl⟩) | (go_at_call 33; refine (ones_any x[0] _).mono ?_; rintro e w' ⟨rfl, rfl⟩))
        go_ret
        exact SignP.yes (j := 1) (by rw [HSG.out, HT.out, hc]; rfl) Nat.one_pos ((HR.out.drewN _).put _) ((HO.out.drewN _).put 1 _)
    · have HB := Lib.hid hb
      cases h0 : (x[0] != 32)
      · have HT : Hid (twoB x[0] x[1] = false) := by
          have : x[0] = 32 := by simpa using h0
          rw [this]
          simp [Hid, twoB]
        rw [h0] at e2
        clear hb h0
        cases hc : oneB x[0]
        · rw [hc] at ho
          go_wp2_with (first | (go_at_call 34; refine (two_contains _ true _ HSZ.out HB.out (HV.out.below (show 3 < 4 by decide) (pw_below_drewN (Below.refl _ _) _))).mono ?_; rintro e w' ⟨rfl, rfl⟩) | (go_at_call 33; refine (ones_any x[0] _).mono ?_; rintro e w' ⟨rfl, rfl⟩))
          go_ret
          exact SignP.no (by rw [HSG.out, HT.out, hc]; rfl) (HR.out.drewN _) (HO.out.drewN _)
        · rw [hc] at ho
          go_wp2_with (first | (go_at_call 34; refine (two_contains _ true _ HSZ.out HB.out (HV.out.below (show 3 < 4 by decide) (pw_below_drewN (Below.refl _ _) _))).mono ?_; rintro e w' ⟨rfl, rfl⟩) | (go_at_call 33; refine (ones_any x[0] _).mono ?_; rintro e w' ⟨rfl, rfl⟩))
          go_ret
          exact SignP.yes (j := 1) (by rw [HSG.out, HT.out, hc]; rfl) Nat.one_pos ((HR.out.drewN _).put _) ((HO.out.drewN _).put 1 _)
      · cases h1 : (x[1] != 32)
        · have HT : Hid (twoB x[0] x[1] = false) := by
            have : x[1] = 32 := by simpa using h1
            rw [this]
            simp [Hid, twoB]
          rw [h1] at e4
          rw [h0] at e2
          clear hb h0 h1
          cases hc : oneB x[0]
          · rw [hc] at ho
            go_wp2_with (first | (go_at_call 34; refine (two_contains _ true _ HSZ.out HB.out (HV.out.below (show 3 < 4 by decide) (pw_below_drewN (Below.refl _ _) _))).mono ?_; rintro e w' ⟨rfl, rfl⟩) | (go_at_call 33; refine (ones_any x[0] _).mono ?_; rintro e w' ⟨rfl, rfl⟩))
            go_ret
            exact SignP.no (by rw [HSG.out, HT.out, hc]; rfl) (HR.out.drewN _) (HO.out.drewN _)
          · rw [hc] at ho
            go_wp2_with (first | (go_at_call 34; refine (two_contains _ true _ HSZ.out HB.out (HV.out.below (show 3 < 4 by decide) (pw_below_drewN (Below.refl _ _) _))).mono ?_; rintro e w' ⟨rfl, rfl⟩) | (go_at_call 33; refine (ones_any x[0] _).mono ?_; rintro e w' ⟨rfl, rfl⟩))
            go_ret
            exact SignP.yes (j := 1) (by rw [HSG.out, HT.out, hc]; rfl) Nat.one_pos ((HR.out.drewN _).put _) ((HO.out.drewN _).put 1 _)
        · have HT : Hid (twoB x[0] x[1] = true) := by
            have h := hb
            rw [HTL.out, two_iff (bne_iff_ne.1 h0) (bne_iff_ne.1 h1)] at h
            exact h
          rw [h0] at e2
          rw [h1] at e4
          clear hb h0 h1
          go_wp2_with (first | (go_at_call 34; refine (two_contains _ true _ HSZ.out HB.out (HV.out.below (show 3 < 4 by decide) (pw_below_drewN (Below.refl _ _) _))).mono ?_; rintro e w' ⟨rfl, rfl⟩) | (go_at_call 33; refine (ones_any x[0] _).mono ?_; rintro e w' ⟨rfl, rfl⟩))
          go_ret
          exact SignP.yes (j := 2) (by rw [HSG.out, HT.out]; rfl) (by decide) ((HR.out.drewN _).put _) ((HO.out.drewN _).put 1 _)
  · have k1 : decide ((1 : Int) < (x.size : Int)) = false := decide_eq_false (by omega)
    have hsg := signN_one hx0 hl2
    rw [HK.out] at hsg
    have HSG := Lib.hid hsg
    clear hsg
    cases hb : oneB x[0]
    · rw [hb] at ho
      go_wp2_with ((go_at_call 33; refine (ones_any x[0] _).mono ?_; rintro e w' ⟨rfl, rfl⟩))
      go_ret
      exact SignP.no (by rw [HSG.out, hb]; rfl) (HR.out.drewN _) (HO.out.drewN _)
    · rw [hb] at ho
      go_wp2_with ((go_at_call 33; refine (ones_any x[0] _).mono ?_; rintro e w' ⟨rfl, rfl⟩))
      go_ret
      exact SignP.yes (j := 1) (by rw [HSG.out, hb]; rfl) Nat.one_pos ((HR.out.drewN _).put _) ((HO.out.drewN _).put 1 _)
end Go.Proofs.YtmikdofplolmjaaGreatDoor.LexW
