import Derived.Test.YtmikdofplolmjaaGreatDoorNumW6
import Derived.Test.YtmikdofplolmjaaGreatDoorTokF
import Derived.Test.YtmikdofplolmjaaGreatDoorLexTheory
namespace Go.Proofs.YtmikdofplolmjaaGreatDoor.Pure
open Go.RowKit Go.Proofs.YtmikdofplolmjaaGreatDoorW.PrintWords Go.Proofs.YtmikdofplolmjaaGreatDoor.NuW Go.Proofs.YtmikdofplolmjaaGreatDoor.Fl Ieee
theorem run_all {p : UInt8 → Bool} : ∀ l : List UInt8, Lx.lenN p l = l.length → ∀ c ∈ l, p c = true
  | [], _, c, hc => by cases hc
  | d :: l, h, c, hc => by
    rw [Lx.lenN, List.length_cons] at h
    by_cases hd : p d = true
    · rw [if_pos hd] at h
      rcases List.mem_cons.1 hc with e | e
      · rw [e]; exact hd
      · exact run_all l (by omega) c e
    · rw [if_neg hd] at h; omega
theorem run_first {p : UInt8 → Bool} (l : List UInt8) : ∀ c ∈ l.take (Lx.lenN p l), p c = true := by
  have h := Lx.lenN_take (p := p) l (Lx.lenN p l) (Nat.le_refl _)
  have hl := Lx.lenN_le p l
  refine run_all _ ?_
  rw [h, List.length_take]
  omega
theorem sz (s : ByteArray) : s.data.toList.length = s.size := Array.length_toList
theorem bt_list (s : ByteArray) (i : Nat) (h : i < s.size) : ∃ c, s.data.toList[i]? = some c ∧ bt s (i : Int) = ((c.toNat : Nat) : Int) := by
  refine ⟨s[i]'h, ?_, ?_⟩
  · rw [List.getElem?_eq_getElem (by rw [sz]; exact h), Array.getElem_toList]; rfl
  · unfold bt
    rw [dif_pos (by rw [Int.toNat_natCast]; exact h)]
    simp only [Int.toNat_natCast]
theorem dig_nat {c : UInt8} (h : Lx.digB c = true) : 48 ≤ c.toNat ∧ c.toNat ≤ 57 := by
  unfold Lx.digB at h
  rw [Bool.and_eq_true, decide_eq_true_iff, decide_eq_true_iff] at h
  exact ⟨UInt8.le_iff_toNat_le.1 h.1, UInt8.le_iff_toNat_le.1 h.2⟩
theorem digs_of (s : ByteArray) (h : ∀ c ∈ s.data.toList, Lx.digB c = true) (h0 : s.size ≠ 0) : digB s = true := by
  unfold digB
  rw [Bool.and_eq_true]
  refine ⟨bne_iff_ne.2 h0, List.all_eq_true.2 fun i hi => ?_⟩
  obtain ⟨c, h1, h2⟩ := bt_list s i (List.mem_range.1 hi)
  rw [h2]
  have h3 := dig_nat (h c (List.mem_of_getElem? h1))
  exact isD_iff.2 ⟨by omega, by omega⟩
theorem frac_two {l : List UInt8} (h : (Lx.fracN l).1 = 2) : (Lx.fracN l).2 = 0 := by
  unfold Lx.fracN at h ⊢
  split
  · split
    · rename_i hc; dsimp only at h; rw [if_pos hc] at h; cases h
    · rfl
  · rfl
theorem frac_three {l : List UInt8} (h : (Lx.fracN l).1 = 3) : ∃ d r, l = 46 :: d :: r ∧ Lx.digB d = true ∧ (Lx.fracN l).2 = Lx.lenN Lx.digB (d :: r) + 1 := by
  unfold Lx.fracN at h
  split at h
  · split at h
    · rename_i c d r hc
      obtain ⟨rfl, hd⟩ := hc
      exact ⟨d, r, rfl, hd, by rw [Lx.fracN, if_pos ⟨rfl, hd⟩]⟩
    · cases h
  · cases h
theorem one_num {M : List UInt8} {k len : Nat} (h : Lx.oneN M = (k, len, 0)) (hk : k = 2 ∨ k = 3) : 1 ≤ Lx.lenN Lx.digB M ∧ (Lx.fracN (M.drop (Lx.lenN Lx.digB M))).1 = k ∧ Lx.lenN Lx.digB M + (Lx.fracN (M.drop (Lx.lenN Lx.digB M))).2 = len ∧ len ≤ 20 := by
  cases M with
  | nil => rw [Lx.oneN] at h; injection h with h1 h2; injection h2 with h2 h3; cases h3
  | cons c l =>
    rw [Lx.oneN] at h
    split at h
    · split at h
      · injection h with h1 h2; injection h2 with h2 h3; cases h3
      · injection h with h1 h2; omega
    · split at h
      · rename_i hd
        split at h
        · injection h with h1 h2; injection h2 with h2 h3; cases h3
        · injection h with h1 h2
          injection h2 with h2 h3
          refine ⟨?_, h1, h2, by omega⟩
          rw [Lx.lenN, if_pos hd]; omega
      · split at h
        · split at h
          · split at h
            · injection h with h1 h2; injection h2 with h2 h3; cases h3
            · injection h with h1 h2; omega
          · injection h with h1 h2; omega
        · split at h
          · injection h with h1 h2; injection h2 with h2 h3; cases h3
          · injection h with h1 h2; omega
/-- A number that is cut is a whole number, or too great for one, or begins with a nought. -/
theorem int_token (m : ByteArray) (h : Lx.oneN m.data.toList = (2, m.size, 0)) : 0 ≤ (intV m).1 ∧ ((intV m).2 = 0 ∨ (intV m).2 = 1 ∨ ((intV m).2 = 5 ∧ bt m 0 = 48 ∧ 1 < m.size)) := by
  obtain ⟨h1, h2, h3, h4⟩ := one_num h (.inl rfl)
  rw [frac_two h2] at h3
  have hd := digs_of m (run_all _ (by rw [sz]; omega)) (by omega)
  unfold intV
  rw [hd]
  cases hl : (decide (1 < m.size) && (bt m 0 == 48)) with
  | true =>
    rw [Bool.and_eq_true, decide_eq_true_iff, beq_iff_eq] at hl
    rw [if_neg (by decide)]
    exact ⟨Int.le_refl _, .inr (.inr ⟨rfl, hl.2, hl.1⟩)⟩
  | false =>
    rw [if_pos (by decide)]
    by_cases hv : valF 0 m.data.toList < 9223372036854775808
    · rw [if_pos hv]; exact ⟨Int.natCast_nonneg _, .inl rfl⟩
    · rw [if_neg hv]; exact ⟨Int.le_refl _, .inr (.inl rfl)⟩
theorem near_pos (m : Nat) (e : Int) : double.nearest false m e ≤ 9218868437227405312 := by
  unfold Format.nearest
  split
  · rw [word_wd]; unfold wd; rw [if_neg (by decide)]; exact Nat.zero_le _
  · dsimp only
    rw [word_wd, c_inf]
    unfold wd
    rw [if_neg (by decide)]
    exact Nat.min_le_right _ _
theorem small_pos {a : Nat} (h : a ≤ 9218868437227405312) : sgn a = false ∧ isN a = false := by
  constructor
  · rw [← sgn_dec a (by omega)]; exact decide_eq_false (by omega)
  · unfold isN rung; exact decide_eq_false (by omega)
theorem read_pos {a : Nat} (h : a ≤ 9218868437227405312) : (∃ m i, double.read a = .number false m i) ∨ double.read a = .infinity false := by
  obtain ⟨hs, _⟩ := small_pos h
  have hr : rung a ≤ 9218868437227405312 := by unfold rung; omega
  rw [read_eq, hs]
  split
  · exact .inl ⟨_, _, rfl⟩
  · split
    · exact .inl ⟨_, _, rfl⟩
    · rw [if_pos (by omega)]; exact .inr rfl
theorem pw_read {k : Nat} (hk : k < 23) : ∃ n j, n ≠ 0 ∧ double.read (pw k) = .number false n j := by
  have : ∀ k : Fin 23, (match double.read (pw k) with | .number false n _ => n != 0 | _ => false) = true := by decide +kernel
  have h := this ⟨k, hk⟩
  dsimp only at h
  split at h
  · rename_i n j e
    exact ⟨n, j, by simpa using h, e⟩
  · cases h
theorem quo_pos {x k : Nat} (hx : x ≤ 9218868437227405312) (hk : k < 23) : fop .quo x (pw k) ≤ 9218868437227405312 := by
  have e0 : fop .quo x (pw k) = (((double.read x).quotient (double.fractionBits + 2) (double.read (pw k))).map double.write).getD nanB := rfl
  rw [e0]
  obtain ⟨n, j, hn, e⟩ := pw_read hk
  rw [e]
  rcases read_pos hx with ⟨m, i, hr⟩ | hr
  · rw [hr]
    simp only [Datum.quotient]
    rw [if_neg hn, Option.map_some, Option.getD_some]
    exact near_pos _ _
  · rw [hr]
    have e2 : (Datum.infinity false).quotient (double.fractionBits + 2) (.number false n j) = some (.infinity false) := rfl
    rw [e2, Option.map_some, Option.getD_some]
    have e3 : double.write (.infinity false) = double.word false double.infRung := rfl
    rw [e3, word_wd, c_inf]
    unfold wd
    rw [if_neg (by decide)]
    exact Nat.le_refl _
theorem ext_list (s : ByteArray) (i j : Nat) : (s.extract i j).data.toList = (s.data.toList.drop i).take (j - i) := by simp [ByteArray.data_extract]
/-- A double that is cut is one, or too long for one, or begins with a nought; it isn't less than nought. -/
theorem float_token (m : ByteArray) (h : Lx.oneN m.data.toList = (3, m.size, 0)) : (flV m).1 ≤ 9218868437227405312 ∧ ((flV m).2 = 0 ∨ (flV m).2 = 2 ∨ ((flV m).2 = 5 ∧ bt m 0 = 48)) := by
  obtain ⟨h1, h2, h3, h4⟩ := one_num h (.inr rfl)
  obtain ⟨d, r, e1, e2, e3⟩ := frac_three h2
  rw [e3] at h3
  have hf := run_first (p := Lx.digB) m.data.toList
  obtain ⟨a, ha⟩ : ∃ a, Lx.lenN Lx.digB m.data.toList = a := ⟨_, rfl⟩
  rw [ha] at h1 e1 h3 hf
  have hlen := congrArg List.length e1
  rw [List.length_drop, sz, List.length_cons] at hlen
  have hr := run_all (p := Lx.digB) (d :: r) (by omega)
  have hdot : m.data.toList[a]? = some 46 := by
    have := congrArg (·[0]?) e1
    simpa using this
  have hsz : a + 1 + (d :: r).length = m.size := by omega
  have hpos : 1 ≤ (d :: r).length := by rw [List.length_cons]; omega
  have hdrop : m.data.toList.drop (a + 1) = d :: r := by
    have := congrArg (List.drop 1) e1
    rw [List.drop_drop] at this
    simpa using this
  have bdot : bt m (a : Int) = 46 := by
    obtain ⟨c, c1, c2⟩ := bt_list m a (by omega)
    rw [hdot] at c1
    injection c1 with c1
    rw [c2, ← c1]; rfl
  have bdig : ∀ j : Nat, j < a → bt m (j : Int) ≠ 46 := by
    intro j hj
    obtain ⟨c, c1, c2⟩ := bt_list m j (by omega)
    have hmem : c ∈ m.data.toList.take a := by
      apply List.mem_of_getElem? (i := j)
      rw [List.getElem?_take, if_pos hj, c1]
    have := dig_nat (hf c hmem)
    rw [c2]; omega
  have hd := dot_some (s := m) (i := a) (by omega) bdot bdig
  have sA : (m.extract 0 a).data.toList = m.data.toList.take a := by rw [ext_list, List.drop_zero, Nat.sub_zero]
  have sB : (m.extract (a + 1) m.size).data.toList = d :: r := by
    rw [ext_list, hdrop, List.take_of_length_le (by omega)]
  have zA : (m.extract 0 a).size = a := by rw [extr_size]; omega
  have zB : (m.extract (a + 1) m.size).size ≠ 0 := by rw [extr_size]; omega
  have dA := digs_of (m.extract 0 a) (by rw [sA]; exact hf) (by omega)
  have dB := digs_of (m.extract (a + 1) m.size) (by rw [sB]; exact hr) zB
  cases hl : (decide (1 < a) && (bt m 0 == 48)) with
  | true =>
    have e : flV m = (0, 5) := by
      unfold flV
      rw [hd]
      dsimp only
      rw [dA, dB, hl]
      rfl
    rw [Bool.and_eq_true, decide_eq_true_iff, beq_iff_eq] at hl
    rw [e]
    exact ⟨Nat.zero_le _, .inr (.inr ⟨rfl, hl.2⟩)⟩
  | false =>
    by_cases hs : 15 < m.size - 1
    · rw [flV_long hd dA dB hl hs]
      exact ⟨Nat.zero_le _, .inr (.inl rfl)⟩
    · rw [flV_ok hd dA dB hl hs]
      refine ⟨?_, .inl rfl⟩
      have e0 : ∀ n : Nat, floatOfInt .f64 (n : Int) ≤ 9218868437227405312 := by
        intro n
        have e1 : floatOfInt .f64 (n : Int) = double.nearest (decide ((n : Int) < 0)) (n : Int).natAbs 0 := rfl
        rw [e1, decide_eq_false (by omega)]
        exact near_pos _ _
      dsimp only
      unfold fdV
      exact quo_pos (e0 _) (by omega)
end Go.Proofs.YtmikdofplolmjaaGreatDoor.Pure
