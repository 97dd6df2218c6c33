/- What the functions of types answer, each by the one Bool that tells when a type may be; any types whose texts are not too long. -/
import Derived.Test.YtljchkghnmnpgaaPureKindLib
import Derived.Test.YtljchkghnmnpgaaX10
import Derived.Test.YtljchkghnmnpgaaX11
import Derived.Test.YtljchkghnmnpgaaX13
import Derived.Test.YtljchkghnmnpgaaX14
import Derived.Test.YtljchkghnmnpgaaX17
import Derived.Test.YtljchkghnmnpgaaX21
import Derived.Test.YtljchkghnmnpgaaX33
namespace Go.Proofs.Ytljchkghnmnpgaa.Pure
open Go.RowKit Go.Proofs.Ytljchkghnmnpgaa.X Go.Proofs.YtljchkghnmnpgaaW.PrintWords Go.Proofs.YtljchkghnmnpgaaW.PrintLast

/-! what is told of a type that may be -/
theorem T_at {b : Int} {nm : ByteArray} {d : Int} {m : ByteArray} : T b nm d m = true ↔ headOk b nm d = true ∧ (m.size : Int) = d + 1 ∧ ∀ j : Nat, j < m.size → okMark b d j (bt m (j : Int)) = true := by
  rw [T, Bool.and_eq_true, Bool.and_eq_true, decide_eq_true_iff, goodFrom_iff]
  constructor
  · exact fun h => ⟨h.1, h.2.1, fun j hj => h.2.2 j (Nat.zero_le _) (by omega)⟩
  · exact fun h => ⟨h.1, h.2.1, fun j _ hj => h.2.2 j (by omega)⟩
theorem head_at {b : Int} {nm : ByteArray} {d : Int} (h : headOk b nm d = true) : 0 ≤ d ∧ d ≤ 4 ∧ 1 ≤ b ∧ b ≤ 6 ∧ ((b == 5) = (nm.toList != ([] : List UInt8))) ∧ (b ≠ 6 ∨ d ≤ 0) := by
  simp only [headOk, Bool.and_eq_true, decide_eq_true_iff, beq_iff_eq, Bool.or_eq_true, bne_iff_ne] at h
  exact ⟨h.1, h.2.1, h.2.2.1, h.2.2.2.1, h.2.2.2.2.1, h.2.2.2.2.2⟩
theorem toList_inj {s t : ByteArray} (h : s.toList = t.toList) : s = t := by
  rw [Lib.toList_data, Lib.toList_data] at h
  exact ByteArray.ext (Array.toList_inj.1 h)
theorem null_at {b : Int} {nm : ByteArray} {d : Int} {m : ByteArray} (h : isNull b nm d m = true) : b = 7 ∧ nm.toList = [] ∧ d = 0 ∧ m.toList = [63] := by
  simpa only [isNull, Bool.and_eq_true, beq_iff_eq] using h
theorem none_at {b : Int} {nm : ByteArray} {d : Int} {m : ByteArray} (h : isNone b nm d m = true) : b = 8 ∧ nm.toList = [] ∧ d = 0 ∧ m.toList = [111] := by
  simpa only [isNone, Bool.and_eq_true, beq_iff_eq] using h
theorem R_cases {b : Int} {nm : ByteArray} {d : Int} {m : ByteArray} (h : R b nm d m = true) : isNull b nm d m = true ∨ isNone b nm d m = true ∨ T b nm d m = true := by
  simpa only [R, Bool.or_eq_true] using h
theorem R_size {b : Int} {nm : ByteArray} {d : Int} {m : ByteArray} (h : R b nm d m = true) : 0 ≤ d ∧ d ≤ 4 ∧ (m.size : Int) = d + 1 := by
  rcases R_cases h with h | h | h
  · have := null_at h
    have := size_toList m
    rw [(null_at h).2.2.2] at this
    simp at this
    omega
  · have := none_at h
    have := size_toList m
    rw [(none_at h).2.2.2] at this
    simp at this
    omega
  · have h1 := T_at.1 h
    have := head_at h1.1
    omega
theorem R_T {b : Int} {nm : ByteArray} {d : Int} {m : ByteArray} (h : R b nm d m = true) (h7 : b ≠ 7) (h8 : b ≠ 8) : T b nm d m = true := by
  rcases R_cases h with h | h | h
  · exact absurd (null_at h).1 h7
  · exact absurd (none_at h).1 h8
  · exact h
theorem T_R {b : Int} {nm : ByteArray} {d : Int} {m : ByteArray} (h : T b nm d m = true) : R b nm d m = true := by simp [R, h]
theorem T_base {b : Int} {nm : ByteArray} {d : Int} {m : ByteArray} (h : T b nm d m = true) : 1 ≤ b ∧ b ≤ 6 := by
  have := head_at (T_at.1 h).1
  omega
theorem R_eq_T {b : Int} {nm : ByteArray} {d : Int} {m : ByteArray} (h7 : b ≠ 7) (h8 : b ≠ 8) : R b nm d m = T b nm d m := by
  cases h : T b nm d m with
  | true => exact T_R h
  | false =>
    cases h2 : R b nm d m with
    | false => rfl
    | true => rw [R_T h2 h7 h8] at h; cases h
theorem notT {b : Int} {nm : ByteArray} {d : Int} {m : ByteArray} (h : b = 7 ∨ b = 8) : T b nm d m = false := by
  cases h2 : T b nm d m with
  | false => rfl
  | true => have := T_base h2; omega

/-! the law's own helpers -/
def smallL (l : List S23) : Bool := l.all fun t => decide (t.f1.size ≤ 60) && decide (t.f3.size ≤ 60)
theorem small_loop (l : List S23) (hl : l.length ≤ 1000) : ∀ n i : Nat, i + n = l.length → Ev (fun k => caulkerlaw10_small.l0 k l (l.length : Int) (i : Int)) (smallL (l.drop i))
  | 0, i, h => by
    refine Ev.step (fun k => by rw [caulkerlaw10_small.l0]) (Ev.neg (by omega) (Ev.cast (Ev.now_ _) ?_))
    rw [List.drop_of_length_le (by omega)]
    rfl
  | n + 1, i, h => by
    have hw : wrap64 ((i : Int) + 1) = ((i + 1 : Nat) : Int) := wrap_succ (n := l.length) (by omega) (by omega)
    have hi : i < l.length := by omega
    have hr : rd_T23 l (i : Int) = l[i] := by simp [rd_T23, List.getD_eq_getElem?_getD, hi]
    have hd : smallL (l.drop i) = ((decide (l[i].f1.size ≤ 60) && decide (l[i].f3.size ≤ 60)) && smallL (l.drop (i + 1))) := by
      rw [List.drop_eq_getElem_cons hi]
      rfl
    refine Ev.step (fun k => by rw [caulkerlaw10_small.l0]) (Ev.pos (by omega) (Ev.pos (by omega) (Ev.pos (by omega) ?_)))
    rw [hr, hd]
    refine Ev.ite (fun h1 => Ev.cast (Ev.now_ _) ?_) (fun h1 => Ev.ite (fun h2 => Ev.cast (Ev.now_ _) ?_) (fun h2 => ?_))
    · have : decide (l[i].f1.size ≤ 60) = false := by simpa using (by omega : ¬ l[i].f1.size ≤ 60)
      simp [this]
    · have : decide (l[i].f3.size ≤ 60) = false := by simpa using (by omega : ¬ l[i].f3.size ≤ 60)
      simp [this]
    · rw [hw]
      have e1 : decide (l[i].f1.size ≤ 60) = true := by simpa using (by omega : l[i].f1.size ≤ 60)
      have e2 : decide (l[i].f3.size ≤ 60) = true := by simpa using (by omega : l[i].f3.size ≤ 60)
      rw [e1, e2]
      exact Ev.cast (small_loop l hl n (i + 1) (by omega)) (by simp)
theorem small_ev (l : List S23) (hl : l.length ≤ 1000) : Ev (fun k => caulkerlaw10_small.f k l) (smallL l) := small_loop l hl l.length 0 (by omega)
theorem small_sizes {b : Int} {nm : ByteArray} {d : Int} {m : ByteArray} {l : List S23} (h : smallL l = true) (hm : (⟨b, nm, d, m⟩ : S23) ∈ l) : nm.size ≤ 1000000 ∧ m.size ≤ 1000000 := by
  have := List.all_eq_true.1 h _ hm
  simp at this
  omega
theorem rightL_ev (b : Int) (nm : ByteArray) (d : Int) (m : ByteArray) (hm : m.size ≤ 1000000) : Ev (fun k => caulkerlaw10_right.f k b nm d m) (R b nm d m) := by
  unfold caulkerlaw10_right.f
  refine Ev.bind (ref_ev b nm d m (by omega)) (Ev.ite (fun h => Ev.cast (Ev.now_ _) (by simp [R, h])) (fun h => ?_))
  have hT : T b nm d m = false := by simpa using h
  refine Ev.ite (fun h => Ev.cast (Ev.now_ _) (by simp only [R, isNull, h, Bool.true_or])) (fun h2 => Ev.cast (Ev.now_ _) ?_)
  have h2' : isNull b nm d m = false := by simpa [isNull] using h2
  rw [R, hT, h2', Bool.or_false, Bool.false_or]
  rfl
theorem plain_ev (b : Int) (nm : ByteArray) (d : Int) (m : ByteArray) (hm : m.size ≤ 1000000) : Ev (fun k => caulkerlaw10_plain.f k b nm d m) (T b nm d m) := by
  unfold caulkerlaw10_plain.f
  exact Ev.bind (ref_ev b nm d m (by omega)) (Ev.now_ _)

/-! blanks -/
def blanks (n : Nat) : ByteArray := ⟨(Lib.repeatL [32] n).toArray⟩
theorem blanks_size (n : Nat) : (blanks n).size = n := by
  show (Lib.repeatL [32] n).toArray.size = n
  rw [List.size_toArray, Lib.repeatL_length]
  simp
theorem repeatL_at : ∀ (n i : Nat), i < n → (Lib.repeatL [32] n)[i]? = some 32
  | n + 1, 0, _ => rfl
  | n + 1, i + 1, h => by
    show ([32] ++ Lib.repeatL [32] n)[i + 1]? = some 32
    rw [List.getElem?_append_right (by simp)]
    exact repeatL_at n i (by omega)
theorem blanks_bt (n i : Nat) (h : i < n) : bt (blanks n) (i : Int) = 32 := by
  have h1 := blanks_size n
  unfold bt
  rw [dif_pos (by rw [Int.toNat_natCast, h1]; exact h)]
  have h2 : (blanks n)[i]'(by rw [h1]; exact h) = 32 := by
    show (Lib.repeatL [32] n).toArray[i]'_ = 32
    have := repeatL_at n i h
    exact (List.getElem?_eq_some_iff.1 this).2
  simp only [Int.toNat_natCast]
  rw [h2]
  rfl
theorem repeat_blanks (d : Int) (h0 : 0 ≤ d) (h4 : d ≤ 4) : strings_Repeat.f (⟨#[32]⟩ : ByteArray) (wrap64 (d + 1)) = some (blanks (d + 1).toNat) := by
  rw [wrap_id (by omega) (by omega)]
  unfold strings_Repeat.f
  have e : (⟨#[32]⟩ : ByteArray).size = 1 := rfl
  rw [if_pos ⟨by omega, by omega, by rw [e]; omega⟩]
  rfl
theorem blanks_T {b : Int} {nm : ByteArray} {d : Int} (h : headOk b nm d = true) : T b nm d (blanks (d + 1).toNat) = true := by
  have := head_at h
  refine T_at.2 ⟨h, by rw [blanks_size]; omega, fun j hj => ?_⟩
  rw [blanks_size] at hj
  rw [blanks_bt _ _ hj]
  rfl

/-! the functions -/
theorem outer_ev (b : Int) (nm : ByteArray) (d : Int) (m : ByteArray) (hn : nm.size ≤ 1000000) (hm : m.size ≤ 1000000) : Ev (fun k => kind_Outer.f k b nm d m) (if R b nm d m = true then bt m d else 32) := by
  unfold kind_Outer.f
  refine Ev.bind (right_ev b nm d m hn hm) (Ev.ite (fun h => ?_) (fun h => by rw [if_neg h]; exact Ev.now_ _))
  have := R_size h
  rw [if_pos h, show (m.size : Int) - 1 = d by omega, wrap_id (by omega) (by omega)]
  exact Ev.pos (by omega) (Ev.pos (by omega) (Ev.now_ _))
def bareM (b : Int) (nm : ByteArray) (d : Int) (m : ByteArray) : ByteArray := if T b nm d m = true then blanks (d + 1).toNat else m
theorem bare_ev (b : Int) (nm : ByteArray) (d : Int) (m : ByteArray) (hn : nm.size ≤ 1000000) (hm : m.size ≤ 1000000) : Ev (fun k => kind_Bare.f k b nm d m) (b, nm, d, bareM b nm d m) := by
  unfold kind_Bare.f bareM
  refine Ev.bind (right_ev b nm d m hn hm) (Ev.ite (fun h => ?_) (fun h => ?_))
  · refine Ev.ite (fun h7 => ?_) (fun h7 => Ev.ite (fun h8 => ?_) (fun h8 => ?_))
    · rw [notT (.inl h7)]; exact Ev.now_ _
    · rw [notT (.inr h8)]; exact Ev.now_ _
    · have := R_size h
      rw [if_pos (R_T h h7 h8)]
      exact Ev.bind (Ev.eq (repeat_blanks d (by omega) (by omega))) (Ev.now_ _)
  · rw [if_neg (fun ht => h (T_R ht))]
    exact Ev.now_ _
def A (b1 : Int) (n1 : ByteArray) (d1 : Int) (m1 : ByteArray) (b2 : Int) (n2 : ByteArray) (d2 : Int) (m2 : ByteArray) : Bool := R b1 n1 d1 m1 && (R b2 n2 d2 m2 && (b1 == b2 && (n1.toList == n2.toList && d1 == d2)))
theorem A_at {b1 : Int} {n1 : ByteArray} {d1 : Int} {m1 : ByteArray} {b2 : Int} {n2 : ByteArray} {d2 : Int} {m2 : ByteArray} : A b1 n1 d1 m1 b2 n2 d2 m2 = true ↔ R b1 n1 d1 m1 = true ∧ R b2 n2 d2 m2 = true ∧ b1 = b2 ∧ n1.toList = n2.toList ∧ d1 = d2 := by
  simp only [A, Bool.and_eq_true, beq_iff_eq]
theorem alike_ev (b1 : Int) (n1 : ByteArray) (d1 : Int) (m1 : ByteArray) (b2 : Int) (n2 : ByteArray) (d2 : Int) (m2 : ByteArray) (hn1 : n1.size ≤ 1000000) (hm1 : m1.size ≤ 1000000) (hn2 : n2.size ≤ 1000000) (hm2 : m2.size ≤ 1000000) :
    Ev (fun k => kind_Alike.f k b1 n1 d1 m1 b2 n2 d2 m2) (A b1 n1 d1 m1 b2 n2 d2 m2) := by
  unfold kind_Alike.f
  refine Ev.bind (right_ev b1 n1 d1 m1 hn1 hm1) (Ev.ite (fun h1 => ?_) (fun h1 => Ev.cast (Ev.now_ _) (by simp [A, Bool.eq_false_iff.mpr h1])))
  refine Ev.bind (right_ev b2 n2 d2 m2 hn2 hm2) (Ev.ite (fun h2 => ?_) (fun h2 => Ev.cast (Ev.now_ _) (by simp [A, Bool.eq_false_iff.mpr h2])))
  refine Ev.bind (bare_ev b1 n1 d1 m1 hn1 hm1) (Ev.bind (bare_ev b2 n2 d2 m2 hn2 hm2) (Ev.cast (Ev.now_ _) ?_))
  rw [A, h1, h2, Bool.true_and, Bool.true_and]
  rw [Bool.eq_iff_iff]
  simp only [Bool.and_eq_true, beq_iff_eq]
  constructor
  · exact fun h => ⟨h.1, h.2.1, h.2.2.1⟩
  · rintro ⟨hb, hn, hd⟩
    refine ⟨hb, hn, hd, ?_⟩
    subst hb hd
    obtain rfl := toList_inj hn
    unfold bareM
    by_cases h7 : b1 = 7
    · rw [notT (.inl h7), notT (.inl h7)]
      rcases R_cases h1 with k1 | k1 | k1
      · rcases R_cases h2 with k2 | k2 | k2
        · exact (null_at k1).2.2.2.trans (null_at k2).2.2.2.symm
        · have := (none_at k2).1; omega
        · have := T_base k2; omega
      · have := (none_at k1).1; omega
      · have := T_base k1; omega
    · by_cases h8 : b1 = 8
      · rw [notT (.inr h8), notT (.inr h8)]
        rcases R_cases h1 with k1 | k1 | k1
        · have := (null_at k1).1; omega
        · rcases R_cases h2 with k2 | k2 | k2
          · have := (null_at k2).1; omega
          · exact (none_at k1).2.2.2.trans (none_at k2).2.2.2.symm
          · have := T_base k2; omega
        · have := T_base k1; omega
      · rw [if_pos (R_T h1 h7 h8), if_pos (R_T h2 h7 h8)]
def I (b1 : Int) (n1 : ByteArray) (d1 : Int) (m1 : ByteArray) (b2 : Int) (n2 : ByteArray) (d2 : Int) (m2 : ByteArray) : Bool := A b1 n1 d1 m1 b2 n2 d2 m2 && ((m1.extract 0 d1.toNat).toList == (m2.extract 0 d2.toNat).toList)
theorem inside_ev (b1 : Int) (n1 : ByteArray) (d1 : Int) (m1 : ByteArray) (b2 : Int) (n2 : ByteArray) (d2 : Int) (m2 : ByteArray) (hn1 : n1.size ≤ 1000000) (hm1 : m1.size ≤ 1000000) (hn2 : n2.size ≤ 1000000) (hm2 : m2.size ≤ 1000000) :
    Ev (fun k => kind_Inside.f k b1 n1 d1 m1 b2 n2 d2 m2) (I b1 n1 d1 m1 b2 n2 d2 m2) := by
  unfold kind_Inside.f
  refine Ev.bind (alike_ev b1 n1 d1 m1 b2 n2 d2 m2 hn1 hm1 hn2 hm2) (Ev.ite (fun h => ?_) (fun h => Ev.cast (Ev.now_ _) (by simp [I, Bool.eq_false_iff.mpr h])))
  obtain ⟨h1, h2, _⟩ := A_at.1 h
  have s1 := R_size h1
  have s2 := R_size h2
  rw [show (m1.size : Int) - 1 = d1 by omega, show (m2.size : Int) - 1 = d2 by omega, wrap_id (i := d1) (by omega) (by omega), wrap_id (i := d2) (by omega) (by omega)]
  exact Ev.pos (by omega) (Ev.pos (by omega) (Ev.pos (by omega) (Ev.pos (by omega) (Ev.cast (Ev.now_ _) (by rw [I, h, Bool.true_and])))))
def lessFrom (m1 m2 : ByteArray) : Nat → Nat → Bool
 | 0, _ => true
 | n + 1, i => (bt m1 (i : Int) == bt m2 (i : Int) || bt m1 (i : Int) == 32) && lessFrom m1 m2 n (i + 1)
theorem lessFrom_iff (m1 m2 : ByteArray) : ∀ n i, lessFrom m1 m2 n i = true ↔ ∀ j, i ≤ j → j < i + n → bt m1 (j : Int) = bt m2 (j : Int) ∨ bt m1 (j : Int) = 32
  | 0, i => by simp only [lessFrom, true_iff]; intro j h1 h2; omega
  | n + 1, i => by
    rw [lessFrom, Bool.and_eq_true, lessFrom_iff m1 m2 n (i + 1), Bool.or_eq_true, beq_iff_eq, beq_iff_eq]
    constructor
    · intro ⟨h1, h2⟩ j hj hk
      rcases Nat.eq_or_lt_of_le hj with rfl | h
      · exact h1
      · exact h2 j h (by omega)
    · intro h
      exact ⟨h i (Nat.le_refl _) (by omega), fun j hj hk => h j (by omega) (by omega)⟩
def L (b1 : Int) (n1 : ByteArray) (d1 : Int) (m1 : ByteArray) (b2 : Int) (n2 : ByteArray) (d2 : Int) (m2 : ByteArray) : Bool := A b1 n1 d1 m1 b2 n2 d2 m2 && lessFrom m1 m2 m1.size 0
theorem less_loop (b1 : Int) (n1 : ByteArray) (d1 : Int) (m1 : ByteArray) (b2 : Int) (n2 : ByteArray) (d2 : Int) (m2 : ByteArray) (hm : m1.size ≤ 1000000) (he : m1.size = m2.size) : ∀ n i : Nat, i + n = m1.size → Ev (fun k => kind_Less.l0 k (m1.size : Int) (i : Int) b1 n1 d1 m1 b2 n2 d2 m2) (lessFrom m1 m2 n i)
  | 0, i, h => by
    refine Ev.step (fun k => by rw [kind_Less.l0]) ?_
    exact Ev.neg (by omega) (Ev.now_ _)
  | n + 1, i, h => by
    have hw : wrap64 ((i : Int) + 1) = ((i + 1 : Nat) : Int) := wrap_succ (n := m1.size) (by omega) (by omega)
    have ih := less_loop b1 n1 d1 m1 b2 n2 d2 m2 hm he n (i + 1) (by omega)
    rw [← hw] at ih
    refine Ev.step (fun k => by rw [kind_Less.l0]) (Ev.pos (by omega) (Ev.pos (by omega) (Ev.pos (by omega) (Ev.pos (by omega) ?_))))
    rw [lessFrom]
    refine Ev.ite (fun h1 => Ev.cast ih (by simp [h1])) (fun h1 => Ev.ite (fun h2 => Ev.cast ih (by simp [h2])) (fun h2 => Ev.cast (Ev.now_ _) ?_))
    have e1 : (bt m1 (i : Int) == bt m2 (i : Int)) = false := by simpa using h1
    have e2 : (bt m1 (i : Int) == 32) = false := by simpa using h2
    rw [e1, e2]
    rfl
theorem less_ev (b1 : Int) (n1 : ByteArray) (d1 : Int) (m1 : ByteArray) (b2 : Int) (n2 : ByteArray) (d2 : Int) (m2 : ByteArray) (hn1 : n1.size ≤ 1000000) (hm1 : m1.size ≤ 1000000) (hn2 : n2.size ≤ 1000000) (hm2 : m2.size ≤ 1000000) :
    Ev (fun k => kind_Less.f k b1 n1 d1 m1 b2 n2 d2 m2) (L b1 n1 d1 m1 b2 n2 d2 m2) := by
  unfold kind_Less.f
  refine Ev.bind (alike_ev b1 n1 d1 m1 b2 n2 d2 m2 hn1 hm1 hn2 hm2) (Ev.ite (fun h => ?_) (fun h => ?_))
  · obtain ⟨h1, h2, _, _, hd⟩ := A_at.1 h
    have s1 := R_size h1
    have s2 := R_size h2
    have e : ((m1.size : Int) != (m2.size : Int)) = false := by rw [bne_eq_false_iff_eq]; omega
    have l := less_loop b1 n1 d1 m1 b2 n2 d2 m2 hm1 (by omega) m1.size 0 (by omega)
    rw [show ((0 : Nat) : Int) = 0 from rfl] at l
    rw [e]
    exact Ev.step (fun k => by rw [kind_Less.j0]) (Ev.neg (by simp) (Ev.cast l (by rw [L, h, Bool.true_and])))
  · exact Ev.step (fun k => by rw [kind_Less.j0]) (Ev.pos rfl (Ev.cast (Ev.now_ _) (by simp [L, Bool.eq_false_iff.mpr h])))
end Go.Proofs.Ytljchkghnmnpgaa.Pure
