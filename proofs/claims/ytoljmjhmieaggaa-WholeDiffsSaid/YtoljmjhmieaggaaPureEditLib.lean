/- What the functions of the package edit, and the reference's, answer, as plain facts about lists; under the sizes named. -/
import Derived.Test.YtoljmjhmieaggaaEdTheory
import Derived.Test.YtoljmjhmieaggaaM41
import Derived.Test.YtoljmjhmieaggaaX19
namespace Go.Proofs.Ytoljmjhmieaggaa.Pure
open Go.RowKit Go.Proofs.Ytoljmjhmieaggaa.X Go.Proofs.YtoljmjhmieaggaaW.PrintWords Go.Proofs.YtoljmjhmieaggaaW.PrintLast Go.Proofs.Ytoljmjhmieaggaa.Ed
set_option linter.unusedVariables false
set_option linter.unusedSimpArgs false

theorem ba_ext {a b : ByteArray} (h : a.data.toList = b.data.toList) : a = b := by
  apply ByteArray.ext
  apply Array.ext'
  exact h
theorem ba_size (a : ByteArray) : a.size = a.data.toList.length := by simp
theorem ba_extract (s : ByteArray) (i j : Nat) : (s.extract i j).data.toList = (s.data.toList.drop i).take (j - i) := by
  rw [ByteArray.data_extract, Array.toList_extract, List.extract_eq_take_drop]
theorem ba_append (a b : ByteArray) : (a ++ b).data.toList = a.data.toList ++ b.data.toList := by
  rw [ByteArray.data_append, Array.toList_append]
/-- An edit of the program's as one of the theory's, and back. -/
def toE (x : S41) : E := ⟨x.f0.f0.toNat, x.f0.f1.toNat, x.f1.data.toList⟩
def ofE (x : E) : S41 := ⟨⟨x.a, x.b⟩, ⟨x.t.toArray⟩⟩
theorem ofE_toE {x : S41} (h0 : 0 ≤ x.f0.f0) (h1 : 0 ≤ x.f0.f1) : ofE (toE x) = x := by
  obtain ⟨⟨a, b⟩, t⟩ := x
  simp only [ofE, toE] at *
  rw [Int.toNat_of_nonneg h0, Int.toNat_of_nonneg h1]
theorem toE_ofE (x : E) : toE (ofE x) = x := by
  obtain ⟨a, b, t⟩ := x
  simp [ofE, toE]

theorem rd41_lt {l : List S41} {i : Nat} (h : i < l.length) : rd_T41 l (i : Int) = l[i] := by
  unfold rd_T41
  rw [Int.toNat_natCast, List.getD_eq_getElem?_getD, List.getElem?_eq_getElem h]
  rfl

/-! Check. -/
def okE (n : Int) (x : S41) : Bool := decide (0 ≤ x.f0.f0) && (decide (x.f0.f0 ≤ x.f0.f1) && (decide (x.f0.f1 ≤ n) && decide (n ≤ 65536)))
theorem okE_iff {n : Int} {x : S41} : okE n x = true ↔ 0 ≤ x.f0.f0 ∧ x.f0.f0 ≤ x.f0.f1 ∧ x.f0.f1 ≤ n ∧ n ≤ 65536 := by simp [okE]
def chk1 (n : Int) : List S41 → Int
  | [] => 0
  | x :: l => if (x.f1.size : Int) > 65536 then 2 else if okE n x = true then chk1 n l else 1
def ordH (x : S41) : List S41 → Bool
  | [] => true
  | y :: _ => decide (x.f0.f1 ≤ y.f0.f0)
def ordB : List S41 → Bool
  | [] => true
  | x :: l => ordH x l && ordB l
def chk2 (n : Int) (l all : List S41) : Int := if chk1 n l = 0 then (if ordB all = true then 0 else 7) else chk1 n l
def chkV (n : Int) (l : List S41) : Int := if (l.length : Int) > 4096 then 2 else chk2 n l l
theorem wrap_pred {i n : Nat} (h : i < n) (hn : n ≤ 9223372036854775807) : wrap64 (((i + 1 : Nat) : Int) - 1) = (i : Int) := by
  rw [wrap_id (by omega) (by omega)]
  omega
theorem ord_from (l : List S41) (hl : l.length ≤ 9223372036854775807) : ∀ (d i : Nat), l.length - i = d → i < l.length → Ev (fun k => edit_Check.l1 k l ((i + 1 : Nat) : Int)) (if ordB (l.drop i) = true then 0 else 7) := by
  intro d
  induction d with
  | zero => intro i h1 h2; omega
  | succ d ih =>
    intro i h1 h2
    refine Ev.step (fun k => by rw [edit_Check.l1]) ?_
    by_cases h : i + 1 < l.length
    · refine Ev.pos (by omega) ?_
      rw [wrap_pred h2 hl, rd41_lt h2, rd41_lt h, wrap_succ h hl, List.drop_eq_getElem_cons h2]
      refine Ev.pos (by omega) (Ev.pos (by omega) (Ev.pos (by omega) ?_))
      have e : ordB (l[i] :: l.drop (i + 1)) = (decide (l[i].f0.f1 ≤ l[i + 1].f0.f0) && ordB (l.drop (i + 1))) := by
        rw [ordB, List.drop_eq_getElem_cons h, ordH]
      rw [e]
      by_cases h3 : l[i].f0.f1 > l[i + 1].f0.f0
      · refine Ev.pos h3 (Ev.cast (Ev.now_ _) ?_)
        rw [show decide (l[i].f0.f1 ≤ l[i + 1].f0.f0) = false by simp; omega]
        rfl
      · refine Ev.neg h3 ?_
        rw [show decide (l[i].f0.f1 ≤ l[i + 1].f0.f0) = true by simp; omega, Bool.true_and]
        exact ih (i + 1) (by omega) h
    · refine Ev.neg (by omega) (Ev.cast (Ev.now_ _) ?_)
      have : i + 1 = l.length := by omega
      rw [List.drop_eq_getElem_cons h2, List.drop_eq_nil_of_le (by omega)]
      rfl
theorem ord_all (l : List S41) (hl : l.length ≤ 9223372036854775807) : Ev (fun k => edit_Check.l1 k l 1) (if ordB l = true then 0 else 7) := by
  rcases Nat.eq_zero_or_pos l.length with h | h
  · obtain rfl := List.eq_nil_of_length_eq_zero h
    refine Ev.step (fun k => by rw [edit_Check.l1]) ?_
    exact Ev.neg (by simp) (Ev.now_ _)
  · have := ord_from l hl _ 0 rfl h
    simpa using this
theorem chk_from (n : Int) (all l : List S41) (ha : all.length ≤ 9223372036854775807) (hl : l.length ≤ 9223372036854775807) : ∀ (d i : Nat), l.length - i = d → i ≤ l.length → Ev (fun k => edit_Check.l0 k n all l (l.length : Int) (i : Int)) (chk2 n (l.drop i) all) := by
  intro d
  induction d with
  | zero =>
    intro i h1 h2
    refine Ev.step (fun k => by rw [edit_Check.l0]) (Ev.neg (by omega) ?_)
    rw [List.drop_eq_nil_of_le (by omega)]
    exact ord_all all ha
  | succ d ih =>
    intro i h1 h2
    have hi : i < l.length := by omega
    refine Ev.step (fun k => by rw [edit_Check.l0]) (Ev.pos (by omega) (Ev.pos (by omega) (Ev.pos (by omega) ?_)))
    rw [rd41_lt hi, wrap_succ hi hl, List.drop_eq_getElem_cons hi]
    by_cases h3 : (l[i].f1.size : Int) > 65536
    · refine Ev.pos h3 (Ev.cast (Ev.now_ _) ?_)
      rw [chk2, chk1, if_pos h3, if_neg (by decide)]
    · refine Ev.neg h3 (Ev.bind (Ev.eq (check_any _ _ _)) ?_)
      by_cases h4 : okE n l[i] = true
      · have h4' := okE_iff.1 h4
        refine Ev.pos (by rw [if_pos ⟨h4'.1, h4'.2.1, h4'.2.2.1, h4'.2.2.2⟩]) ?_
        rw [show chk2 n (l[i] :: l.drop (i + 1)) all = chk2 n (l.drop (i + 1)) all by rw [chk2, chk2, chk1, if_neg h3, if_pos h4]]
        exact ih (i + 1) (by omega) (by omega)
      · have h4' : ¬ (0 ≤ l[i].f0.f0 ∧ l[i].f0.f0 ≤ l[i].f0.f1 ∧ l[i].f0.f1 ≤ n ∧ n ≤ 65536) := fun h => h4 (okE_iff.2 h)
        refine Ev.neg (by rw [if_neg h4']; decide) (Ev.cast (Ev.now_ _) ?_)
        rw [if_neg h4', chk2, chk1, if_neg h3, if_neg h4, if_neg (by decide)]
theorem edit_check_any (n : Int) (l : List S41) (hl : l.length ≤ 9223372036854775807) : Ev (fun k => edit_Check.f k n l) (chkV n l) := by
  unfold edit_Check.f chkV
  by_cases h : (l.length : Int) > 4096
  · rw [if_pos h]
    exact Ev.pos h (Ev.now_ _)
  · rw [show (if (l.length : Int) > 4096 then 2 else chk2 n l l) = chk2 n l l from if_neg h]
    refine Ev.neg h ?_
    have := chk_from n l l hl hl _ 0 rfl (by omega)
    simpa using this
/-! What a check that passed says. -/
theorem chk1_all {n : Int} : ∀ {l : List S41}, chk1 n l = 0 → ∀ x ∈ l, okE n x = true ∧ (x.f1.size : Int) ≤ 65536
  | [], _, x, hx => by simp at hx
  | y :: l, h, x, hx => by
    rw [chk1] at h
    by_cases h3 : (y.f1.size : Int) > 65536
    · rw [if_pos h3] at h; exact absurd h (by decide)
    · rw [if_neg h3] at h
      by_cases h4 : okE n y = true
      · rw [if_pos h4] at h
        rcases List.mem_cons.1 hx with rfl | hx
        · exact ⟨h4, by omega⟩
        · exact chk1_all h x hx
      · rw [if_neg h4] at h; exact absurd h (by decide)
theorem chk_pass {n : Int} {l : List S41} (h : chkV n l = 0) : l.length ≤ 4096 ∧ chk1 n l = 0 ∧ ordB l = true := by
  unfold chkV at h
  by_cases h1 : (l.length : Int) > 4096
  · rw [if_pos h1] at h; exact absurd h (by decide)
  · rw [if_neg h1, chk2] at h
    by_cases h2 : chk1 n l = 0
    · rw [if_pos h2] at h
      by_cases h3 : ordB l = true
      · exact ⟨by omega, h2, h3⟩
      · rw [if_neg h3] at h; exact absurd h (by decide)
    · rw [if_neg h2] at h; exact absurd h h2
theorem val_of {n : Nat} : ∀ {l : List S41} {at_ : Nat}, at_ ≤ n → (∀ x ∈ l, okE (n : Int) x = true) → ordB l = true → (∀ x, l.head? = some x → (at_ : Int) ≤ x.f0.f0) → Val n at_ (l.map toE)
  | [], at_, h, _, _, _ => h
  | x :: l, at_, h, hall, hord, hat => by
    have h1 := okE_iff.1 (hall x List.mem_cons_self)
    have h2 := hat x rfl
    rw [ordB, Bool.and_eq_true] at hord
    refine ⟨?_, ?_, ?_, ?_⟩
    · simp only [toE]; omega
    · simp only [toE]; omega
    · simp only [toE]; omega
    · refine val_of (by simp only [toE]; omega) (fun y hy => hall y (List.mem_cons_of_mem _ hy)) hord.2 (fun y hy => ?_)
      cases l with
      | nil => simp at hy
      | cons z l =>
        simp at hy
        subst hy
        have h3 := of_decide_eq_true hord.1
        simp only [toE]
        omega
theorem val_pass {n : Nat} {l : List S41} (h : chkV (n : Int) l = 0) : Val n 0 (l.map toE) := by
  obtain ⟨h1, h2, h3⟩ := chk_pass h
  exact val_of (Nat.zero_le _) (fun x hx => (chk1_all h2 x hx).1) h3 (fun x hx => by
    have hm : x ∈ l := by cases l with | nil => simp at hx | cons y l => simp at hx; subst hx; exact List.mem_cons_self
    exact (okE_iff.1 (chk1_all h2 x hm).1).1)
end Go.Proofs.Ytoljmjhmieaggaa.Pure
