/- What edit.Apply, edit.Invert, edit.Cost and the reference's Apply answer, as plain facts about lists; under the sizes named. -/
import Derived.Test.YtoljmjhmieaggaaPureEditLib
import Derived.Test.YtoljmjhmieaggaaX37
import Derived.Test.YtoljmjhmieaggaaX22
import Derived.Test.YtoljmjhmieaggaaX23
import Derived.Test.YtoljmjhmieaggaaM13
section
namespace Go.Proofs.Ytoljmjhmieaggaa.Pure
open Go.RowKit Go.Proofs.Ytoljmjhmieaggaa.X Go.Proofs.YtoljmjhmieaggaaW.PrintWords Go.Proofs.YtoljmjhmieaggaaW.PrintLast Go.Proofs.Ytoljmjhmieaggaa.Ed
set_option linter.unusedVariables false
set_option linter.unusedSimpArgs false

/-- All that a check lets by. -/
structure Pass (n : Nat) (l : List S41) : Prop where
  len : l.length ≤ 4096
  ok : ∀ x ∈ l, 0 ≤ x.f0.f0 ∧ x.f0.f0 ≤ x.f0.f1 ∧ x.f0.f1 ≤ n ∧ (n : Int) ≤ 65536 ∧ x.f1.size ≤ 65536
  val : Val n 0 (l.map toE)
theorem pass_of {n : Nat} {l : List S41} (h : chkV (n : Int) l = 0) : Pass n l := by
  obtain ⟨h1, h2, h3⟩ := chk_pass h
  refine ⟨h1, fun x hx => ?_, val_pass h⟩
  have h4 := chk1_all h2 x hx
  have h5 := okE_iff.1 h4.1
  exact ⟨h5.1, h5.2.1, h5.2.2.1, h5.2.2.2, by omega⟩
theorem lenS_ok {f t : Int} (h0 : 0 ≤ f) (h1 : f ≤ t) (h2 : t ≤ 65536) : lenS f t = t - f := by
  unfold lenS
  exact if_pos (okS_iff.2 ⟨h0, h1, h2⟩)
def growI : List S41 → Int
  | [] => 0
  | x :: l => ((x.f1.size : Int) - (x.f0.f1 - x.f0.f0)) + growI l
theorem toE_len {x : S41} : (toE x).t.length = x.f1.size := by simp [toE]
theorem growI_eq {n : Nat} : ∀ {l : List S41}, (∀ x ∈ l, 0 ≤ x.f0.f0 ∧ x.f0.f0 ≤ x.f0.f1 ∧ x.f0.f1 ≤ n ∧ (n : Int) ≤ 65536 ∧ x.f1.size ≤ 65536) → growI l = (puts (l.map toE) : Int) - (takes (l.map toE) : Int)
  | [], _ => by simp [growI, puts, takes]
  | x :: l, h => by
    have ih := growI_eq (l := l) (fun y hy => h y (List.mem_cons_of_mem _ hy))
    have hx := h x List.mem_cons_self
    rw [growI, ih, List.map_cons, puts, takes, toE_len]
    simp only [toE]
    omega
theorem puts_le {n : Nat} : ∀ {l : List S41}, (∀ x ∈ l, 0 ≤ x.f0.f0 ∧ x.f0.f0 ≤ x.f0.f1 ∧ x.f0.f1 ≤ n ∧ (n : Int) ≤ 65536 ∧ x.f1.size ≤ 65536) → puts (l.map toE) ≤ 65536 * l.length
  | [], _ => by simp [puts]
  | x :: l, h => by
    have ih := puts_le (l := l) (fun y hy => h y (List.mem_cons_of_mem _ hy))
    have hx := h x List.mem_cons_self
    rw [List.map_cons, puts, toE_len, List.length_cons]
    omega
theorem takes_le {n : Nat} : ∀ {l : List S41}, (∀ x ∈ l, 0 ≤ x.f0.f0 ∧ x.f0.f0 ≤ x.f0.f1 ∧ x.f0.f1 ≤ n ∧ (n : Int) ≤ 65536 ∧ x.f1.size ≤ 65536) → takes (l.map toE) ≤ 65536 * l.length
  | [], _ => by simp [takes]
  | x :: l, h => by
    have ih := takes_le (l := l) (fun y hy => h y (List.mem_cons_of_mem _ hy))
    have hx := h x List.mem_cons_self
    rw [List.map_cons, takes, List.length_cons]
    simp only [toE]
    omega
theorem grown_from {n : Nat} (l : List S41) (hl : l.length ≤ 4096) (hall : ∀ x ∈ l, 0 ≤ x.f0.f0 ∧ x.f0.f0 ≤ x.f0.f1 ∧ x.f0.f1 ≤ n ∧ (n : Int) ≤ 65536 ∧ x.f1.size ≤ 65536) : ∀ (d i : Nat) (x0 : Int), l.length - i = d → i ≤ l.length → -(65536 * ((i : Int) + 1)) ≤ x0 → x0 ≤ 65536 * ((i : Int) + 1) →
    Ev (fun k => edit_grown.l0 k x0 l (l.length : Int) (i : Int)) (x0 + growI (l.drop i)) := by
  intro d
  induction d with
  | zero =>
    intro i x0 h1 h2 h3 h4
    refine Ev.step (fun k => by rw [edit_grown.l0]) (Ev.neg (by omega) (Ev.cast (Ev.now_ _) ?_))
    rw [List.drop_eq_nil_of_le (by omega)]
    simp [growI]
  | succ d ih =>
    intro i x0 h1 h2 h3 h4
    have hi : i < l.length := by omega
    have hx := hall l[i] (List.getElem_mem hi)
    refine Ev.step (fun k => by rw [edit_grown.l0]) (Ev.pos (by omega) (Ev.pos (by omega) (Ev.pos (by omega) ?_)))
    rw [rd41_lt hi, wrap_succ hi (by omega), List.drop_eq_getElem_cons hi, growI]
    refine Ev.bind (len_any _ _) ?_
    rw [lenS_ok hx.1 hx.2.1 (by omega), wrap_id (i := (l[i].f1.size : Int) - (l[i].f0.f1 - l[i].f0.f0)) (by omega) (by omega), wrap_id (by omega) (by omega)]
    exact Ev.cast (ih (i + 1) _ (by omega) (by omega) (by omega) (by omega)) (by omega)
theorem val_at {n : Nat} : ∀ {l : List S41} {at_ : Nat} {i : Nat} (hi : i < l.length), Val n at_ (l.map toE) → Val n (toE l[i]).b ((l.drop (i + 1)).map toE)
  | x :: l, at_, 0, hi, h => h.2.2.2
  | x :: l, at_, i + 1, hi, h => by
    have := val_at (i := i) (by simpa using hi) h.2.2.2
    simpa using this
theorem toArray_data (a : ByteArray) : (⟨a.data.toList.toArray⟩ : ByteArray) = a := by
  apply ba_ext
  simp
theorem app_from (s : ByteArray) (l : List S41) (hall : ∀ x ∈ l, 0 ≤ x.f0.f0 ∧ x.f0.f0 ≤ x.f0.f1) : ∀ (d i : Nat) (at_ : Nat) (bs : List UInt8), l.length - i = d → i ≤ l.length → Val s.size at_ ((l.drop i).map toE) → bs.length + (s.size - at_) + puts ((l.drop i).map toE) ≤ 140737488355328 →
    Ev (fun k => edit_Apply.l0 k s l (i : Int) (at_ : Int) bs) (⟨(bs ++ app s.data.toList at_ ((l.drop i).map toE)).toArray⟩, 0) := by
  intro d
  induction d with
  | zero =>
    intro i at_ bs h1 h2 h3 h4
    refine Ev.step (fun k => by rw [edit_Apply.l0]) (Ev.neg (by omega) ?_)
    have e : (l.drop i).map toE = [] := by rw [List.drop_eq_nil_of_le (by omega)]; rfl
    rw [e] at h3 h4 ⊢
    have h5 : at_ ≤ s.size := h3
    refine Ev.pos (by omega) (Ev.pos (by omega) (Ev.pos (by rw [ByteArray.size_extract]; simp only [puts] at h4; omega) (Ev.cast (Ev.now_ _) ?_)))
    rw [ba_extract, app, Int.toNat_natCast, List.take_of_length_le (by rw [List.length_drop, ← ba_size]; exact Nat.le_refl _)]
  | succ d ih =>
    intro i at_ bs h1 h2 h3 h4
    have hi : i < l.length := by omega
    have hx := hall l[i] (List.getElem_mem hi)
    rw [List.drop_eq_getElem_cons hi, List.map_cons] at h3 h4 ⊢
    obtain ⟨v1, v2, v3, v4⟩ := h3
    have ea : (toE l[i]).a = l[i].f0.f0.toNat := rfl
    have eb : (toE l[i]).b = l[i].f0.f1.toNat := rfl
    rw [puts, toE_len] at h4
    refine Ev.step (fun k => by rw [edit_Apply.l0]) (Ev.pos (by omega) ?_)
    rw [rd41_lt hi]
    refine Ev.pos (by omega) (Ev.pos (by omega) (Ev.pos (by omega) (Ev.pos (by rw [ByteArray.size_extract]; omega) ?_)))
    have e1 : l[i].f0.f1 = ((l[i].f0.f1.toNat : Nat) : Int) := by omega
    rw [show (i : Int) + 1 = ((i + 1 : Nat) : Int) by omega, e1]
    refine Ev.cast (ih (i + 1) _ _ (by omega) (by omega) v4 ?_) ?_
    · rw [List.length_append, List.length_append, ba_extract, List.length_take, List.length_drop, ← ba_size, ← ba_size]
      omega
    · congr 1
      rw [app, ba_extract, Int.toNat_natCast]
      simp [toE, List.append_assoc]
/-- What Apply answers. -/
def applyV (s : ByteArray) (l : List S41) : ByteArray × Int :=
  if (s.size : Int) > 65536 then (⟨#[]⟩, 2) else if chkV (s.size : Int) l = 0 then (if (s.size : Int) + growI l > 65536 then (⟨#[]⟩, 2) else (⟨(app s.data.toList 0 (l.map toE)).toArray⟩, 0)) else (⟨#[]⟩, chkV (s.size : Int) l)
theorem grown_any {n : Nat} {l : List S41} (hP : Pass n l) (hn : n ≤ 65536) : Ev (fun k => edit_grown.f k (n : Int) l) ((n : Int) + growI l) := by
  have := grown_from l hP.len hP.ok _ 0 (n : Int) rfl (by omega) (by omega) (by omega)
  simpa [edit_grown.f] using this
theorem apply_any (s : ByteArray) (l : List S41) (hl : l.length ≤ 9223372036854775807) : Ev (fun k => edit_Apply.f k s l) (applyV s l) := by
  unfold edit_Apply.f applyV
  by_cases h1 : (s.size : Int) > 65536
  · rw [if_pos h1]
    exact Ev.pos h1 (Ev.now_ _)
  · rw [if_neg h1]
    refine Ev.neg h1 (Ev.bind (edit_check_any _ _ hl) ?_)
    by_cases h2 : chkV (s.size : Int) l = 0
    · have hP := pass_of h2
      rw [if_pos h2]
      refine Ev.pos h2 (Ev.bind (grown_any hP (by omega)) ?_)
      by_cases h3 : (s.size : Int) + growI l > 65536
      · rw [if_pos h3]
        exact Ev.pos h3 (Ev.now_ _)
      · rw [if_neg h3]
        refine Ev.neg h3 ?_
        have hpu := puts_le hP.ok
        have hll := hP.len
        have := app_from s l (fun x hx => ⟨(hP.ok x hx).1, (hP.ok x hx).2.1⟩) _ 0 0 [] rfl (by omega) (by simpa using hP.val) (by simp; omega)
        simpa using this
    · rw [if_neg h2]
      exact Ev.neg h2 (Ev.now_ _)
/-! Taking back. -/
theorem inv_from (s : ByteArray) (l : List S41) (hall : ∀ x ∈ l, 0 ≤ x.f0.f0 ∧ x.f0.f0 ≤ x.f0.f1) (hs : s.size ≤ 65536) (hl : l.length ≤ 4096) (ht : ∀ x ∈ l, x.f1.size ≤ 65536) : ∀ (d i : Nat) (at_ at' : Nat) (acc : List S41), l.length - i = d → i ≤ l.length → Val s.size at_ ((l.drop i).map toE) → acc.length = i → at' ≤ 131072 * i →
    Ev (fun k => edit_Invert.l0 k s acc ((at' : Int) - (at_ : Int)) l (l.length : Int) (i : Int)) (acc ++ (inv s.data.toList at_ at' ((l.drop i).map toE)).map ofE, 0) := by
  intro d
  induction d with
  | zero =>
    intro i at_ at' acc h1 h2 h3 h4 h5
    refine Ev.step (fun k => by rw [edit_Invert.l0]) (Ev.neg (by omega) (Ev.cast (Ev.now_ _) ?_))
    rw [List.drop_eq_nil_of_le (by omega)]
    simp [inv]
  | succ d ih =>
    intro i at_ at' acc h1 h2 h3 h4 h5
    have hi : i < l.length := by omega
    have hx := hall l[i] (List.getElem_mem hi)
    have hxt := ht l[i] (List.getElem_mem hi)
    rw [List.drop_eq_getElem_cons hi, List.map_cons] at h3 ⊢
    obtain ⟨v1, v2, v3, v4⟩ := h3
    have ea : (toE l[i]).a = l[i].f0.f0.toNat := rfl
    have eb : (toE l[i]).b = l[i].f0.f1.toNat := rfl
    refine Ev.step (fun k => by rw [edit_Invert.l0]) (Ev.pos (by omega) (Ev.pos (by omega) (Ev.pos (by omega) ?_)))
    rw [rd41_lt hi, wrap_succ hi (by omega)]
    refine Ev.pos (by omega) (Ev.pos (by omega) (Ev.pos (by omega) (Ev.pos (by omega) (Ev.bind (len_any _ _) ?_))))
    rw [lenS_ok hx.1 hx.2 (by omega), wrap_id (i := (l[i].f1.size : Int) - (l[i].f0.f1 - l[i].f0.f0)) (by omega) (by omega), wrap_id (i := l[i].f0.f0 + ((at' : Int) - (at_ : Int))) (by omega) (by omega), wrap_id (i := l[i].f0.f0 + ((at' : Int) - (at_ : Int)) + (l[i].f1.size : Int)) (by omega) (by omega), wrap_id (by omega) (by omega)]
    have e1 : (at' : Int) - (at_ : Int) + ((l[i].f1.size : Int) - (l[i].f0.f1 - l[i].f0.f0)) = ((at' + ((toE l[i]).a - at_) + (toE l[i]).t.length : Nat) : Int) - (((toE l[i]).b : Nat) : Int) := by
      rw [toE_len]
      omega
    rw [e1]
    refine Ev.cast (ih (i + 1) _ _ _ (by omega) (by omega) v4 (by rw [List.length_append, h4]; rfl) (by rw [toE_len]; omega)) ?_
    congr 1
    rw [inv, List.map_cons, List.append_assoc]
    congr 1
    rw [List.singleton_append]
    congr 1
    have e2 : l[i].f0.f0 + ((at' : Int) - (at_ : Int)) = ((at' + ((toE l[i]).a - at_) : Nat) : Int) := by omega
    have e3 : l[i].f0.f0 + ((at' : Int) - (at_ : Int)) + (l[i].f1.size : Int) = ((at' + ((toE l[i]).a - at_) + (toE l[i]).t.length : Nat) : Int) := by rw [toE_len]; omega
    rw [e3, e2, ofE]
    congr 1
    apply ba_ext
    rw [ba_extract]
    rfl
def invertV (s : ByteArray) (l : List S41) : List S41 × Int := if (applyV s l).2 = 0 then ((inv s.data.toList 0 0 (l.map toE)).map ofE, 0) else ([], (applyV s l).2)
/-- What it says that edits may be made. -/
theorem applied {s : ByteArray} {l : List S41} (h : (applyV s l).2 = 0) : s.size ≤ 65536 ∧ Pass s.size l ∧ (s.size : Int) + growI l ≤ 65536 ∧ (applyV s l).1 = ⟨(app s.data.toList 0 (l.map toE)).toArray⟩ := by
  unfold applyV at h ⊢
  by_cases h1 : (s.size : Int) > 65536
  · rw [if_pos h1] at h; exact absurd h (by decide)
  · rw [if_neg h1] at h ⊢
    by_cases h2 : chkV (s.size : Int) l = 0
    · rw [if_pos h2] at h ⊢
      by_cases h3 : (s.size : Int) + growI l > 65536
      · rw [if_pos h3] at h; exact absurd h (by decide)
      · rw [if_neg h3]
        exact ⟨by omega, pass_of h2, by omega, rfl⟩
    · rw [if_neg h2] at h; exact absurd h h2
theorem invert_any (s : ByteArray) (l : List S41) (hl : l.length ≤ 9223372036854775807) : Ev (fun k => edit_Invert.f k s l) (invertV s l) := by
  unfold edit_Invert.f invertV
  refine Ev.bind (apply_any s l hl) ?_
  by_cases h : (applyV s l).2 = 0
  · obtain ⟨h1, hP, h3, h4⟩ := applied h
    rw [if_pos h]
    refine Ev.pos h ?_
    have := inv_from s l (fun x hx => ⟨(hP.ok x hx).1, (hP.ok x hx).2.1⟩) h1 hP.len (fun x hx => (hP.ok x hx).2.2.2.2) _ 0 0 0 [] rfl (by omega) (by simpa using hP.val) rfl (by omega)
    simpa using this
  · rw [if_neg h]
    exact Ev.neg h (Ev.now_ _)
theorem cost_from {n : Nat} (l : List S41) (hl : l.length ≤ 4096) (hall : ∀ x ∈ l, 0 ≤ x.f0.f0 ∧ x.f0.f0 ≤ x.f0.f1 ∧ x.f0.f1 ≤ n ∧ (n : Int) ≤ 65536 ∧ x.f1.size ≤ 65536) : ∀ (d i : Nat) (x0 : Int), l.length - i = d → i ≤ l.length → 0 ≤ x0 → x0 ≤ 131072 * (i : Int) →
    Ev (fun k => edit_Cost.l0 k x0 l (l.length : Int) (i : Int)) (x0 + ((puts ((l.drop i).map toE) + takes ((l.drop i).map toE) : Nat) : Int)) := by
  intro d
  induction d with
  | zero =>
    intro i x0 h1 h2 h3 h4
    refine Ev.step (fun k => by rw [edit_Cost.l0]) (Ev.neg (by omega) (Ev.cast (Ev.now_ _) ?_))
    rw [List.drop_eq_nil_of_le (by omega)]
    simp [puts, takes]
  | succ d ih =>
    intro i x0 h1 h2 h3 h4
    have hi : i < l.length := by omega
    have hx := hall l[i] (List.getElem_mem hi)
    refine Ev.step (fun k => by rw [edit_Cost.l0]) (Ev.pos (by omega) (Ev.pos (by omega) (Ev.pos (by omega) ?_)))
    rw [rd41_lt hi, wrap_succ hi (by omega), List.drop_eq_getElem_cons hi, List.map_cons, puts, takes, toE_len]
    refine Ev.bind (len_any _ _) ?_
    rw [lenS_ok hx.1 hx.2.1 (by omega), wrap_id (i := l[i].f0.f1 - l[i].f0.f0 + (l[i].f1.size : Int)) (by omega) (by omega), wrap_id (by omega) (by omega)]
    refine Ev.cast (ih (i + 1) _ (by omega) (by omega) (by omega) (by omega)) ?_
    have ea : (toE l[i]).a = l[i].f0.f0.toNat := rfl
    have eb : (toE l[i]).b = l[i].f0.f1.toNat := rfl
    omega
theorem cost_any {n : Nat} {l : List S41} (hP : Pass n l) : Ev (fun k => edit_Cost.f k l) ((puts (l.map toE) + takes (l.map toE) : Nat) : Int) := by
  have := cost_from l hP.len hP.ok _ 0 0 rfl (by omega) (by omega) (by omega)
  simpa [edit_Cost.f] using this

/-! The head of each statement. -/
end Go.Proofs.Ytoljmjhmieaggaa.Pure
end
section
namespace Go.Proofs.Ytoljmjhmieaggaa.Pure
open Go.RowKit Go.Proofs.Ytoljmjhmieaggaa.X Go.Proofs.YtoljmjhmieaggaaW.PrintWords Go.Proofs.YtoljmjhmieaggaaW.PrintLast Go.Proofs.Ytoljmjhmieaggaa.Ed
set_option linter.unusedVariables false

theorem ordB_of_val {n : Nat} : ∀ {l : List E} {at_ : Nat}, Val n at_ l → ordB (l.map ofE) = true
  | [], _, _ => rfl
  | x :: l, at_, h => by
    obtain ⟨h1, h2, h3, h4⟩ := h
    rw [List.map_cons, ordB, ordB_of_val h4, Bool.and_true]
    cases l with
    | nil => rfl
    | cons y l =>
      have := h4.1
      simp only [List.map_cons, ordH, ofE]
      simp
      omega
theorem chk1_of_val {n : Nat} (hn : n ≤ 65536) : ∀ {l : List E} {at_ : Nat}, Val n at_ l → (∀ x ∈ l, x.t.length ≤ 65536) → chk1 (n : Int) (l.map ofE) = 0
  | [], _, _, _ => rfl
  | x :: l, at_, h, ht => by
    obtain ⟨h1, h2, h3, h4⟩ := h
    have ih := chk1_of_val hn h4 (fun y hy => ht y (List.mem_cons_of_mem _ hy))
    have hx := ht x List.mem_cons_self
    have es : (ofE x).f1.size = x.t.length := by simp [ofE, ByteArray.size]
    rw [List.map_cons, chk1, if_neg (by rw [es]; omega), if_pos (okE_iff.2 ⟨by simp [ofE], by simp [ofE]; omega, by simp [ofE]; omega, by omega⟩), ih]
theorem map_toE_ofE (l : List E) : (l.map ofE).map toE = l := by
  rw [List.map_map]
  conv => rhs; rw [← List.map_id l]
  apply List.map_congr_left
  intro x _
  exact toE_ofE x
theorem map_ofE_toE {l : List S41} (h : ∀ x ∈ l, 0 ≤ x.f0.f0 ∧ x.f0.f0 ≤ x.f0.f1) : (l.map toE).map ofE = l := by
  rw [List.map_map]
  conv => rhs; rw [← List.map_id l]
  apply List.map_congr_left
  intro x hx
  have := h x hx
  exact ofE_toE this.1 (by omega)
theorem chkV_of_val {n : Nat} (hn : n ≤ 65536) {l : List E} (hl : l.length ≤ 4096) (h : Val n 0 l) (ht : ∀ x ∈ l, x.t.length ≤ 65536) : chkV (n : Int) (l.map ofE) = 0 := by
  unfold chkV chk2
  rw [if_neg (by rw [List.length_map]; omega), if_pos (chk1_of_val hn h ht), if_pos (ordB_of_val h)]
theorem inv_small (s : List UInt8) (hs : s.length ≤ 65536) : ∀ (l : List E) (at_ at' : Nat), ∀ x ∈ inv s at_ at' l, x.t.length ≤ 65536
  | [], _, _, x, hx => by simp [inv] at hx
  | y :: l, at_, at', x, hx => by
    rw [inv] at hx
    rcases List.mem_cons.1 hx with rfl | hx
    · simp only [List.length_take, List.length_drop]
      omega
    · exact inv_small s hs l _ _ x hx
end Go.Proofs.Ytoljmjhmieaggaa.Pure
end
