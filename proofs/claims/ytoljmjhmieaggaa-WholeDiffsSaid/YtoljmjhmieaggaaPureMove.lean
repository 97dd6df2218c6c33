/- Where a byte that is kept goes, and what Move answers of it; that edits are a way through the table of pairs; and the edits that take edits back; texts that aren't too long. -/
import Derived.Test.YtoljmjhmieaggaaX24
import Derived.Test.YtoljmjhmieaggaaM43
import Derived.Test.YtoljmjhmieaggaaPureDiffWay
import Derived.Test.YtoljmjhmieaggaaPureDiffBytes
namespace Go.Proofs.Ytoljmjhmieaggaa.Pure
open Go.RowKit Go.Proofs.Ytoljmjhmieaggaa.X Go.Proofs.YtoljmjhmieaggaaW.PrintWords Go.Proofs.YtoljmjhmieaggaaW.PrintLast Go.Diff Go.Proofs.Ytoljmjhmieaggaa.Ed
/-- Where place p goes behind edits that begin at a place at_ or behind it, told from there. -/
def mvN : Nat → List E → Nat → Nat
  | at_, [], p => p - at_
  | at_, x :: l, p => if p < x.a then p - at_ else (x.a - at_) + x.t.length + mvN x.b l p
theorem mv_app {s : List UInt8} : ∀ {l : List E} {at_ p : Nat}, Val s.length at_ l → at_ ≤ p → (∀ x ∈ l, ¬ (x.a ≤ p ∧ p < x.b)) → (app s at_ l)[mvN at_ l p]? = s[p]?
  | [], at_, p, _, h1, _ => by
    rw [app, mvN, List.getElem?_drop]
    congr 1
    omega
  | x :: l, at_, p, hv, h1, hk => by
    obtain ⟨v1, v2, v3, v4⟩ := hv
    rw [app, mvN]
    by_cases c : p < x.a
    · rw [if_pos c, List.append_assoc, List.getElem?_append_left (by rw [List.length_take, List.length_drop]; omega), List.getElem?_take, if_pos (by omega), List.getElem?_drop]
      congr 1
      omega
    · have hb : x.b ≤ p := by
        have := hk x List.mem_cons_self
        omega
      have i := mv_app v4 hb (fun y hy => hk y (List.mem_cons_of_mem _ hy))
      rw [if_neg c, List.getElem?_append_right (by rw [List.length_append, List.length_take, List.length_drop]; omega), ← i]
      congr 1
      rw [List.length_append, List.length_take, List.length_drop]
      omega
theorem val_ge {n : Nat} : ∀ {l : List E} {at_ : Nat}, Val n at_ l → ∀ x ∈ l, at_ ≤ x.a
  | [], _, _, x, hx => by simp at hx
  | y :: l, at_, ⟨v1, v2, _, v4⟩, x, hx => by
    rcases List.mem_cons.1 hx with rfl | hx
    · exact v1
    · have := val_ge v4 x hx
      omega
theorem move_past (l : List S41) (hl : l.length ≤ 4096) (p : Nat) (hp : p ≤ 65536) (by_ : Int) (hb : -1000000000 ≤ by_ ∧ by_ ≤ 1000000000) : ∀ (d i : Nat), l.length - i = d → i ≤ l.length → (∀ x ∈ l.drop i, (p : Int) < x.f0.f0 ∧ x.f0.f0 ≤ x.f0.f1) → Ev (fun k => edit_Move.l0 k (p : Int) true by_ l (l.length : Int) (i : Int)) ((p : Int) + by_, 0) := by
  intro d
  induction d with
  | zero =>
    intro i h1 h2 _
    refine Ev.step (fun k => by rw [edit_Move.l0]) (Ev.neg (by omega) (Ev.cast (Ev.now_ _) ?_))
    rw [wrap_id (by omega) (by omega)]
  | succ d ih =>
    intro i h1 h2 h3
    have hi : i < l.length := by omega
    rw [List.drop_eq_getElem_cons hi] at h3
    have hx := h3 _ List.mem_cons_self
    refine Ev.step (fun k => by rw [edit_Move.l0]) (Ev.pos (by omega) (Ev.pos (by omega) (Ev.pos (by omega) ?_)))
    rw [rd41_lt hi]
    refine Ev.neg (by omega) (Ev.neg (by omega) (Ev.step (fun k => by rw [edit_Move.j2]) (Ev.neg (by simp) (Ev.neg (by omega) (Ev.step (fun k => by rw [edit_Move.j3]) (Ev.neg (by simp) (Ev.neg (by omega) ?_)))))))
    rw [wrap_succ hi (by omega)]
    exact ih (i + 1) (by omega) (by omega) (fun x hx => h3 x (List.mem_cons_of_mem _ hx))
theorem move_by (l : List S41) (p : Nat) (x : S41) (h0 : 0 ≤ x.f0.f0) (h1 : x.f0.f0 ≤ x.f0.f1) (h2 : x.f0.f1 ≤ 65536) (h3 : x.f1.size ≤ 65536) (hx : x.f0.f1 ≤ p) (by_ : Int) (hb : -1000000000 ≤ by_ ∧ by_ ≤ 1000000000) (len i : Int) (r : Int × Int) (next : Ev (fun k => edit_Move.l0 k (p : Int) true (by_ + ((x.f1.size : Int) - (x.f0.f1 - x.f0.f0))) l len (wrap64 (i + 1))) r) :
    Ev (fun k => if x.f0.f1 < (p : Int) then (edit_Move.j2 k (p : Int) true by_ l len i true x.f0.f0 x.f0.f1 x.f1) else (if x.f0.f1 = (p : Int) then (edit_Move.j2 k (p : Int) true by_ l len i (decide (x.f0.f0 < (p : Int))) x.f0.f0 x.f0.f1 x.f1) else (edit_Move.j2 k (p : Int) true by_ l len i false x.f0.f0 x.f0.f1 x.f1))) r := by
  have go : Ev (fun k => edit_Move.j2 k (p : Int) true by_ l len i true x.f0.f0 x.f0.f1 x.f1) r := by
    refine Ev.step (fun k => by rw [edit_Move.j2]) (Ev.pos rfl (Ev.bind (len_any _ _) ?_))
    rw [lenS_ok h0 h1 h2, wrap_id (i := (x.f1.size : Int) - (x.f0.f1 - x.f0.f0)) (by omega) (by omega), wrap_id (i := by_ + ((x.f1.size : Int) - (x.f0.f1 - x.f0.f0))) (by omega) (by omega)]
    exact next
  refine Ev.ite (fun _ => go) (fun c1 => Ev.pos (by omega) ?_)
  by_cases c2 : x.f0.f0 < (p : Int)
  · rw [decide_eq_true c2]
    exact go
  · rw [decide_eq_false c2]
    refine Ev.step (fun k => by rw [edit_Move.j2]) (Ev.neg (by simp) (Ev.pos (by omega) (Ev.pos (by omega) (Ev.step (fun k => by rw [edit_Move.j3]) (Ev.pos rfl ?_)))))
    rw [wrap_id (i := by_ + (x.f1.size : Int)) (by omega) (by omega)]
    rw [show by_ + ((x.f1.size : Int) - (x.f0.f1 - x.f0.f0)) = by_ + (x.f1.size : Int) by omega] at next
    exact next
theorem move_from {n : Nat} (l : List S41) (hl : l.length ≤ 4096) (hall : ∀ x ∈ l, 0 ≤ x.f0.f0 ∧ x.f0.f0 ≤ x.f0.f1 ∧ x.f0.f1 ≤ n ∧ (n : Int) ≤ 65536 ∧ x.f1.size ≤ 65536) (p : Nat) (hp : p ≤ 65536) (hk : ∀ x ∈ l, ¬ (x.f0.f0 ≤ (p : Int) ∧ (p : Int) < x.f0.f1)) : ∀ (d i at_ : Nat) (by_ : Int), l.length - i = d → i ≤ l.length → Val n at_ ((l.drop i).map toE) → at_ ≤ p → -(65536 * ((i : Int) + 1)) ≤ by_ → by_ ≤ 65536 * ((i : Int) + 1) →
    Ev (fun k => edit_Move.l0 k (p : Int) true by_ l (l.length : Int) (i : Int)) (by_ + ((at_ + mvN at_ ((l.drop i).map toE) p : Nat) : Int), 0) := by
  intro d
  induction d with
  | zero =>
    intro i at_ by_ h1 h2 hv h3 h4 h5
    refine Ev.step (fun k => by rw [edit_Move.l0]) (Ev.neg (by omega) (Ev.cast (Ev.now_ _) ?_))
    rw [List.drop_eq_nil_of_le (by omega), List.map_nil, mvN, wrap_id (by omega) (by omega)]
    congr 1
    omega
  | succ d ih =>
    intro i at_ by_ h1 h2 hv h3 h4 h5
    have hi : i < l.length := by omega
    obtain ⟨g0, g1, g2, g3, g4⟩ := hall _ (List.getElem_mem hi)
    have gk := hk _ (List.getElem_mem hi)
    have ed : l.drop i = l[i] :: l.drop (i + 1) := List.drop_eq_getElem_cons hi
    rw [ed, List.map_cons] at hv ⊢
    have hv' := hv
    obtain ⟨v1, v2, v3, v4⟩ := hv
    have e1 : ((toE l[i]).a : Int) = l[i].f0.f0 := Int.toNat_of_nonneg g0
    have e2 : ((toE l[i]).b : Int) = l[i].f0.f1 := Int.toNat_of_nonneg (Int.le_trans g0 g1)
    have e3 : (toE l[i]).t.length = l[i].f1.size := toE_len
    rw [mvN]
    by_cases c : p < (toE l[i]).a
    · rw [if_pos c]
      refine Ev.cast (move_past l hl p hp by_ (by omega) (d + 1) i h1 h2 (fun x hx => ?_)) (by congr 1; omega)
      rw [ed] at hx
      rcases List.mem_cons.1 hx with rfl | hx
      · exact ⟨by omega, g1⟩
      · obtain ⟨q0, q1, _⟩ := hall x (List.mem_of_mem_drop hx)
        have := val_ge v4 (toE x) (List.mem_map_of_mem hx)
        have e4 : ((toE x).a : Int) = x.f0.f0 := Int.toNat_of_nonneg q0
        exact ⟨by omega, q1⟩
    · have hb : (toE l[i]).b ≤ p := by omega
      rw [if_neg c]
      refine Ev.step (fun k => by rw [edit_Move.l0]) (Ev.pos (by omega) (Ev.pos (by omega) (Ev.pos (by omega) ?_)))
      rw [rd41_lt hi]
      refine move_by l p l[i] g0 g1 (by omega) g4 (by omega) by_ (by omega) _ _ _ ?_
      rw [wrap_succ hi (by omega)]
      refine Ev.cast (ih (i + 1) (toE l[i]).b _ (by omega) (by omega) v4 hb (by omega) (by omega)) ?_
      congr 1
      omega
theorem move_any (s : ByteArray) (l : List S41) (h : (applyV s l).2 = 0) (p : Nat) (hp : p ≤ s.size) (hk : ∀ x ∈ l, ¬ (x.f0.f0 ≤ (p : Int) ∧ (p : Int) < x.f0.f1)) : Ev (fun k => edit_Move.f k s (p : Int) true l) ((mvN 0 (l.map toE) p : Nat), 0) := by
  obtain ⟨hs, hP, hgr, ha⟩ := applied h
  unfold edit_Move.f
  have hll := hP.len
  refine Ev.bind (apply_any s l (by omega)) (Ev.pos h (Ev.neg (by omega) (Ev.step (fun k => by rw [edit_Move.j0]) (Ev.neg (by simp; omega) ?_))))
  have := move_from l hP.len hP.ok p (by omega) hk _ 0 0 0 rfl (by omega) (by simpa using hP.val) (by omega) (by omega) (by omega)
  simpa using this
/-- Edits are a way through the table of pairs, and cost what they cost. -/
theorem reach_app (s t : ByteArray) : ∀ (l : List E) (i j d : Nat), Val s.size i l → j ≤ t.size → t.data.toList.drop j = app s.data.toList i l → Diff.Reach (same s t) s.size t.size d i j → Diff.Reach (same s t) s.size t.size (d + puts l + takes l) s.size t.size
  | [], i, j, d, hv, hj, he, hr => by
    have hi : i ≤ s.size := hv
    have ls : s.data.toList.length = s.size := Array.length_toList
    have lt : t.data.toList.length = t.size := Array.length_toList
    rw [app] at he
    have hlen : t.size - j = s.size - i := by
      have := congrArg List.length he
      rw [List.length_drop, List.length_drop, ls, lt] at this
      exact this
    have := hr.alongs (s.size - i) (fun q hq => ⟨by omega, by omega, (bt_eq (by omega) (by omega)).2 (by
      have := congrArg (fun z => z[q]?) he
      simp only [List.getElem?_drop] at this
      exact this.symm)⟩)
    rw [show i + (s.size - i) = s.size by omega, show j + (s.size - i) = t.size by omega] at this
    exact this
  | x :: l, i, j, d, hv, hj, he, hr => by
    obtain ⟨v1, v2, v3, v4⟩ := hv
    have ls : s.data.toList.length = s.size := Array.length_toList
    have lt : t.data.toList.length = t.size := Array.length_toList
    rw [app] at he
    have hlen := congrArg List.length he
    rw [List.length_drop, List.length_append, List.length_append, List.length_take, List.length_drop, lt, ls] at hlen
    have h1 := hr.alongs (x.a - i) (fun q hq => ⟨by omega, by omega, (bt_eq (by omega) (by omega)).2 (by
      have := congrArg (fun z => z[q]?) he
      simp only [List.getElem?_drop] at this
      rw [List.append_assoc, List.getElem?_append_left (by rw [List.length_take, List.length_drop, ls]; omega), List.getElem?_take, if_pos hq, List.getElem?_drop] at this
      exact this.symm)⟩)
    rw [show i + (x.a - i) = x.a by omega] at h1
    have h2 := h1.inss x.t.length
    have dels : ∀ m, Diff.Reach (same s t) s.size t.size (d + x.t.length + m) (x.a + m) (j + (x.a - i) + x.t.length) := by
      intro m
      induction m with
      | zero => exact h2
      | succ m ih => exact ih.del
    have h3 := dels (x.b - x.a)
    rw [show x.a + (x.b - x.a) = x.b by omega] at h3
    have := reach_app s t l x.b (j + (x.a - i) + x.t.length) _ v4 (by omega) (by
      rw [show j + (x.a - i) + x.t.length = j + ((x.a - i) + x.t.length) by omega, ← List.drop_drop, he, List.drop_append_of_le_length (by rw [List.length_append, List.length_take, List.length_drop, ls]; omega), List.drop_eq_nil_of_le (by rw [List.length_append, List.length_take, List.length_drop, ls]; omega), List.nil_append]) h3
    rw [puts, takes, show d + (x.t.length + puts l) + (x.b - x.a + takes l) = d + x.t.length + (x.b - x.a) + puts l + takes l by omega]
    exact this
theorem dist_least {a b : ByteArray} {D : Nat} (h : Dist (same a b) a.size b.size D) {l : List E} (hv : Val a.size 0 l) (he : app a.data.toList 0 l = b.data.toList) : D ≤ puts l + takes l := by
  have := h.2 _ (reach_app a b l 0 0 0 hv (by omega) (by rw [List.drop_zero, he]) .start)
  omega
/-- Edits taken back. -/
theorem back_ok {s : ByteArray} {l : List S41} (h : (applyV s l).2 = 0) : invertV s l = ((inv s.data.toList 0 0 (l.map toE)).map ofE, 0) ∧ applyV (applyV s l).1 ((inv s.data.toList 0 0 (l.map toE)).map ofE) = (s, 0) ∧ ((inv s.data.toList 0 0 (l.map toE)).map ofE).length = l.length := by
  obtain ⟨hs, hP, hgr, ha⟩ := applied h
  have ei : invertV s l = ((inv s.data.toList 0 0 (l.map toE)).map ofE, 0) := by unfold invertV; rw [if_pos h]
  have hv : Val s.data.toList.length 0 (l.map toE) := by rw [← ba_size]; exact hP.val
  have hal := app_length hv
  have hgi := growI_eq hP.ok
  have esz : s.data.toList.length = s.size := (ba_size s).symm
  refine ⟨ei, ?_, by rw [List.length_map, inv_length, List.length_map]⟩
  rw [ha]
  have hnl : (⟨(app s.data.toList 0 (l.map toE)).toArray⟩ : ByteArray).data.toList = app s.data.toList 0 (l.map toE) := rfl
  have hns : (⟨(app s.data.toList 0 (l.map toE)).toArray⟩ : ByteArray).size = (app s.data.toList 0 (l.map toE)).length := by rw [ba_size, hnl]
  generalize hS : (⟨(app s.data.toList 0 (l.map toE)).toArray⟩ : ByteArray) = S at hnl hns ⊢
  have hSle : S.size ≤ 65536 := by rw [hns]; omega
  have hiv : Val S.size 0 (inv s.data.toList 0 0 (l.map toE)) := inv_val hv (by rw [hns]; omega)
  have hch : chkV (S.size : Int) ((inv s.data.toList 0 0 (l.map toE)).map ofE) = 0 := chkV_of_val hSle (by rw [inv_length, List.length_map]; exact hP.len) hiv (inv_small _ (by omega) _ _ _)
  have hP2 := pass_of hch
  have hgi2 := growI_eq hP2.ok
  rw [map_toE_ofE, inv_puts hv, inv_takes] at hgi2
  unfold applyV
  rw [if_neg (by omega), if_pos hch, if_neg (by rw [hgi2, hns]; omega), map_toE_ofE, hnl]
  have := app_inv [] hv
  rw [List.nil_append, List.length_nil, List.drop_zero] at this
  rw [this, toArray_data]
end Go.Proofs.Ytoljmjhmieaggaa.Pure
