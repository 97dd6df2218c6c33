/- A text into which something was put differs by no more bytes than that, as the statement DiffPuts says; every input. -/
import Derived.Test.YtoljmjhmieaggaaX7
import Derived.Test.YtoljmjhmieaggaaPureDiffFar
namespace Go.Proofs.Ytoljmjhmieaggaa.Pure
open Go.RowKit Go.Proofs.Ytoljmjhmieaggaa.X Go.Proofs.YtoljmjhmieaggaaW.PrintWords Go.Proofs.YtoljmjhmieaggaaW.PrintLast Go.Diff Go.Proofs.Ytoljmjhmieaggaa.Ed
/-- Something put in costs its bytes. -/
theorem put_reach (s p : ByteArray) (k : Nat) (hk : k ≤ s.size) : Diff.Reach (same s (s.extract 0 k ++ p ++ s.extract k s.size)) s.size (s.extract 0 k ++ p ++ s.extract k s.size).size p.size s.size (s.extract 0 k ++ p ++ s.extract k s.size).size ∧ (s.extract 0 k ++ p ++ s.extract k s.size).size = s.size + p.size := by
  obtain ⟨t, ht⟩ : ∃ t, t = s.extract 0 k ++ p ++ s.extract k s.size := ⟨_, rfl⟩
  have hz : t.size = s.size + p.size := by rw [ht, ByteArray.size_append, ByteArray.size_append, ByteArray.size_extract, ByteArray.size_extract]; omega
  have hl : t.data.toList = s.data.toList.take k ++ p.data.toList ++ s.data.toList.drop k := by
    have ls : s.data.toList.length = s.size := Array.length_toList
    rw [ht, ba_append, ba_append, ba_extract, ba_extract, List.drop_zero, Nat.sub_zero, List.take_of_length_le (l := s.data.toList.drop k) (by rw [List.length_drop]; omega)]
  have ls : s.data.toList.length = s.size := Array.length_toList
  have lp : p.data.toList.length = p.size := Array.length_toList
  rw [← ht]
  refine ⟨?_, hz⟩
  have h1 : Diff.Reach (same s t) s.size t.size 0 k k := by
    have := Reach.alongs (Reach.start (E := same s t) (N := s.size) (M := t.size)) k fun q hq => ⟨by omega, by omega, by
      rw [Nat.zero_add]
      refine (bt_eq (by omega) (by omega)).2 ?_
      rw [hl, List.append_assoc, List.getElem?_append_left (by rw [List.length_take]; omega), List.getElem?_take, if_pos hq]⟩
    simpa using this
  have h2 := h1.inss p.size
  have h3 := h2.alongs (s.size - k) fun q hq => ⟨by omega, by omega, by
    refine (bt_eq (by omega) (by omega)).2 ?_
    rw [hl, List.getElem?_append_right (by rw [List.length_append, List.length_take]; omega), List.length_append, List.length_take, List.getElem?_drop, ls, lp]
    congr 1
    omega⟩
  rw [show k + (s.size - k) = s.size by omega, show k + p.size + (s.size - k) = t.size by omega, Nat.zero_add] at h3
  exact h3
theorem puts_list : ∀ (l : List E) (d i : Nat), l.length - i = d → i ≤ l.length → l.length ≤ 1000 → (∀ x ∈ l, x.a = x.b) → Ev (fun k => caulkerlaw04_DiffPuts.l1 k (l.map ofE) ((l.map ofE).length : Int) (i : Int)) true
  | l, 0, i, h1, h2, h3, h4 => by
    have lm : (l.map ofE).length = l.length := List.length_map ..
    refine Ev.step (fun k => by rw [caulkerlaw04_DiffPuts.l1]) (Ev.neg (by omega) (Ev.now_ _))
  | l, d + 1, i, h1, h2, h3, h4 => by
    have lm : (l.map ofE).length = l.length := List.length_map ..
    have hi : i < l.length := by omega
    refine Ev.step (fun k => by rw [caulkerlaw04_DiffPuts.l1]) (Ev.pos (by omega) (Ev.pos (by omega) (Ev.pos (by omega) ?_)))
    rw [rd41_lt (by omega), List.getElem_map, wrap_succ (n := l.length) hi (by omega)]
    refine Ev.pos ?_ (puts_list l d (i + 1) (by omega) (by omega) h3 h4)
    have := h4 l[i] (List.getElem_mem hi)
    show ((l[i].a : Nat) : Int) = (l[i].b : Nat)
    omega
theorem takes_zero : ∀ {l : List E} {n at_ : Nat}, Val n at_ l → takes l = 0 → ∀ x ∈ l, x.a = x.b
  | [], _, _, _, _, x, hx => by simp at hx
  | y :: l, n, at_, hv, ht, x, hx => by
    obtain ⟨h1, h2, h3, h4⟩ := hv
    simp only [takes] at ht
    rcases List.mem_cons.1 hx with rfl | hx
    · omega
    · exact takes_zero h4 (by omega) x hx
theorem puts_end (text s : ByteArray) (n : Nat) (hs : s.size = text.size + n) (ht : text.size ≤ 300) (hn : n ≤ 400) (hr : Diff.Reach (same text s) text.size s.size n text.size s.size) : Ev (fun k => (diff_Bytes.f k text s).bind fun bt350 => (if bt350.2.2 = 0 then (if bt350.2.1 = true then ((edit_Cost.f k bt350.1).bind fun t355 => (caulkerlaw04_DiffPuts.j2 k bt350.1 (t355 != (n : Int)))) else (caulkerlaw04_DiffPuts.j2 k bt350.1 true)) else (caulkerlaw04_DiffPuts.j2 k bt350.1 true))) true := by
  obtain ⟨l, ok, D, q1, q2⟩ := bytes_ev text s (by omega) (by omega)
  have hbd := q2.dist.bounds
  have hle := q2.dist.2 n hr
  have hDn : D = n := by omega
  have hok : ok = true := by rw [q2.far]; exact decide_eq_true (by omega)
  subst hok
  have hc := q2.cost rfl
  have hv := q2.val
  have la : text.data.toList.length = text.size := Array.length_toList
  have lb : s.data.toList.length = s.size := Array.length_toList
  have hL := app_length (s := text.data.toList) (by rw [la]; exact hv)
  rw [q2.app, la, lb] at hL
  have h0 : takes l = 0 := by omega
  have hll := q2.len
  have co := q2.cost_ev (by omega) (by omega)
  refine Ev.bind q1 (Ev.pos rfl (Ev.pos rfl (Ev.bind co ?_)))
  have e : ((((puts l + takes l : Nat) : Int)) != (n : Int)) = false := by rw [bne_eq_false_iff_eq]; omega
  rw [e]
  refine Ev.step (fun k => by rw [caulkerlaw04_DiffPuts.j2]) ?_
  exact Ev.neg (by simp) (puts_list l _ 0 rfl (Nat.zero_le _) (by omega) (takes_zero hv h0))
theorem puts_loop (text p : ByteArray) (ht : text.size ≤ 300) (hp : p.size ≤ 10) (at_ : List Int) (hl : at_.length ≤ 20) : ∀ (d i : Nat), i + d = at_.length → ∀ (s : ByteArray) (n : Nat), n ≤ 10 * i → s.size = text.size + n → Diff.Reach (same text s) text.size s.size n text.size s.size →
    Ev (fun k => caulkerlaw04_DiffPuts.l0 k text p s (n : Int) at_ (at_.length : Int) (i : Int)) true
  | 0, i, hi, s, n, hn, hs, hr => by
    refine Ev.step (fun k => by rw [caulkerlaw04_DiffPuts.l0]) ?_
    exact Ev.neg (by omega) (puts_end text s n hs ht (by omega) hr)
  | d + 1, i, hi, s, n, hn, hs, hr => by
    obtain ⟨q, hq⟩ : ∃ q : Nat, mx 0 (mn (rd at_ (i : Int)) (s.size : Int)) = (q : Int) ∧ q ≤ s.size := by
      refine ⟨(mx 0 (mn (rd at_ (i : Int)) (s.size : Int))).toNat, ?_⟩
      unfold mx mn
      split <;> split <;> omega
    obtain ⟨hr2, hz⟩ := put_reach s p q hq.2
    obtain ⟨t, htt⟩ : ∃ t, t = s.extract 0 q ++ p ++ s.extract q s.size := ⟨_, rfl⟩
    rw [← htt] at hr2 hz
    obtain ⟨d', hd, hr3⟩ := Reach.then (E3 := same text t) (fun _ _ _ e1 e2 => e1.trans e2) _ n p.size text.size s.size t.size (Nat.le_refl _) hr hr2
    have hdg := hr3.diag
    have hdn : d' = n + p.size := by omega
    subst hdn
    have z1 : (s.extract 0 q).size = q := by rw [ByteArray.size_extract]; omega
    have z2 : (s.extract q s.size).size = s.size - q := by rw [ByteArray.size_extract]; omega
    have w1 : wrap64 ((n : Int) + (p.size : Int)) = ((n + p.size : Nat) : Int) := by rw [wrap_id (by omega) (by omega)]; omega
    have w2 : wrap64 ((i : Int) + 1) = ((i + 1 : Nat) : Int) := by rw [wrap_id (by omega) (by omega)]; omega
    have W := Aside0.mk (And.intro w1 w2)
    clear w1 w2
    refine Ev.step (fun k => by rw [caulkerlaw04_DiffPuts.l0]) (Ev.pos (by omega) (Ev.pos (by omega) (Ev.pos (by omega) ?_)))
    rw [hq.1, Int.toNat_natCast, W.out.1, W.out.2, ← htt]
    refine Ev.pos (by omega) (Ev.pos (by omega) (Ev.pos (by omega) (Ev.pos (by rw [ByteArray.size_append]; omega) ?_)))
    exact puts_loop text p ht hp at_ hl d (i + 1) (by omega) t (n + p.size) (by omega) (by omega) hr3
theorem DiffPuts : caulkerlaw04_DiffPuts.Pure := by
  intro text at_ p
  intros
  apply Ev.rounds
  have yes : ∀ q, q = true → Ev (fun k => caulkerlaw04_DiffPuts.j0 k text at_ p q) true := by
    rintro q rfl
    refine Ev.step (fun k => by rw [caulkerlaw04_DiffPuts.j0]) ?_
    exact Ev.pos rfl (Ev.now_ _)
  unfold caulkerlaw04_DiffPuts.f
  refine Ev.bind finds_any (Ev.pos rfl (Ev.ite (fun _ => yes _ rfl) (fun h1 => Ev.ite (fun _ => yes _ rfl) (fun h2 => ?_))))
  by_cases h3 : (p.size : Int) > 10
  · exact yes _ (decide_eq_true h3)
  rw [decide_eq_false h3]
  refine Ev.step (fun k => by rw [caulkerlaw04_DiffPuts.j0]) (Ev.neg (by simp) ?_)
  have h0 : Diff.Reach (same text text) text.size text.size 0 text.size text.size := by
    have := Reach.alongs (Reach.start (E := same text text) (N := text.size) (M := text.size)) text.size fun t ht => ⟨by omega, by omega, by show bt text _ = bt text _; rfl⟩
    simpa using this
  exact puts_loop text p (by omega) (by omega) at_ (by omega) at_.length 0 (Nat.zero_add _) text 0 (Nat.zero_le _) rfl h0
end Go.Proofs.Ytoljmjhmieaggaa.Pure
