/- What edit.pieces, edit.cut, edit.between and edit.Then answer, as plain facts about lists; under the sizes named. -/
import Derived.Test.YtoljmjhmieaggaaM47
import Derived.Test.YtoljmjhmieaggaaEdThen
import Derived.Test.YtoljmjhmieaggaaX21
namespace Go.Proofs.Ytoljmjhmieaggaa.Pure
open Go.RowKit Go.Proofs.Ytoljmjhmieaggaa.X Go.Proofs.YtoljmjhmieaggaaW.PrintWords Go.Proofs.YtoljmjhmieaggaaW.PrintLast Go.Proofs.Ytoljmjhmieaggaa.Ed
set_option linter.unusedVariables false
set_option linter.unusedSimpArgs false

theorem empty_iff (s : ByteArray) : s.toList = ([] : List UInt8) ↔ s.size = 0 := by
  rw [Lib.toList_data, ba_size, List.length_eq_zero_iff]
/-- A piece of the theory as the program's. -/
def ofP (p : Pc) : S73 := ⟨bal p.t, match p.f with | none => -1 | some f => (f : Int)⟩
theorem rd73_map {l : List Pc} {i : Nat} (h : i < l.length) : rd_T73 (l.map ofP) (i : Int) = ofP l[i] := by
  unfold rd_T73
  rw [Int.toNat_natCast, List.getD_eq_getElem?_getD, List.getElem?_map, List.getElem?_eq_getElem h]
  rfl
theorem bal_data (l : List UInt8) : (bal l).data.toList = l := by simp [bal]
theorem ext_bal (s : ByteArray) (i j : Nat) : s.extract ((i : Nat) : Int).toNat ((j : Nat) : Int).toNat = bal ((s.data.toList.drop i).take (j - i)) := by
  apply ba_ext
  rw [ba_extract, bal_data, Int.toNat_natCast, Int.toNat_natCast]
theorem new1_length (t : List UInt8) : (new1 t).length ≤ 1 := by
  unfold new1
  by_cases h : t = []
  · rw [if_pos h]; exact Nat.zero_le _
  · rw [if_neg h]; exact Nat.le_refl _
theorem pcs_length (s : List UInt8) : ∀ (l : List E) (at_ : Nat), (pcs s at_ l).length ≤ 2 * l.length
  | [], _ => Nat.le_refl _
  | x :: l, at_ => by
    have ih := pcs_length s l x.b
    have h1 := new1_length x.t
    rw [pcs, List.length_append, List.length_append, List.length_cons]
    by_cases h : at_ < x.a
    · rw [if_pos h, List.length_singleton]; omega
    · rw [if_neg h, List.length_nil]; omega
theorem cutP_length (lo hi : Nat) : ∀ (l : List Pc) (pos : Nat), (cutP lo hi pos l).length ≤ l.length
  | [], _ => Nat.le_refl _
  | p :: l, pos => by
    have ih := cutP_length lo hi l (pos + p.t.length)
    rw [cutP, List.length_append, List.length_cons]
    by_cases h : lo - pos < min (hi - pos) p.t.length
    · rw [if_pos h, List.length_singleton]; omega
    · rw [if_neg h, List.length_nil]; omega
/-- Pieces that lie within the first n bytes. -/
def In (n : Nat) (l : List Pc) : Prop := ∀ p ∈ l, ∀ f, p.f = some f → f + p.t.length ≤ n
theorem pcs_in {s : List UInt8} : ∀ {l : List E} {at_ : Nat}, Val s.length at_ l → In s.length (pcs s at_ l)
  | [], _, _, p, hp, f, hf => by simp [pcs] at hp
  | x :: l, at_, h, p, hp, f, hf => by
    obtain ⟨h1, h2, h3, h4⟩ := h
    rw [pcs, List.mem_append, List.mem_append] at hp
    rcases hp with (hp | hp) | hp
    · by_cases hc : at_ < x.a
      · rw [if_pos hc, List.mem_singleton] at hp
        subst hp
        have : at_ = f := Option.some.inj hf
        subst this
        simp only [List.length_take, List.length_drop]
        omega
      · rw [if_neg hc] at hp; simp at hp
    · unfold new1 at hp
      by_cases hc : x.t = []
      · rw [if_pos hc] at hp; simp at hp
      · rw [if_neg hc, List.mem_singleton] at hp; subst hp; cases hf
    · exact pcs_in h4 p hp f hf
theorem cutP_in {n lo hi : Nat} : ∀ {l : List Pc} {pos : Nat}, In n l → In n (cutP lo hi pos l)
  | [], _, _, p, hp, f, hf => by simp [cutP] at hp
  | q :: l, pos, h, p, hp, f, hf => by
    rw [cutP, List.mem_append] at hp
    rcases hp with hp | hp
    · by_cases hc : lo - pos < min (hi - pos) q.t.length
      · rw [if_pos hc, List.mem_singleton] at hp
        subst hp
        cases hq : q.f with
        | none => simp [hq] at hf
        | some g =>
          have := h q List.mem_cons_self g hq
          simp [hq] at hf
          subst hf
          simp only [List.length_take, List.length_drop]
          omega
      · rw [if_neg hc] at hp; simp at hp
    · exact cutP_in (fun r hr => h r (List.mem_cons_of_mem _ hr)) p hp f hf
theorem thn_in {n : Nat} {ps : List Pc} (h : In n ps) : ∀ (l : List E) (at_ : Nat), In n (thn ps at_ l)
  | [], _, p, hp, f, hf => by simp [thn] at hp
  | x :: l, at_, p, hp, f, hf => by
    rw [thn, List.mem_append, List.mem_append] at hp
    rcases hp with (hp | hp) | hp
    · exact cutP_in h p hp f hf
    · unfold new1 at hp
      by_cases hc : x.t = []
      · rw [if_pos hc] at hp; simp at hp
      · rw [if_neg hc, List.mem_singleton] at hp; subst hp; cases hf
    · exact thn_in h l _ p hp f hf
theorem flat_mem : ∀ {l : List Pc} {p : Pc}, p ∈ l → p.t.length ≤ (flat l).length
  | q :: l, p, h => by
    rw [flat, List.length_append]
    rcases List.mem_cons.1 h with rfl | h
    · omega
    · have := flat_mem h; omega

theorem pieces_from (s : ByteArray) (hs : s.size ≤ 65536) (es : List E) (he : es.length ≤ 1000000) : ∀ (d i at_ : Nat) (ps : List Pc), es.length - i = d → i ≤ es.length → Val s.size at_ (es.drop i) → ps.length ≤ 2 * i →
    Ev (fun k => edit_pieces.l0 k s (ps.map ofP) (at_ : Int) (es.map ofE) ((es.map ofE).length : Int) (i : Int)) ((ps ++ pcs s.data.toList at_ (es.drop i)).map ofP) := by
  have eL : (es.map ofE).length = es.length := List.length_map _
  intro d
  induction d with
  | zero =>
    intro i at_ ps h1 h2 h3 h4
    refine Ev.step (fun k => by rw [edit_pieces.l0]) (Ev.neg (by omega) (Ev.cast (Ev.now_ _) ?_))
    rw [List.drop_eq_nil_of_le (by omega), pcs, List.append_nil]
  | succ d ih =>
    intro i at_ ps h1 h2 h3 h4
    have hi : i < es.length := by omega
    rw [List.drop_eq_getElem_cons hi] at h3 ⊢
    obtain ⟨v1, v2, v3, v4⟩ := h3
    have e1 : (ofE es[i]).f0.f0 = (es[i].a : Int) := rfl
    have e2 : (ofE es[i]).f0.f1 = (es[i].b : Int) := rfl
    have e3 : (ofE es[i]).f1 = bal es[i].t := rfl
    refine Ev.step (fun k => by rw [edit_pieces.l0]) (Ev.pos (by omega) (Ev.pos (by omega) (Ev.pos (by omega) ?_)))
    rw [rd41_map hi, wrap_succ hi (by omega), e1, e2, e3]
    have rest : ∀ qs : List Pc, qs.length ≤ 2 * i + 1 → Ev (fun k => if (bal es[i].t).toList = ([] : List UInt8) then edit_pieces.l0 k s (qs.map ofP) (es[i].b : Int) (es.map ofE) ((es.map ofE).length : Int) ((i + 1 : Nat) : Int) else if (qs.map ofP).length < 5864062014805 then edit_pieces.l0 k s (qs.map ofP ++ [(⟨bal es[i].t, -1⟩ : S73)]) (es[i].b : Int) (es.map ofE) ((es.map ofE).length : Int) ((i + 1 : Nat) : Int) else none) ((qs ++ new1 es[i].t ++ pcs s.data.toList es[i].b (es.drop (i + 1))).map ofP) := by
      intro qs hq
      by_cases ht : es[i].t = []
      · refine Ev.pos (by rw [bal_list]; exact ht) ?_
        rw [new1, if_pos ht, List.append_nil]
        exact ih (i + 1) es[i].b qs (by omega) (by omega) v4 (by omega)
      · refine Ev.neg (by rw [bal_list]; exact ht) (Ev.pos (by rw [List.length_map]; omega) ?_)
        rw [new1, if_neg ht]
        have := ih (i + 1) es[i].b (qs ++ [⟨es[i].t, none⟩]) (by omega) (by omega) v4 (by rw [List.length_append, List.length_singleton]; omega)
        rw [List.map_append] at this
        exact this
    rw [pcs]
    by_cases hc : at_ < es[i].a
    · refine Ev.pos (by omega) (Ev.pos (by omega) (Ev.pos (by omega) (Ev.pos (by omega) (Ev.pos (by rw [List.length_map]; omega) (Ev.bind (Ev.now_ _) ?_)))))
      have := rest (ps ++ [⟨(s.data.toList.drop at_).take (es[i].a - at_), some at_⟩]) (by rw [List.length_append, List.length_singleton]; omega)
      rw [if_pos hc, ext_bal, ← List.append_assoc, ← List.append_assoc]
      rw [List.map_append (l₁ := ps)] at this
      exact this
    · refine Ev.neg (by omega) ?_
      rw [if_neg hc, List.nil_append, ← List.append_assoc]
      exact rest ps (by omega)
theorem cut_from (n lo hi : Nat) (hn : n ≤ 65536) (hlo : lo ≤ 1000000) (hhi : hi ≤ 1000000) (ps : List Pc) (hps : ps.length ≤ 1000000) (hin : In n ps) : ∀ (d i pos : Nat) (out : List Pc), ps.length - i = d → i ≤ ps.length → pos + (flat (ps.drop i)).length ≤ 1000000 → out.length ≤ i →
    Ev (fun k => edit_cut.l0 k (out.map ofP) (pos : Int) (ps.map ofP) ((ps.map ofP).length : Int) (i : Int) (lo : Int) (hi : Int)) ((out ++ cutP lo hi pos (ps.drop i)).map ofP) := by
  have eL : (ps.map ofP).length = ps.length := List.length_map _
  intro d
  induction d with
  | zero =>
    intro i pos out h1 h2 h3 h4
    refine Ev.step (fun k => by rw [edit_cut.l0]) (Ev.neg (by omega) (Ev.cast (Ev.now_ _) ?_))
    rw [List.drop_eq_nil_of_le (by omega), cutP, List.append_nil]
  | succ d ih =>
    intro i pos out h1 h2 h3 h4
    have hi' : i < ps.length := by omega
    rw [List.drop_eq_getElem_cons hi'] at h3 ⊢
    rw [flat, List.length_append] at h3
    have e1 : (ofP ps[i]).f0 = bal ps[i].t := rfl
    refine Ev.step (fun k => by rw [edit_cut.l0]) (Ev.pos (by omega) (Ev.pos (by omega) (Ev.pos (by omega) ?_)))
    rw [rd73_map hi', wrap_succ hi' (by omega), e1, bal_size, wrap_id (i := (lo : Int) - (pos : Int)) (by omega) (by omega), wrap_id (i := (hi : Int) - (pos : Int)) (by omega) (by omega), wrap_id (i := (pos : Int) + (ps[i].t.length : Int)) (by omega) (by omega)]
    have em : mx ((lo : Int) - (pos : Int)) 0 = ((lo - pos : Nat) : Int) := by
      unfold mx
      by_cases h : (lo : Int) - (pos : Int) < 0
      · rw [if_pos h]; omega
      · rw [if_neg h]; omega
    have next := fun o ho => ih (i + 1) (pos + ps[i].t.length) o (by omega) (by omega) (by omega) ho
    rw [em]
    rw [show ((pos + ps[i].t.length : Nat) : Int) = (pos : Int) + (ps[i].t.length : Int) by omega] at next
    by_cases hc : lo - pos < min (hi - pos) ps[i].t.length
    · have en : mn ((hi : Int) - (pos : Int)) (ps[i].t.length : Int) = ((min (hi - pos) ps[i].t.length : Nat) : Int) := by
        unfold mn
        by_cases h : (ps[i].t.length : Int) < (hi : Int) - (pos : Int)
        · rw [if_pos h]; omega
        · rw [if_neg h]; omega
      rw [en, ext_bal, cutP, if_pos hc, ← List.append_assoc]
      refine Ev.pos (by omega) (Ev.pos (by omega) (Ev.pos (by omega) (Ev.pos (by omega) ?_)))
      have nx := next (out ++ [⟨(ps[i].t.drop (lo - pos)).take (min (hi - pos) ps[i].t.length - (lo - pos)), ps[i].f.map (· + (lo - pos))⟩]) (by rw [List.length_append, List.length_singleton]; omega)
      rw [List.map_append (l₁ := out)] at nx
      have hin1 := hin ps[i] (List.getElem_mem hi')
      rw [bal_data]
      cases hf : ps[i].f with
      | none =>
        have e2 : (ofP ps[i]).f1 = -1 := by rw [ofP, hf]
        rw [e2]
        rw [hf] at nx
        exact Ev.neg (by decide) (Ev.pos (by rw [List.length_map]; omega) nx)
      | some f =>
        have e2 : (ofP ps[i]).f1 = (f : Int) := by rw [ofP, hf]
        have hf2 := hin1 f hf
        rw [e2, wrap_id (by omega) (by omega)]
        rw [hf] at nx
        exact Ev.pos (by omega) (Ev.pos (by rw [List.length_map]; omega) nx)
    · rw [cutP, if_neg hc, List.nil_append]
      refine Ev.neg ?_ (next out (by omega))
      unfold mn
      by_cases h : (ps[i].t.length : Int) < (hi : Int) - (pos : Int)
      · rw [if_pos h]; omega
      · rw [if_neg h]; omega
theorem cut_any {n : Nat} (lo hi : Nat) (hn : n ≤ 65536) (hlo : lo ≤ 1000000) (hhi : hi ≤ 1000000) (ps : List Pc) (hps : ps.length ≤ 1000000) (hin : In n ps) (hf : (flat ps).length ≤ 1000000) : Ev (fun k => edit_cut.f k (ps.map ofP) (lo : Int) (hi : Int)) ((cutP lo hi 0 ps).map ofP) := by
  unfold edit_cut.f
  have := cut_from n lo hi hn hlo hhi ps hps hin _ 0 0 [] rfl (by omega) (by simpa using hf) (by simp)
  simpa using this
theorem between_from (n : Nat) (hn : n ≤ 65536) (ps : List Pc) (hps : ps.length ≤ 1000000000000) (hin : In n ps) : ∀ (d i at_ : Nat) (put : List UInt8) (out : List E), ps.length - i = d → i ≤ ps.length → put.length + (flat (ps.drop i)).length ≤ 1000000 → out.length ≤ i →
    Ev (fun k => edit_between.l0 k (out.map ofE) (at_ : Int) (bal put) (ps.map ofP) ((ps.map ofP).length : Int) (i : Int)) ((out ++ btw at_ put (ps.drop i)).map ofE) := by
  have eL : (ps.map ofP).length = ps.length := List.length_map _
  intro d
  induction d with
  | zero =>
    intro i at_ put out h1 h2 h3 h4
    refine Ev.step (fun k => by rw [edit_between.l0]) (Ev.neg (by omega) (Ev.cast (Ev.now_ _) ?_))
    rw [List.drop_eq_nil_of_le (by omega), btw, List.append_nil]
  | succ d ih =>
    intro i at_ put out h1 h2 h3 h4
    have hi : i < ps.length := by omega
    rw [List.drop_eq_getElem_cons hi] at h3 ⊢
    rw [flat, List.length_append] at h3
    have e1 : (ofP ps[i]).f0 = bal ps[i].t := rfl
    refine Ev.step (fun k => by rw [edit_between.l0]) (Ev.pos (by omega) (Ev.pos (by omega) (Ev.pos (by omega) ?_)))
    rw [rd73_map hi, wrap_succ hi (by omega), e1, bal_size, bal_size]
    have hin1 := hin ps[i] (List.getElem_mem hi)
    rw [btw]
    cases hf : ps[i].f with
    | none =>
      have e2 : (ofP ps[i]).f1 = -1 := by rw [ofP, hf]
      rw [e2]
      refine Ev.pos (by decide) (Ev.pos (by omega) ?_)
      have e3 : bal put ++ bal ps[i].t = bal (put ++ ps[i].t) := by
        apply ba_ext
        rw [ba_append, bal_data, bal_data, bal_data]
      rw [e3]
      exact ih (i + 1) at_ (put ++ ps[i].t) out (by omega) (by omega) (by rw [List.length_append]; omega) (by omega)
    | some f =>
      have e2 : (ofP ps[i]).f1 = (f : Int) := by rw [ofP, hf]
      have hf2 := hin1 f hf
      rw [e2, wrap_id (by omega) (by omega), show (f : Int) + (ps[i].t.length : Int) = ((f + ps[i].t.length : Nat) : Int) by omega]
      refine Ev.neg (by omega) ?_
      have emit : Ev (fun k => if (out.map ofE).length < 4398046511104 then edit_between.l0 k (out.map ofE ++ [(⟨(⟨(at_ : Int), (f : Int)⟩ : S39), bal put⟩ : S41)]) ((f + ps[i].t.length : Nat) : Int) (⟨#[]⟩ : ByteArray) (ps.map ofP) ((ps.map ofP).length : Int) ((i + 1 : Nat) : Int) else none) ((out ++ ⟨at_, f, put⟩ :: btw (f + ps[i].t.length) [] (ps.drop (i + 1))).map ofE) := by
        refine Ev.pos (by rw [List.length_map]; omega) ?_
        have := ih (i + 1) (f + ps[i].t.length) [] (out ++ [⟨at_, f, put⟩]) (by omega) (by omega) (by rw [List.length_nil]; omega) (by rw [List.length_append, List.length_singleton]; omega)
        rw [List.map_append (l₁ := out), List.append_assoc, List.singleton_append] at this
        exact this
      show Ev _ ((out ++ if at_ < f ∨ put ≠ [] then ⟨at_, f, put⟩ :: btw (f + ps[i].t.length) [] (ps.drop (i + 1)) else btw (f + ps[i].t.length) [] (ps.drop (i + 1))).map ofE)
      by_cases ha : at_ < f
      · rw [if_pos (.inl ha)]
        exact Ev.pos (by omega) emit
      · refine Ev.neg (by omega) ?_
        by_cases hp : put = []
        · rw [if_neg (fun h => h.elim ha (fun h => h hp))]
          refine Ev.pos (by rw [bal_list]; exact hp) ?_
          exact ih (i + 1) (f + ps[i].t.length) [] out (by omega) (by omega) (by rw [List.length_nil]; omega) (by omega)
        · rw [if_pos (.inr hp)]
          exact Ev.neg (by rw [bal_list]; exact hp) emit
theorem between_any {n : Nat} (hn : n ≤ 65536) (ps : List Pc) (hps : ps.length ≤ 100000000000) (hin : In n ps) (hf : (flat ps).length ≤ 1000000) : Ev (fun k => edit_between.f k (n : Int) (ps.map ofP)) ((btw 0 [] (ps ++ [⟨[], some n⟩])).map ofE) := by
  unfold edit_between.f
  have eL : (ps.map ofP).length = ps.length := List.length_map _
  refine Ev.bind (Ev.eq (by rw [edit_piece.f, if_pos (by omega)])) (Ev.pos (by omega) (Ev.bind (Ev.now_ _) ?_))
  have := between_from n hn (ps ++ [⟨[], some n⟩]) (by rw [List.length_append, List.length_singleton]; omega) (by
    intro p hp f hpf
    rcases List.mem_append.1 hp with hp | hp
    · exact hin p hp f hpf
    · rw [List.mem_singleton] at hp
      subst hp
      have : n = f := Option.some.inj hpf
      subst this
      exact Nat.le_refl _) _ 0 0 [] [] rfl (by omega) (by rw [List.drop_zero, flat_append, List.length_append, List.length_nil]; simp [flat]; omega) (by simp)
  rw [List.map_append] at this
  exact this
theorem then_from (s : ByteArray) (hs : s.size ≤ 65536) (ps : List Pc) (hps : ps.length ≤ 100000) (hin : In s.size ps) (hf : (flat ps).length ≤ 65536) (es : List E) (he : es.length ≤ 100000) (r : List S41 × Int) : ∀ (d i at_ : Nat) (all : List Pc), es.length - i = d → i ≤ es.length → Val (flat ps).length at_ (es.drop i) → all.length ≤ i * 100001 →
    Ev (fun k => (edit_between.f k (s.size : Int) ((all ++ thn ps at_ (es.drop i)).map ofP)).bind fun t495 => (edit_Tidy.f k s t495).bind fun bt498 => some (bt498.1, bt498.2)) r →
    Ev (fun k => edit_Then.l0 k s (ps.map ofP) (all.map ofP) (at_ : Int) (es.map ofE) ((es.map ofE).length : Int) (i : Int)) r := by
  have eL : (es.map ofE).length = es.length := List.length_map _
  intro d
  induction d with
  | zero =>
    intro i at_ all h1 h2 h3 h4 hr
    refine Ev.step (fun k => by rw [edit_Then.l0]) (Ev.neg (by omega) ?_)
    rw [List.drop_eq_nil_of_le (by omega), thn, List.append_nil] at hr
    exact hr
  | succ d ih =>
    intro i at_ all h1 h2 h3 h4 hr
    have hi : i < es.length := by omega
    rw [List.drop_eq_getElem_cons hi] at h3 hr
    obtain ⟨v1, v2, v3, v4⟩ := h3
    have e1 : (ofE es[i]).f0.f0 = (es[i].a : Int) := rfl
    have e2 : (ofE es[i]).f0.f1 = (es[i].b : Int) := rfl
    have e3 : (ofE es[i]).f1 = bal es[i].t := rfl
    have hcl := cutP_length at_ es[i].a ps 0
    have hsc : (i + 1) * 100001 = i * 100001 + 100001 := by rw [Nat.succ_mul]
    have hib : i * 100001 ≤ 100000 * 100001 := Nat.mul_le_mul_right _ (by omega)
    refine Ev.step (fun k => by rw [edit_Then.l0]) (Ev.pos (by omega) (Ev.pos (by omega) (Ev.pos (by omega) ?_)))
    rw [rd41_map hi, wrap_succ hi (by omega), e1, e2, e3]
    refine Ev.bind (cut_any at_ es[i].a hs (by omega) (by omega) ps (by omega) hin (by omega)) (Ev.pos (by rw [List.length_map, List.length_map]; omega) (Ev.bind (Ev.now_ _) ?_))
    rw [← List.map_append]
    rw [thn, ← List.append_assoc, ← List.append_assoc] at hr
    by_cases ht : es[i].t = []
    · refine Ev.pos (by rw [bal_list]; exact ht) ?_
      rw [new1, if_pos ht, List.append_nil] at hr
      exact ih (i + 1) es[i].b _ (by omega) (by omega) v4 (by rw [List.length_append]; omega) hr
    · refine Ev.neg (by rw [bal_list]; exact ht) (Ev.pos (by rw [List.length_map, List.length_append]; omega) ?_)
      rw [new1, if_neg ht] at hr
      have := ih (i + 1) es[i].b (all ++ cutP at_ es[i].a 0 ps ++ [⟨es[i].t, none⟩]) (by omega) (by omega) v4 (by rw [List.length_append, List.length_append, List.length_singleton]; omega) hr
      rw [List.map_append (l₁ := all ++ cutP at_ es[i].a 0 ps)] at this
      exact this
/-- One step for two, tidied. -/
def thenB (s : ByteArray) (l m : List S41) : List E := thenE s.data.toList (l.map toE) (m.map toE)
theorem then_ok {s : ByteArray} {l m : List S41} (hn : s.size ≤ 4000) (h : (applyV s l).2 = 0) (h' : (applyV (applyV s l).1 m).2 = 0) : applyV s ((thenB s l m).map ofE) = applyV (applyV s l).1 m ∧ puts (thenB s l m) + takes (thenB s l m) ≤ puts (l.map toE) + takes (l.map toE) + (puts (m.map toE) + takes (m.map toE)) := by
  obtain ⟨hs, hP, hgr, ha⟩ := applied h
  obtain ⟨hs2, hP2, hgr2, ha2⟩ := applied h'
  have esz : s.data.toList.length = s.size := (ba_size s).symm
  have hv : Val s.data.toList.length 0 (l.map toE) := by rw [esz]; exact hP.val
  have ed : (applyV s l).1.data.toList = app s.data.toList 0 (l.map toE) := by rw [ha]
  have hv2 : Val (app s.data.toList 0 (l.map toE)).length 0 (m.map toE) := by rw [← ed, ← ba_size]; exact hP2.val
  have T2 := then2 hv hv2
  have hgi2 := growI_eq hP2.ok
  have al := app_length hv
  have al2 := app_length hv2
  have al3 := app_length T2.val
  have hsz : ((applyV s l).1).size = (app s.data.toList 0 (l.map toE)).length := by rw [ba_size, ed]
  have hr := T2.room
  have hcost := T2.cost
  have hln := T2.len
  have heff := T2.eff
  have hfin : (app s.data.toList 0 (thenE s.data.toList (l.map toE) (m.map toE))).length ≤ 65536 := by rw [heff]; omega
  have hval := T2.val
  rw [esz] at hval hln
  have ht : ∀ x ∈ thenE s.data.toList (l.map toE) (m.map toE), x.t.length ≤ 65536 := fun x hx => by
    have := puts_mem hx
    omega
  have hch : chkV (s.size : Int) ((thenE s.data.toList (l.map toE) (m.map toE)).map ofE) = 0 := chkV_of_val hs (by omega) hval ht
  have hgi3 := growI_eq (pass_of hch).ok
  rw [map_toE_ofE] at hgi3
  refine ⟨?_, hcost⟩
  have e2 : applyV (applyV s l).1 m = (⟨(app (applyV s l).1.data.toList 0 (m.map toE)).toArray⟩, 0) := Prod.ext ha2 h'
  rw [e2, ed]
  unfold applyV thenB
  rw [if_neg (by omega), if_pos hch, if_neg (by omega), map_toE_ofE, heff]
def thenV (s : ByteArray) (l m : List S41) : List S41 × Int := if (applyV s l).2 = 0 then (if (applyV (applyV s l).1 m).2 = 0 then ((tidy s.data.toList [] (thenB s l m)).map ofE, 0) else ([], (applyV (applyV s l).1 m).2)) else ([], (applyV s l).2)
theorem then_any (s : ByteArray) (hn : s.size ≤ 4000) (l m : List S41) (hl : l.length ≤ 9223372036854775807) (hm : m.length ≤ 9223372036854775807) : Ev (fun k => edit_Then.f k s l m) (thenV s l m) := by
  unfold edit_Then.f thenV
  refine Ev.bind (apply_any s l hl) ?_
  by_cases h : (applyV s l).2 = 0
  · refine Ev.pos h (Ev.bind (apply_any _ m hm) ?_)
    rw [if_pos h]
    by_cases h' : (applyV (applyV s l).1 m).2 = 0
    · refine Ev.pos h' ?_
      rw [if_pos h']
      obtain ⟨hs, hP, hgr, ha⟩ := applied h
      obtain ⟨hs2, hP2, hgr2, ha2⟩ := applied h'
      have hll := hP.len
      have hml := hP2.len
      have esz : s.data.toList.length = s.size := (ba_size s).symm
      have hv : Val s.data.toList.length 0 (l.map toE) := by rw [esz]; exact hP.val
      have ed : (applyV s l).1.data.toList = app s.data.toList 0 (l.map toE) := by rw [ha]
      have hv2 : Val (app s.data.toList 0 (l.map toE)).length 0 (m.map toE) := by rw [← ed, ← ba_size]; exact hP2.val
      have hsz : ((applyV s l).1).size = (app s.data.toList 0 (l.map toE)).length := by rw [ba_size, ed]
      have el : l ++ [(⟨(⟨(s.size : Int), (s.size : Int)⟩ : S39), (⟨#[]⟩ : ByteArray)⟩ : S41)] = (l.map toE ++ [endE s.data.toList.length]).map ofE := by
        rw [List.map_append, map_ofE_toE (fun x hx => ⟨(hP.ok x hx).1, (hP.ok x hx).2.1⟩), esz]
        rfl
      have em : m ++ [(⟨(⟨((applyV s l).1.size : Int), ((applyV s l).1.size : Int)⟩ : S39), (⟨#[]⟩ : ByteArray)⟩ : S41)] = (m.map toE ++ [endE (app s.data.toList 0 (l.map toE)).length]).map ofE := by
        rw [List.map_append, map_ofE_toE (fun x hx => ⟨(hP2.ok x hx).1, (hP2.ok x hx).2.1⟩), hsz]
        rfl
      have hve := val_end hv
      have hve2 := val_end hv2
      have fl : flat (pcs s.data.toList 0 (l.map toE ++ [endE s.data.toList.length])) = app s.data.toList 0 (l.map toE) := by
        rw [← lab_fst, lab_pcs, preL_fst, labF_fst]
        exact pre_end _ _ 0
      have hpl := pcs_length s.data.toList (l.map toE ++ [endE s.data.toList.length]) 0
      rw [List.length_append, List.length_map, List.length_singleton] at hpl
      have hpi := pcs_in hve
      have hthenl : (m.map toE ++ [endE (app s.data.toList 0 (l.map toE)).length]).length ≤ 100000 := by rw [List.length_append, List.length_map, List.length_singleton]; omega
      have hfl : (flat (thn (pcs s.data.toList 0 (l.map toE ++ [endE s.data.toList.length])) 0 (m.map toE ++ [endE (app s.data.toList 0 (l.map toE)).length]))) = app (app s.data.toList 0 (l.map toE)) 0 (m.map toE) := by
        rw [← lab_fst, lab_thn, preL_fst, lab_fst, fl]
        exact pre_end _ _ 0
      have hfs : (applyV (applyV s l).1 m).1.size = (app (app s.data.toList 0 (l.map toE)) 0 (m.map toE)).length := by rw [ba_size, ha2, ed]
      have hfs2 : (app (app s.data.toList 0 (l.map toE)) 0 (m.map toE)).length ≤ 65536 := by
        have al := app_length hv2
        have := growI_eq hP2.ok
        omega
      have hpieces : Ev (fun k => edit_pieces.f k s l) ((pcs s.data.toList 0 (l.map toE ++ [endE s.data.toList.length])).map ofP) := by
        unfold edit_pieces.f
        refine Ev.bind (Ev.eq (by rw [api_Edit.f, if_pos (by omega)])) (Ev.pos (by omega) (Ev.bind (Ev.now_ _) ?_))
        rw [el]
        have := pieces_from s hs (l.map toE ++ [endE s.data.toList.length]) (by rw [List.length_append, List.length_map, List.length_singleton]; omega) _ 0 0 [] rfl (by omega) (by rw [List.drop_zero, ← esz]; exact hve) (by simp)
        rw [List.nil_append, List.drop_zero] at this
        exact this
      refine Ev.bind hpieces (Ev.bind (Ev.eq (by rw [api_Edit.f, if_pos (by omega)])) (Ev.pos (by omega) (Ev.bind (Ev.now_ _) ?_)))
      rw [em]
      have key := then_ok hn h h'
      refine then_from s hs _ (by omega) (by rw [← esz]; exact hpi) (by rw [fl, ← hsz]; omega) _ hthenl _ _ 0 0 [] rfl (by omega) (by rw [List.drop_zero, fl]; exact hve2) (by simp) ?_
      rw [List.nil_append, List.drop_zero]
      have hne := thn_ne (pcs s.data.toList 0 (l.map toE ++ [endE s.data.toList.length])) (m.map toE ++ [endE (app s.data.toList 0 (l.map toE)).length]) 0
      have hcount : ∀ ps : List Pc, (∀ p ∈ ps, p.t ≠ []) → ps.length ≤ (flat ps).length := by
        intro ps
        induction ps with
        | nil => intro _; exact Nat.le_refl _
        | cons p ps ih =>
          intro h
          have := ih (fun q hq => h q (List.mem_cons_of_mem _ hq))
          have := List.length_pos_iff.2 (h p List.mem_cons_self)
          rw [flat, List.length_append, List.length_cons]
          omega
      have hc := hcount _ hne
      rw [hfl] at hc
      have hbt := between_any (n := s.size) hs (thn (pcs s.data.toList 0 (l.map toE ++ [endE s.data.toList.length])) 0 (m.map toE ++ [endE (app s.data.toList 0 (l.map toE)).length])) (by omega) (thn_in (by rw [← esz]; exact hpi) _ _) (by rw [hfl]; omega)
      have ebt : btw 0 [] (thn (pcs s.data.toList 0 (l.map toE ++ [endE s.data.toList.length])) 0 (m.map toE ++ [endE (app s.data.toList 0 (l.map toE)).length]) ++ [⟨[], some s.size⟩]) = thenB s l m := by
        unfold thenB thenE
        rw [esz]
      rw [ebt] at hbt
      refine Ev.bind hbt ?_
      have hz : (applyV s ((thenB s l m).map ofE)).2 = 0 := by rw [key.1]; exact h'
      have hzl := (applied hz).2.1.len
      refine Ev.bind (tidy_any s ((thenB s l m).map ofE) (by omega)) (Ev.cast (Ev.now_ _) ?_)
      unfold tidyV
      rw [if_pos hz, map_toE_ofE]
    · rw [if_neg h']
      exact Ev.neg h' (Ev.now_ _)
  · rw [if_neg h]
    exact Ev.neg h (Ev.now_ _)
end Go.Proofs.Ytoljmjhmieaggaa.Pure
