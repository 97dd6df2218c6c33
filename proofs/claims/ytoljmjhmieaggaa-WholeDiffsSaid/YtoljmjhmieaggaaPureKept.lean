/- What Kept answers: the gaps between what edits take away; texts that aren't too long. -/
import Derived.Test.YtoljmjhmieaggaaX17
import Derived.Test.YtoljmjhmieaggaaM43
import Derived.Test.YtoljmjhmieaggaaPureGapLib
namespace Go.Proofs.Ytoljmjhmieaggaa.Pure
open Go.RowKit Go.Proofs.Ytoljmjhmieaggaa.X Go.Proofs.YtoljmjhmieaggaaW.PrintWords Go.Proofs.YtoljmjhmieaggaaW.PrintLast Go.Proofs.Ytoljmjhmieaggaa.Ed
/-- What edits take away, the empty spans left out. -/
def sps (l : List S41) : List S39 := (l.map S41.f0).filter (fun s => decide (s.f0 < s.f1))
theorem sps_nil : sps [] = [] := rfl
theorem sps_cons (x : S41) (l : List S41) : sps (x :: l) = (if x.f0.f0 < x.f0.f1 then [x.f0] else []) ++ sps l := by
  unfold sps
  rw [List.map_cons, List.filter_cons]
  by_cases h : x.f0.f0 < x.f0.f1
  · rw [if_pos h, if_pos (by simpa using h)]; rfl
  · rw [if_neg h, if_neg (by simpa using h)]; rfl
theorem sps_some (l : List S41) : ∀ s ∈ sps l, s.f0 < s.f1 := by
  intro s hs
  have := (List.mem_filter.1 hs).2
  exact of_decide_eq_true this
theorem sps_length (l : List S41) : (sps l).length ≤ l.length := by
  have := List.length_filter_le (fun s : S39 => decide (s.f0 < s.f1)) (l.map S41.f0)
  rw [List.length_map] at this
  exact this
theorem sps_srt {n : Nat} : ∀ {l : List S41} {a : Nat}, (∀ x ∈ l, 0 ≤ x.f0.f0 ∧ x.f0.f0 ≤ x.f0.f1) → Val n a (l.map toE) → gSrt (n : Int) (a : Int) (sps l)
  | [], a, _, h => by
    have : a ≤ n := h
    show (a : Int) ≤ n
    omega
  | x :: l, a, hx, h => by
    obtain ⟨h1, h2, h3, h4⟩ := h
    obtain ⟨g1, g2⟩ := hx x List.mem_cons_self
    have e1 : ((toE x).a : Int) = x.f0.f0 := Int.toNat_of_nonneg g1
    have e2 : ((toE x).b : Int) = x.f0.f1 := Int.toNat_of_nonneg (Int.le_trans g1 g2)
    rw [sps_cons]
    by_cases c : x.f0.f0 < x.f0.f1
    · rw [if_pos c]
      have := sps_srt (fun y hy => hx y (List.mem_cons_of_mem _ hy)) h4
      rw [e2] at this
      exact ⟨by omega, g2, by omega, this⟩
    · rw [if_neg c, List.nil_append]
      exact sps_srt (fun y hy => hx y (List.mem_cons_of_mem _ hy)) (h4.mono (by omega))
theorem srt_ok {n : Int} (hn : n ≤ 65536) : ∀ {P : List S39} {a : Int}, 0 ≤ a → gSrt n a P → P.all (okG n) = true
  | [], _, _, _ => rfl
  | s :: P, a, ha, h => by
    obtain ⟨h1, h2, h3, h4⟩ := h
    rw [List.all_cons, srt_ok hn (by omega) h4, Bool.and_true, okG_iff]
    omega
theorem srt_ord {n : Int} : ∀ {P : List S39} {a : Int}, (∀ s ∈ P, s.f0 < s.f1) → gSrt n a P → gordL P = true
  | [], _, _, _ => rfl
  | s :: P, a, hs, h => by
    obtain ⟨h1, h2, h3, h4⟩ := h
    have i := srt_ord (fun y hy => hs y (List.mem_cons_of_mem _ hy)) h4
    rw [gordL, i, Bool.and_true]
    cases P with
    | nil => rfl
    | cons y P =>
      have hs1 := hs s List.mem_cons_self
      have h5 : s.f1 ≤ y.f0 := h4.1
      rw [gordH, gordG, decide_eq_true h5, Bool.true_and]
      have : (s.f0 == s.f1) = false := by rw [beq_eq_false_iff_ne]; omega
      cases hq : (s.f0 == y.f0 && s.f1 == y.f1 && s.f0 == s.f1) with
      | false => rfl
      | true => rw [this, Bool.and_false] at hq; cases hq
/-- Gaps with room between them. -/
def gStrict : Int → List S39 → Prop
  | _, [] => True
  | a, s :: l => a < s.f0 ∧ s.f0 < s.f1 ∧ gStrict s.f1 l
theorem gStrict.mono {a b : Int} : ∀ {l : List S39}, gStrict a l → b ≤ a → gStrict b l
  | [], _, _ => trivial
  | s :: l, h, hle => ⟨by have := h.1; omega, h.2⟩
theorem gap_strict {n : Int} : ∀ {P : List S39} {a : Int}, (∀ s ∈ P, s.f0 < s.f1) → gSrt n a P → gStrict (a - 1) (gapL a (P ++ [⟨n, n⟩]))
  | [], a, _, h => by
    rw [List.nil_append, gapL, gapL, List.append_nil]
    by_cases c : a < n
    · rw [if_pos c]
      exact ⟨by show a - 1 < a; omega, c, trivial⟩
    · rw [if_neg c]; trivial
  | s :: P, a, hs, h => by
    obtain ⟨h1, h2, h3, h4⟩ := h
    have i := gap_strict (fun y hy => hs y (List.mem_cons_of_mem _ hy)) h4
    have hs1 := hs s List.mem_cons_self
    rw [List.cons_append, gapL]
    by_cases c : a < s.f0
    · rw [if_pos c]
      exact ⟨by show a - 1 < a; omega, c, i.mono (by show s.f0 ≤ s.f1 - 1; omega)⟩
    · rw [if_neg c, List.nil_append]
      exact i.mono (by omega)
theorem strict_at {a : Int} : ∀ {G : List S39} {i : Nat} (h : i + 1 < G.length), gStrict a G → G[i].f1 < G[i + 1].f0
  | [], _, h, _ => by simp at h
  | [s], i, h, _ => by simp at h
  | s :: t :: l, 0, _, hG => hG.2.2.1
  | s :: t :: l, i + 1, h, hG => strict_at (G := t :: l) (i := i) (by simpa using h) hG.2.2
theorem strict_drop {a : Int} : ∀ {G : List S39} {i : Nat}, gStrict a G → ∃ b, gStrict b (G.drop i)
  | [], i, _ => ⟨0, by rw [List.drop_nil]; trivial⟩
  | s :: l, 0, h => ⟨a, h⟩
  | s :: l, i + 1, h => strict_drop (i := i) h.2.2
/-- In gaps that stand behind a place there is no place before it. -/
theorem cnt_zero {j a : Int} : ∀ {G : List S39}, gStrict a G → j ≤ a → cnt j G = 0
  | [], _, _ => rfl
  | s :: l, h, hj => by
    obtain ⟨h1, h2, h3⟩ := h
    rw [cnt, if_neg (by omega), cnt_zero h3 (by omega)]; rfl

/-! Kept. -/
theorem kept_from (s : ByteArray) (l : List S41) (hl : l.length ≤ 4096) (hx : ∀ x ∈ l, 0 ≤ x.f0.f0 ∧ x.f0.f0 ≤ x.f0.f1 ∧ x.f0.f1 ≤ 65536) (v : List S39 × Int) : ∀ (d i : Nat) (out : List S39), l.length - i = d → i ≤ l.length → out.length ≤ i → Ev (fun k => span_Gaps.f k (s.size : Int) (out ++ sps (l.drop i))) v →
    Ev (fun k => diff_Kept.l0 k s out l (l.length : Int) (i : Int)) v := by
  intro d
  induction d with
  | zero =>
    intro i out h1 h2 h3 hv
    rw [List.drop_eq_nil_of_le (by omega), sps_nil, List.append_nil] at hv
    refine Ev.step (fun k => by rw [diff_Kept.l0]) (Ev.neg (by omega) (Ev.bind hv (Ev.now_ _)))
  | succ d ih =>
    intro i out h1 h2 h3 hv
    have hi : i < l.length := by omega
    obtain ⟨g1, g2, g3⟩ := hx _ (List.getElem_mem hi)
    refine Ev.step (fun k => by rw [diff_Kept.l0]) (Ev.pos (by omega) (Ev.pos (by omega) (Ev.pos (by omega) ?_)))
    rw [rd41_lt hi, wrap_succ hi (by omega)]
    rw [List.drop_eq_getElem_cons hi, sps_cons] at hv
    refine Ev.bind (len_any _ _) ?_
    rw [lenS_ok g1 g2 g3]
    by_cases c : l[i].f0.f0 < l[i].f0.f1
    · refine Ev.pos (by omega) (Ev.pos (by omega) ?_)
      refine ih (i + 1) _ (by omega) (by omega) (by rw [List.length_append, List.length_singleton]; omega) ?_
      rw [if_pos c, ← List.append_assoc] at hv
      exact hv
    · refine Ev.neg (by omega) ?_
      refine ih (i + 1) _ (by omega) (by omega) (by omega) ?_
      rw [if_neg c, List.nil_append] at hv
      exact hv
theorem kept_ev (s : ByteArray) (l : List S41) (hl : l.length ≤ 9223372036854775807) (hs : s.size ≤ 65536) (h : chkV (s.size : Int) l = 0) : Ev (fun k => diff_Kept.f k s l) (gapL 0 (sps l ++ [⟨(s.size : Int), (s.size : Int)⟩]), 0) := by
  have hp := chk_pass h
  have hx : ∀ x ∈ l, 0 ≤ x.f0.f0 ∧ x.f0.f0 ≤ x.f0.f1 ∧ x.f0.f1 ≤ 65536 := by
    intro x hx
    have := okE_iff.1 (chk1_all hp.2.1 x hx).1
    omega
  have hv := val_pass (n := s.size) h
  have hS := sps_srt (fun x hx' => ⟨(hx x hx').1, (hx x hx').2.1⟩) hv
  unfold diff_Kept.f
  have hc := edit_check_any (s.size : Int) l hl
  rw [h] at hc
  refine Ev.bind hc (Ev.pos rfl ?_)
  have hg := gaps_any (s.size : Int) (by omega) (by omega) (sps l) (by have := sps_length l; omega)
  unfold gapsV at hg
  rw [if_pos (srt_ok (by omega) (by decide) hS), if_pos (srt_ord (sps_some l) hS)] at hg
  exact kept_from s l hp.1 hx _ _ 0 [] rfl (by omega) (by simp) (by simpa using hg)

end Go.Proofs.Ytoljmjhmieaggaa.Pure
