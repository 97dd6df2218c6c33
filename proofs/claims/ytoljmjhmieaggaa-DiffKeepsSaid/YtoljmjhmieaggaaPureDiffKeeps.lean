/- What edits leave of a text: the spans that Kept tells are all bytes that no edit takes away, each once, with room between them; every input. -/
import Derived.Test.YtoljmjhmieaggaaX8
import Derived.Test.YtoljmjhmieaggaaPureKept
namespace Go.Proofs.Ytoljmjhmieaggaa.Pure
open Go.RowKit Go.Proofs.Ytoljmjhmieaggaa.X Go.Proofs.YtoljmjhmieaggaaW.PrintWords Go.Proofs.YtoljmjhmieaggaaW.PrintLast Go.Proofs.Ytoljmjhmieaggaa.Ed
/-! The law's own counting. -/
theorem bset (xs : List Bool) (p j : Nat) (v : Bool) (hp : p < xs.length) : (xs.set p v).getD j false = if j = p then v else xs.getD j false := by
  rw [List.getD_eq_getElem?_getD, List.getD_eq_getElem?_getD, List.getElem?_set]
  by_cases h : p = j
  · rw [if_pos h, if_pos h.symm, if_pos (by omega)]; rfl
  · rw [if_neg h, if_neg (fun e => h e.symm)]
theorem keeps_l1 (l : List S41) (G : List S39) (e : Int) (n : Nat) (hn : n ≤ 100000) (r : Bool) (hr : ∀ ys : List Bool, ys.length = n → (∀ j, j < n → ys.getD j false = true) → Ev (fun k => caulkerlaw04_DiffKeeps.l2 k G e ys l (l.length : Int) 0) r) : ∀ (d p : Nat) (xs : List Bool), n - p = d → p ≤ n → xs.length = n → (∀ j, j < p → xs.getD j false = true) →
    Ev (fun k => caulkerlaw04_DiffKeeps.l1 k l G e xs (n : Int) (p : Int)) r := by
  intro d
  induction d with
  | zero =>
    intro p xs h1 h2 h3 h4
    exact Ev.step (fun k => by rw [caulkerlaw04_DiffKeeps.l1]) (Ev.neg (by omega) (hr xs h3 (fun j hj => h4 j (by omega))))
  | succ d ih =>
    intro p xs h1 h2 h3 h4
    refine Ev.step (fun k => by rw [caulkerlaw04_DiffKeeps.l1]) (Ev.pos (by omega) (Ev.pos (by omega) (Ev.pos (by omega) ?_)))
    rw [Int.toNat_natCast, wrap_succ (i := p) (n := n) (by omega) (by omega)]
    refine ih (p + 1) _ (by omega) (by omega) (by rw [List.length_set]; exact h3) (fun j hj => ?_)
    rw [bset _ _ _ _ (by omega)]
    by_cases c : j = p
    · rw [if_pos c]
    · rw [if_neg c]; exact h4 j (by omega)
theorem keeps_l3 (n : Nat) (hn : n ≤ 100000) (G : List S39) (e : Int) (L : List S41) (len idx f0 : Int) (t : ByteArray) (b : Nat) (hb : b ≤ n) (r : Bool) : ∀ (d p : Nat) (xs : List Bool), b - p = d → xs.length = n →
    (∀ ys : List Bool, ys.length = n → (∀ j, ys.getD j false = (xs.getD j false && !decide (p ≤ j ∧ j < b))) → Ev (fun k => caulkerlaw04_DiffKeeps.l2 k G e ys L len (wrap64 (idx + 1))) r) →
    Ev (fun k => caulkerlaw04_DiffKeeps.l3 k G e xs (p : Int) L len idx f0 (b : Int) t) r := by
  intro d
  induction d with
  | zero =>
    intro p xs h1 h3 hr
    refine Ev.step (fun k => by rw [caulkerlaw04_DiffKeeps.l3]) (Ev.neg (by omega) (hr xs h3 (fun j => ?_)))
    rw [decide_eq_false (by omega), Bool.not_false, Bool.and_true]
  | succ d ih =>
    intro p xs h1 h3 hr
    refine Ev.step (fun k => by rw [caulkerlaw04_DiffKeeps.l3]) (Ev.pos (by omega) (Ev.pos (by omega) (Ev.pos (by omega) ?_)))
    rw [Int.toNat_natCast, wrap_succ (i := p) (n := n) (by omega) (by omega)]
    refine ih (p + 1) _ (by omega) (by rw [List.length_set]; exact h3) (fun ys hy1 hy2 => hr ys hy1 (fun j => ?_))
    rw [hy2 j, bset _ _ _ _ (by omega)]
    by_cases c : j = p
    · rw [if_pos c, decide_eq_true (p := p ≤ j ∧ j < b) (by omega), Bool.false_and, Bool.not_true, Bool.and_false]
    · rw [if_neg c]
      have : (p + 1 ≤ j ∧ j < b) ↔ (p ≤ j ∧ j < b) := by omega
      rw [decide_eq_decide.2 this]
theorem keeps_l2 (n : Nat) (hn : n ≤ 100000) (G : List S39) (e : Int) (L : List S41) (hL : L.length ≤ 100000) (hx : ∀ x ∈ L, 0 ≤ x.f0.f0 ∧ x.f0.f0 ≤ x.f0.f1 ∧ x.f0.f1 ≤ n) (r : Bool) : ∀ (d i : Nat) (xs : List Bool), L.length - i = d → i ≤ L.length → xs.length = n →
    (∀ ys : List Bool, ys.length = n → (∀ j, ys.getD j false = (xs.getD j false && decide (cnt (j : Int) (sps (L.drop i)) = 0))) → Ev (fun k => caulkerlaw04_DiffKeeps.l4 k G e ys G (G.length : Int) 0) r) →
    Ev (fun k => caulkerlaw04_DiffKeeps.l2 k G e xs L (L.length : Int) (i : Int)) r := by
  intro d
  induction d with
  | zero =>
    intro i xs h1 h2 h3 hr
    refine Ev.step (fun k => by rw [caulkerlaw04_DiffKeeps.l2]) (Ev.neg (by omega) (hr xs h3 (fun j => ?_)))
    rw [List.drop_eq_nil_of_le (by omega), sps_nil, cnt, decide_eq_true rfl, Bool.and_true]
  | succ d ih =>
    intro i xs h1 h2 h3 hr
    have hi : i < L.length := by omega
    obtain ⟨g1, g2, g3⟩ := hx _ (List.getElem_mem hi)
    refine Ev.step (fun k => by rw [caulkerlaw04_DiffKeeps.l2]) (Ev.pos (by omega) (Ev.pos (by omega) (Ev.pos (by omega) ?_)))
    rw [rd41_lt hi]
    have e1 : (L[i].f0.f0.toNat : Int) = L[i].f0.f0 := Int.toNat_of_nonneg g1
    have e2 : (L[i].f0.f1.toNat : Int) = L[i].f0.f1 := Int.toNat_of_nonneg (Int.le_trans g1 g2)
    have := keeps_l3 n hn G e L (L.length : Int) (i : Int) L[i].f0.f0 L[i].f1 L[i].f0.f1.toNat (by omega) r _ L[i].f0.f0.toNat xs rfl h3 (fun ys hy1 hy2 => ?_)
    · rw [e1, e2] at this
      exact this
    · rw [wrap_succ hi (by omega)]
      refine ih (i + 1) ys (by omega) (by omega) hy1 (fun zs hz1 hz2 => hr zs hz1 (fun j => ?_))
      rw [hz2 j, hy2 j, Bool.and_assoc]
      congr 1
      rw [List.drop_eq_getElem_cons hi, sps_cons, cnt_append]
      have hr2 := cnt_range (j : Int) (sps (L.drop (i + 1)))
      by_cases c : L[i].f0.f0 < L[i].f0.f1
      · rw [if_pos c, cnt, cnt]
        by_cases c2 : L[i].f0.f0 ≤ (j : Int) ∧ (j : Int) < L[i].f0.f1
        · rw [if_pos c2, decide_eq_true (p := L[i].f0.f0.toNat ≤ j ∧ j < L[i].f0.f1.toNat) (by omega), Bool.not_true, Bool.false_and, decide_eq_false (by omega)]
        · rw [if_neg c2, decide_eq_false (p := L[i].f0.f0.toNat ≤ j ∧ j < L[i].f0.f1.toNat) (by omega), Bool.not_false, Bool.true_and]
          exact decide_eq_decide.2 (by omega)
      · rw [if_neg c, cnt, decide_eq_false (p := L[i].f0.f0.toNat ≤ j ∧ j < L[i].f0.f1.toNat) (by omega), Bool.not_false, Bool.true_and]
        exact decide_eq_decide.2 (by omega)
theorem keeps_l5 (n : Nat) (hn : n ≤ 100000) (G : List S39) (e : Int) (L : List S39) (len idx f0 : Int) (b : Nat) (hb : b ≤ n) : ∀ (d p : Nat) (xs : List Bool), b - p = d → xs.length = n → (∀ j, p ≤ j → j < b → xs.getD j false = true) →
    (∀ ys : List Bool, ys.length = n → (∀ j, ys.getD j false = (xs.getD j false && !decide (p ≤ j ∧ j < b))) → Ev (fun k => caulkerlaw04_DiffKeeps.l4 k G e ys L len (wrap64 (idx + 1))) true) →
    Ev (fun k => caulkerlaw04_DiffKeeps.l5 k G e xs (p : Int) L len idx f0 (b : Int)) true := by
  intro d
  induction d with
  | zero =>
    intro p xs h1 h3 h4 hr
    refine Ev.step (fun k => by rw [caulkerlaw04_DiffKeeps.l5]) (Ev.neg (by omega) (hr xs h3 (fun j => ?_)))
    rw [decide_eq_false (by omega), Bool.not_false, Bool.and_true]
  | succ d ih =>
    intro p xs h1 h3 h4 hr
    refine Ev.step (fun k => by rw [caulkerlaw04_DiffKeeps.l5]) (Ev.pos (by omega) (Ev.pos (by omega) (Ev.pos (by omega) (Ev.pos (by rw [rdOf, Int.toNat_natCast]; exact h4 p (Nat.le_refl _) (by omega)) ?_))))
    rw [Int.toNat_natCast, wrap_succ (i := p) (n := n) (by omega) (by omega)]
    refine ih (p + 1) _ (by omega) (by rw [List.length_set]; exact h3) (fun j hj1 hj2 => ?_) (fun ys hy1 hy2 => hr ys hy1 (fun j => ?_))
    · rw [bset _ _ _ _ (by omega), if_neg (by omega)]
      exact h4 j (by omega) hj2
    · rw [hy2 j, bset _ _ _ _ (by omega)]
      by_cases c : j = p
      · rw [if_pos c, decide_eq_true (p := p ≤ j ∧ j < b) (by omega), Bool.false_and, Bool.not_true, Bool.and_false]
      · rw [if_neg c]
        have : (p + 1 ≤ j ∧ j < b) ↔ (p ≤ j ∧ j < b) := by omega
        rw [decide_eq_decide.2 this]
theorem keeps_l4 (n : Nat) (hn : n ≤ 100000) (G : List S39) (hG : G.length ≤ 100000) {a : Int} (hst : gStrict a G) (hx : ∀ g ∈ G, 0 ≤ g.f0 ∧ g.f0 < g.f1 ∧ g.f1 ≤ n) : ∀ (d i : Nat) (xs : List Bool), G.length - i = d → i ≤ G.length → xs.length = n → (∀ j : Nat, cnt (j : Int) (G.drop i) ≠ 0 → xs.getD j false = true) →
    (∀ ys : List Bool, ys.length = n → (∀ j, ys.getD j false = (xs.getD j false && decide (cnt (j : Int) (G.drop i) = 0))) → Ev (fun k => caulkerlaw04_DiffKeeps.l6 k 0 ys (ys.length : Int) 0) true) →
    Ev (fun k => caulkerlaw04_DiffKeeps.l4 k G 0 xs G (G.length : Int) (i : Int)) true := by
  intro d
  induction d with
  | zero =>
    intro i xs h1 h2 h3 h4 hr
    refine Ev.step (fun k => by rw [caulkerlaw04_DiffKeeps.l4]) (Ev.neg (by omega) (hr xs h3 (fun j => ?_)))
    rw [List.drop_eq_nil_of_le (by omega), cnt, decide_eq_true rfl, Bool.and_true]
  | succ d ih =>
    intro i xs h1 h2 h3 h4 hr
    have hi : i < G.length := by omega
    obtain ⟨g1, g2, g3⟩ := hx _ (List.getElem_mem hi)
    have e1 : (G[i].f0.toNat : Int) = G[i].f0 := Int.toNat_of_nonneg g1
    have e2 : (G[i].f1.toNat : Int) = G[i].f1 := Int.toNat_of_nonneg (by omega)
    obtain ⟨a', hst'⟩ := strict_drop (i := i) hst
    rw [List.drop_eq_getElem_cons hi] at hst'
    obtain ⟨_, _, hst2⟩ := hst'
    have hcut : ∀ j : Int, cnt j (G.drop i) = (if G[i].f0 ≤ j ∧ j < G[i].f1 then 1 else 0) + cnt j (G.drop (i + 1)) := by
      intro j
      rw [List.drop_eq_getElem_cons hi, cnt]
    have fill : Ev (fun k => caulkerlaw04_DiffKeeps.j6 k G 0 xs G (G.length : Int) (i : Int) false G[i].f0 G[i].f1) true := by
      refine Ev.step (fun k => by rw [caulkerlaw04_DiffKeeps.j6]) (Ev.neg (by simp) ?_)
      have := keeps_l5 n hn G 0 G (G.length : Int) (i : Int) G[i].f0 G[i].f1.toNat (by omega) _ G[i].f0.toNat xs rfl h3 (fun j hj1 hj2 => h4 j ?_) (fun ys hy1 hy2 => ?_)
      · rw [e1, e2] at this
        exact this
      · have := cnt_range (j : Int) (G.drop (i + 1))
        rw [hcut, if_pos (by omega)]
        omega
      · rw [wrap_succ hi (by omega)]
        refine ih (i + 1) ys (by omega) (by omega) hy1 (fun j hj => ?_) (fun zs hz1 hz2 => hr zs hz1 (fun j => ?_))
        · have hj' : ¬ (G[i].f0.toNat ≤ j ∧ j < G[i].f1.toNat) := fun c => hj (cnt_zero hst2 (by omega))
          rw [hy2 j, decide_eq_false hj', Bool.not_false, Bool.and_true]
          exact h4 j (by rw [hcut, if_neg (by omega)]; omega)
        · rw [hz2 j, hy2 j, Bool.and_assoc]
          congr 1
          have hr2 := cnt_range (j : Int) (G.drop (i + 1))
          rw [hcut]
          by_cases c2 : G[i].f0 ≤ (j : Int) ∧ (j : Int) < G[i].f1
          · rw [if_pos c2, decide_eq_true (p := G[i].f0.toNat ≤ j ∧ j < G[i].f1.toNat) (by omega), Bool.not_true, Bool.false_and, decide_eq_false (by omega)]
          · rw [if_neg c2, decide_eq_false (p := G[i].f0.toNat ≤ j ∧ j < G[i].f1.toNat) (by omega), Bool.not_false, Bool.true_and]
            exact decide_eq_decide.2 (by omega)
    refine Ev.step (fun k => by rw [caulkerlaw04_DiffKeeps.l4]) (Ev.pos (by omega) (Ev.pos (by omega) (Ev.pos (by omega) ?_)))
    rw [rd39_lt hi]
    refine Ev.neg (by omega) ?_
    by_cases c : i = 0
    · subst c
      exact Ev.neg (by simp) fill
    · obtain ⟨i', rfl⟩ : ∃ i', i = i' + 1 := ⟨i - 1, by omega⟩
      have hi' : i' < G.length := by omega
      have hlt := strict_at hi hst
      rw [gwrap_pred hi' (by omega), rd39_lt hi', decide_eq_false (by omega)]
      exact Ev.pos (by omega) (Ev.pos (by omega) (Ev.pos (by omega) fill))
theorem keeps_l6 (n : Nat) (hn : n ≤ 100000) (xs : List Bool) (hx : xs.length = n) (h : ∀ j, j < n → xs.getD j false = false) : ∀ (d i : Nat), n - i = d → i ≤ n → Ev (fun k => caulkerlaw04_DiffKeeps.l6 k 0 xs (xs.length : Int) (i : Int)) true := by
  intro d
  induction d with
  | zero =>
    intro i h1 h2
    exact Ev.step (fun k => by rw [caulkerlaw04_DiffKeeps.l6]) (Ev.neg (by omega) (Ev.cast (Ev.now_ _) (by decide)))
  | succ d ih =>
    intro i h1 h2
    refine Ev.step (fun k => by rw [caulkerlaw04_DiffKeeps.l6]) (Ev.pos (by omega) (Ev.pos (by omega) (Ev.pos (by omega) ?_)))
    rw [wrap_succ (i := i) (n := n) (by omega) (by omega)]
    exact Ev.neg (by rw [rdOf, Int.toNat_natCast, h i (by omega)]; simp) (ih (i + 1) (by omega) (by omega))
theorem keeps_l0 (s : ByteArray) (hs : s.size ≤ 1000) (l : List S41) (hl : l.length ≤ 60) : ∀ (d i : Nat), l.length - i = d → i ≤ l.length → Ev (fun k => caulkerlaw04_DiffKeeps.l0 k s l l (l.length : Int) (i : Int)) true := by
  intro d
  induction d with
  | zero =>
    intro i h1 h2
    refine Ev.step (fun k => by rw [caulkerlaw04_DiffKeeps.l0]) (Ev.neg (by omega) ?_)
    by_cases hc : chkV (s.size : Int) l = 0
    · have hp := chk_pass hc
      have hx : ∀ x ∈ l, 0 ≤ x.f0.f0 ∧ x.f0.f0 ≤ x.f0.f1 ∧ x.f0.f1 ≤ s.size := by
        intro x hx
        have := okE_iff.1 (chk1_all hp.2.1 x hx).1
        omega
      have hS : gSrt (s.size : Int) 0 (sps l) := sps_srt (fun x hx' => ⟨(hx x hx').1, (hx x hx').2.1⟩) (val_pass (n := s.size) hc)
      have hck := ref_check_any (s.size : Int) l (by omega)
      rw [hc] at hck
      refine Ev.bind (kept_ev s l (by omega) (by omega) hc) (Ev.bind hck (Ev.pos rfl (Ev.pos (by omega) (Ev.pos (by omega) (Ev.bind (Ev.now_ _) ?_)))))
      rw [Int.toNat_natCast, List.length_replicate]
      obtain ⟨G, hG⟩ : ∃ G, G = gapL 0 (sps l ++ [⟨(s.size : Int), (s.size : Int)⟩]) := ⟨_, rfl⟩
      have hst := gap_strict (sps_some l) hS
      have hfar := (gap_far hS).2
      have honce : ∀ j : Int, cnt j (sps l) + cnt j (gapL 0 (sps l ++ [⟨(s.size : Int), (s.size : Int)⟩])) = if 0 ≤ j ∧ j < (s.size : Int) then 1 else 0 := fun j => cnt_once hS
      have hlen := gapL_length (sps l ++ [⟨(s.size : Int), (s.size : Int)⟩]) 0
      have hlen2 := sps_length l
      rw [List.length_append, List.length_singleton] at hlen
      rw [← hG] at hst hfar hlen honce ⊢
      have hxG : ∀ g ∈ G, 0 ≤ g.f0 ∧ g.f0 < g.f1 ∧ g.f1 ≤ s.size := by
        intro g hg
        have h1 := hfar g hg
        have h2 : ∀ {a : Int} {L : List S39}, gStrict a L → ∀ g ∈ L, g.f0 < g.f1 := by
          intro a L
          induction L generalizing a with
          | nil => intro _ g hg; simp at hg
          | cons x L ih =>
            intro h g hg
            rcases List.mem_cons.1 hg with rfl | hg
            · exact h.2.1
            · exact ih h.2.2 g hg
        exact ⟨h1.1, h2 hst g hg, h1.2.2⟩
      refine keeps_l1 l G 0 s.size (by omega) true (fun ys hy1 hy2 => ?_) _ 0 _ rfl (by omega) List.length_replicate (fun j hj => by omega)
      refine keeps_l2 s.size (by omega) G 0 l (by omega) hx true _ 0 ys rfl (by omega) hy1 (fun zs hz1 hz2 => ?_)
      rw [List.drop_zero] at hz2
      refine keeps_l4 s.size (by omega) G (by omega) hst hxG _ 0 zs rfl (by omega) hz1 (fun j hj => ?_) (fun ws hw1 hw2 => ?_)
      · rw [List.drop_zero] at hj
        have ho := honce (j : Int)
        have hc1 := cnt_range (j : Int) (sps l)
        have hc2 := cnt_range (j : Int) G
        have hin : j < s.size := by
          rcases Nat.lt_or_ge j s.size with h | h
          · exact h
          · rw [if_neg (by omega)] at ho; omega
        rw [if_pos (by omega)] at ho
        rw [hz2 j, hy2 j hin, decide_eq_true (by omega)]
        rfl
      · rw [List.drop_zero] at hw2
        refine keeps_l6 s.size (by omega) ws hw1 (fun j hj => ?_) _ 0 rfl (by omega)
        have ho := honce (j : Int)
        rw [if_pos (by omega)] at ho
        rw [hw2 j, hz2 j, hy2 j hj, Bool.true_and]
        by_cases c : cnt (j : Int) (sps l) = 0
        · rw [decide_eq_false (p := cnt (j : Int) G = 0) (by omega), Bool.and_false]
        · rw [decide_eq_false c, Bool.false_and]
    · have hck := ref_check_any (s.size : Int) l (by omega)
      have hk : Ev (fun k => diff_Kept.f k s l) ([], chkV (s.size : Int) l) := by
        unfold diff_Kept.f
        exact Ev.bind (edit_check_any (s.size : Int) l (by omega)) (Ev.neg hc (Ev.now_ _))
      refine Ev.bind hk (Ev.bind hck (Ev.neg hc (Ev.pos rfl (Ev.cast (Ev.now_ _) rfl))))
  | succ d ih =>
    intro i h1 h2
    have hi : i < l.length := by omega
    refine Ev.step (fun k => by rw [caulkerlaw04_DiffKeeps.l0]) (Ev.pos (by omega) (Ev.pos (by omega) (Ev.pos (by omega) ?_)))
    rw [wrap_succ hi (by omega)]
    exact Ev.ite (fun _ => Ev.now_ _) (fun _ => ih (i + 1) (by omega) (by omega))
theorem finds_any2 : Ev (fun k => caulkerlaw04_finds.f k) true := Ev.of (fun k => caulkerlaw04_finds.mono k) (k := 40) (by decide +kernel)
theorem DiffKeeps : caulkerlaw04_DiffKeeps.Pure := by
  intro a l
  intros
  apply Ev.rounds
  have go : ∀ q, (q = false → a.size ≤ 1000 ∧ l.length ≤ 60) → Ev (fun k => caulkerlaw04_DiffKeeps.j0 k a l q) true := by
    intro q hq
    refine Ev.step (fun k => by rw [caulkerlaw04_DiffKeeps.j0]) ?_
    cases q with
    | true => exact Ev.pos rfl (Ev.now_ _)
    | false => exact Ev.neg (by simp) (keeps_l0 a (hq rfl).1 l (hq rfl).2 _ 0 rfl (by omega))
  unfold caulkerlaw04_DiffKeeps.f
  refine Ev.bind finds_any2 (Ev.pos rfl (Ev.ite (fun _ => go _ (fun h => by cases h)) (fun h1 => go _ (fun h => ?_))))
  have := of_decide_eq_false h
  omega
end Go.Proofs.Ytoljmjhmieaggaa.Pure
