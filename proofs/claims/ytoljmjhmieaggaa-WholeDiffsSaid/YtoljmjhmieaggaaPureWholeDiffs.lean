/- By way of a third text: the edits in one step make the third text and cost no less than those straight there; taken back they make the first; and what is kept is in both: as the statement WholeDiffs says; every input. -/
import Derived.Test.YtoljmjhmieaggaaX10
import Derived.Test.YtoljmjhmieaggaaM45
import Derived.Test.YtoljmjhmieaggaaPureThenLib
import Derived.Test.YtoljmjhmieaggaaPureMove
import Derived.Test.YtoljmjhmieaggaaPureKept
namespace Go.Proofs.Ytoljmjhmieaggaa.Pure
open Go.RowKit Go.Proofs.Ytoljmjhmieaggaa.X Go.Proofs.YtoljmjhmieaggaaW.PrintWords Go.Proofs.YtoljmjhmieaggaaW.PrintLast Go.Diff Go.Proofs.Ytoljmjhmieaggaa.Ed
/-- How many bytes spans hold. -/
def tot : List S39 → Int
  | [] => 0
  | s :: l => (s.f1 - s.f0) + tot l
theorem tot_pos : ∀ {G : List S39}, (∀ g ∈ G, g.f0 ≤ g.f1) → 0 ≤ tot G
  | [], _ => Int.le_refl _
  | s :: l, h => by
    have i := tot_pos (fun g hg => h g (List.mem_cons_of_mem _ hg))
    have := h s List.mem_cons_self
    rw [tot]
    omega
theorem gap_tot {n : Int} : ∀ {P : List S39} {a : Int}, gSrt n a P → tot P + tot (gapL a (P ++ [⟨n, n⟩])) = n - a
  | [], a, h => by
    have h' : a ≤ n := h
    rw [List.nil_append, gapL, gapL, List.append_nil, tot]
    by_cases c : a < n
    · rw [if_pos c, tot, tot]
      show 0 + (n - a + 0) = n - a
      omega
    · rw [if_neg c, tot]
      omega
  | s :: P, a, h => by
    obtain ⟨h1, h2, h3, h4⟩ := h
    have i := gap_tot h4
    rw [List.cons_append, gapL, tot]
    by_cases c : a < s.f0
    · rw [if_pos c, List.singleton_append, tot]
      show s.f1 - s.f0 + tot P + (s.f0 - a + tot (gapL s.f1 (P ++ [⟨n, n⟩]))) = n - a
      omega
    · rw [if_neg c, List.nil_append]
      omega
theorem sps_tot : ∀ {l : List S41}, (∀ x ∈ l, 0 ≤ x.f0.f0 ∧ x.f0.f0 ≤ x.f0.f1) → tot (sps l) = ((takes (l.map toE) : Nat) : Int)
  | [], _ => rfl
  | x :: l, h => by
    have i := sps_tot (fun y hy => h y (List.mem_cons_of_mem _ hy))
    obtain ⟨g1, g2⟩ := h x List.mem_cons_self
    have e1 : ((toE x).a : Int) = x.f0.f0 := Int.toNat_of_nonneg g1
    have e2 : ((toE x).b : Int) = x.f0.f1 := Int.toNat_of_nonneg (Int.le_trans g1 g2)
    rw [sps_cons, List.map_cons, takes]
    by_cases c : x.f0.f0 < x.f0.f1
    · rw [if_pos c, List.singleton_append, tot, i]
      omega
    · rw [if_neg c, List.nil_append, i]
      omega
theorem kept_of {j : Int} : ∀ {l : List S41}, cnt j (sps l) = 0 → ∀ x ∈ l, ¬ (x.f0.f0 ≤ j ∧ j < x.f0.f1)
  | [], _, x, hx => by simp at hx
  | y :: l, h, x, hx => by
    rw [sps_cons, cnt_append] at h
    have r1 := cnt_range j (if y.f0.f0 < y.f0.f1 then [y.f0] else [])
    have r2 := cnt_range j (sps l)
    rcases List.mem_cons.1 hx with rfl | hx
    · intro c
      rw [if_pos (by omega), cnt, if_pos c, cnt] at h
      omega
    · exact kept_of (by omega) x hx
theorem cnt_in {j : Int} : ∀ {G : List S39} {g : S39}, g ∈ G → g.f0 ≤ j → j < g.f1 → 1 ≤ cnt j G
  | [], g, hg, _, _ => by simp at hg
  | s :: l, g, hg, h1, h2 => by
    have r := cnt_range j l
    rw [cnt]
    rcases List.mem_cons.1 hg with rfl | hg
    · rw [if_pos ⟨h1, h2⟩]
      omega
    · have := cnt_in hg h1 h2
      by_cases c : s.f0 ≤ j ∧ j < s.f1
      · rw [if_pos c]; omega
      · rw [if_neg c]; omega
theorem whole_l1 (a c : ByteArray) (ha : a.size ≤ 65536) (z : List S41) (hz : applyV a z = (c, 0)) (G : List S39) (len gi f0 : Int) (t : Nat) (ht : t ≤ a.size) : ∀ (d p n : Nat), t - p = d → p ≤ t → n ≤ p → (∀ q : Nat, p ≤ q → q < t → ∀ x ∈ z, ¬ (x.f0.f0 ≤ (q : Int) ∧ (q : Int) < x.f0.f1)) →
    Ev (fun k => caulkertop_WholeDiffs.l0 k a c z ((n + (t - p) : Nat) : Int) G len (wrap64 (gi + 1))) true →
    Ev (fun k => caulkertop_WholeDiffs.l1 k a c z (n : Int) (p : Int) G len gi f0 (t : Int)) true := by
  have hz2 : (applyV a z).2 = 0 := by rw [hz]
  obtain ⟨_, hP, _, hap⟩ := applied hz2
  rw [hz] at hap
  have hcl : c.data.toList = app a.data.toList 0 (z.map toE) := by
    have := congrArg (fun s : ByteArray => s.data.toList) hap
    simpa using this
  have la : a.data.toList.length = a.size := Array.length_toList
  have lc : c.data.toList.length = c.size := Array.length_toList
  have hv : Val a.data.toList.length 0 (z.map toE) := by rw [la]; exact hP.val
  intro d
  induction d with
  | zero =>
    intro p n h1 h2 h3 _ hr
    rw [show n + (t - p) = n by omega] at hr
    exact Ev.step (fun k => by rw [caulkertop_WholeDiffs.l1]) (Ev.neg (by omega) hr)
  | succ d ih =>
    intro p n h1 h2 h3 hk hr
    have hpk := hk p (Nat.le_refl _) (by omega)
    have hkE : ∀ x ∈ z.map toE, ¬ (x.a ≤ p ∧ p < x.b) := by
      intro x hx
      obtain ⟨y, hy, rfl⟩ := List.mem_map.1 hx
      obtain ⟨g0, g1, _⟩ := hP.ok y hy
      have e1 : ((toE y).a : Int) = y.f0.f0 := Int.toNat_of_nonneg g0
      have e2 : ((toE y).b : Int) = y.f0.f1 := Int.toNat_of_nonneg (Int.le_trans g0 g1)
      have := hpk y hy
      omega
    have hm := mv_app hv (Nat.zero_le p) hkE
    rw [← hcl] at hm
    have hml : mvN 0 (z.map toE) p < c.size := by
      rw [List.getElem?_eq_getElem (l := a.data.toList) (i := p) (by omega)] at hm
      have := (List.getElem?_eq_some_iff.1 hm).1
      omega
    have hbt := (bt_eq (s := c) (t := a) hml (show p < a.size by omega)).2 hm
    refine Ev.step (fun k => by rw [caulkertop_WholeDiffs.l1]) (Ev.pos (by omega) (Ev.bind (move_any a z hz2 p (by omega) hpk) ?_))
    dsimp only
    refine Ev.pos rfl (Ev.neg (by omega) (Ev.pos (by omega) (Ev.pos (by omega) (Ev.pos (by omega) (Ev.pos (by omega) (Ev.pos hbt ?_))))))
    rw [wrap_succ (i := n) (n := n + 1) (by omega) (by omega), wrap_succ (i := p) (n := p + 1) (by omega) (by omega)]
    refine ih (p + 1) (n + 1) (by omega) (by omega) (by omega) (fun q hq1 hq2 => hk q (by omega) hq2) ?_
    rw [show n + 1 + (t - (p + 1)) = n + (t - p) by omega]
    exact hr
theorem whole_l0 (a c : ByteArray) (ha : a.size ≤ 65536) (hc : c.size ≤ 65536) (z : List S41) (hz : applyV a z = (c, 0)) (cost : Int) (hcost : Ev (fun k => edit_Cost.f k z) cost) (G : List S39) (hG : G.length ≤ 1000000)
    (hx : ∀ g ∈ G, 0 ≤ g.f0 ∧ g.f0 ≤ g.f1 ∧ g.f1 ≤ a.size ∧ ∀ q : Nat, g.f0 ≤ (q : Int) → (q : Int) < g.f1 → ∀ x ∈ z, ¬ (x.f0.f0 ≤ (q : Int) ∧ (q : Int) < x.f0.f1)) {b : Int} (hst : gStrict b G) : ∀ (d i n : Nat), G.length - i = d → i ≤ G.length → (∀ g ∈ G.drop i, (n : Int) ≤ g.f0) → n ≤ a.size → (a.size : Int) + (c.size : Int) - 2 * ((n : Int) + tot (G.drop i)) = cost →
    Ev (fun k => caulkertop_WholeDiffs.l0 k a c z (n : Int) G (G.length : Int) (i : Int)) true := by
  intro d
  induction d with
  | zero =>
    intro i n h1 h2 h3 h4 h5
    refine Ev.step (fun k => by rw [caulkertop_WholeDiffs.l0]) (Ev.neg (by omega) (Ev.bind hcost (Ev.cast (Ev.now_ _) ?_)))
    rw [List.drop_eq_nil_of_le (by omega), tot] at h5
    rw [wrap_id (i := 2 * (n : Int)) (by omega) (by omega), wrap_id (i := (a.size : Int) + (c.size : Int)) (by omega) (by omega), wrap_id (by omega) (by omega), beq_iff_eq]
    omega
  | succ d ih =>
    intro i n h1 h2 h3 h4 h5
    have hi : i < G.length := by omega
    have ed : G.drop i = G[i] :: G.drop (i + 1) := List.drop_eq_getElem_cons hi
    obtain ⟨g0, g1, g2, g3⟩ := hx _ (List.getElem_mem hi)
    have e1 : (G[i].f0.toNat : Int) = G[i].f0 := Int.toNat_of_nonneg g0
    have e2 : (G[i].f1.toNat : Int) = G[i].f1 := Int.toNat_of_nonneg (Int.le_trans g0 g1)
    have hn := h3 G[i] (by rw [ed]; exact List.mem_cons_self)
    obtain ⟨b', hst'⟩ := strict_drop (i := i) hst
    rw [ed] at hst' h5
    refine Ev.step (fun k => by rw [caulkertop_WholeDiffs.l0]) (Ev.pos (by omega) (Ev.pos (by omega) (Ev.pos (by omega) ?_)))
    rw [rd39_lt hi]
    have := whole_l1 a c ha z hz G (G.length : Int) (i : Int) G[i].f0 G[i].f1.toNat (by omega) _ G[i].f0.toNat n rfl (by omega) (by omega) (fun q hq1 hq2 => g3 q (by omega) (by omega)) (by
      rw [wrap_succ hi (by omega)]
      refine ih (i + 1) _ (by omega) (by omega) (fun g hg => ?_) (by omega) ?_
      · have : ∀ {b : Int} {L : List S39}, gStrict b L → ∀ g ∈ L, b < g.f0 := by
          intro b L
          induction L generalizing b with
          | nil => intro _ g hg; simp at hg
          | cons x L ih2 =>
            intro h g hg
            rcases List.mem_cons.1 hg with rfl | hg
            · exact h.1
            · have h1 := ih2 h.2.2 g hg
              have h2 := h.1
              have h3 := h.2.1
              omega
        have := this hst'.2.2 g hg
        omega
      · rw [tot] at h5
        omega)
    rw [e1, e2] at this
    exact this
theorem WholeDiffs : caulkertop_WholeDiffs.Pure := by
  intro a b c
  intros
  apply Ev.rounds
  have far1 : Ev (fun k => diff_Far.f k (⟨#[97, 98]⟩ : ByteArray) (⟨#[98]⟩ : ByteArray)) (1, true) := Ev.of (fun k => diff_Far.mono _ _ k) (k := 40) (by decide +kernel)
  unfold caulkertop_WholeDiffs.f
  refine Ev.bind far1 (Ev.pos rfl (Ev.step (fun k => by rw [caulkertop_WholeDiffs.j0]) (Ev.neg (by simp) ?_)))
  have yes : Ev (fun k => caulkertop_WholeDiffs.j1 k a b c true) true := Ev.step (fun k => by rw [caulkertop_WholeDiffs.j1]) (Ev.pos rfl (Ev.now_ _))
  refine Ev.ite (fun _ => yes) (fun ha => Ev.ite (fun _ => yes) (fun hb => ?_))
  by_cases hc : (c.size : Int) > 120
  · rw [decide_eq_true hc]
    exact yes
  rw [decide_eq_false hc]
  obtain ⟨x, ok1, D1, q1, m1⟩ := bytes_ev a b (by omega) (by omega)
  obtain ⟨y, ok2, D2, q2, m2⟩ := bytes_ev b c (by omega) (by omega)
  obtain ⟨z, ok3, D3, q3, m3⟩ := bytes_ev a c (by omega) (by omega)
  have b3 := m3.dist.bounds
  have ok : ok3 = true := by rw [m3.far, decide_eq_true_iff]; omega
  subst ok
  have hx := m1.apply (by omega) (by omega)
  have hy := m2.apply (by omega) (by omega)
  have hz := m3.apply (by omega) (by omega)
  have hx2 : (applyV a (x.map ofE)).2 = 0 := by rw [hx]
  have hy2 : (applyV (applyV a (x.map ofE)).1 (y.map ofE)).2 = 0 := by rw [hx, hy]
  have l1 := m1.len
  have l2 := m2.len
  obtain ⟨k1, k2⟩ := then_ok (by omega) hx2 hy2
  have hth := then_any a (by omega) (x.map ofE) (y.map ofE) (by rw [List.length_map]; omega) (by rw [List.length_map]; omega)
  unfold thenV at hth
  rw [if_pos hx2, if_pos hy2] at hth
  have hT : (applyV a ((thenB a (x.map ofE) (y.map ofE)).map ofE)).2 = 0 := by rw [k1]; exact hy2
  obtain ⟨t1, t2, _, t4, _, t6, t7, _⟩ := tidied hT
  rw [map_toE_ofE] at t1 t2 t4 t6 t7
  rw [map_toE_ofE, map_toE_ofE] at k2
  have hboth : applyV a ((tidy a.data.toList [] (thenB a (x.map ofE) (y.map ofE))).map ofE) = (c, 0) := by rw [t1, k1, hx]; exact hy
  obtain ⟨T, eT⟩ : ∃ T, T = tidy a.data.toList [] (thenB a (x.map ofE) (y.map ofE)) := ⟨_, rfl⟩
  rw [← eT] at hth t2 t4 t6 t7 hboth
  have hb2 : (applyV a (T.map ofE)).2 = 0 := by rw [hboth]
  have hTl : (T.map ofE).length ≤ 9223372036854775807 := by have := t2.len; omega
  have hcT : Ev (fun k => edit_Cost.f k (T.map ofE)) ((puts T + takes T : Nat) : Int) := by
    have := cost_any t2
    rwa [map_toE_ofE] at this
  have happ : app a.data.toList 0 T = c.data.toList := by
    have := (applied hb2).2.2.2
    rw [hboth, map_toE_ofE] at this
    have := congrArg (fun s : ByteArray => s.data.toList) this
    simpa using this.symm
  have hleast := dist_least m3.dist t4 happ
  have c3 := m3.cost rfl
  have bx := m1.most
  have by2 := m2.most
  have bz := m3.most
  obtain ⟨i1, i2, i3⟩ := back_ok hb2
  have hinv := invert_any a (T.map ofE) hTl
  rw [i1] at hinv
  rw [hboth] at i2
  have hfin : Ev (fun k => caulkertop_WholeDiffs.j3 k a c (z.map ofE) false) true := by
    have hch := m3.check (by omega) (by omega)
    have hcost := m3.cost_ev (by omega) (by omega)
    have hz2 : (applyV a (z.map ofE)).2 = 0 := by rw [hz]
    obtain ⟨_, hP, _, _⟩ := applied hz2
    have hok : ∀ x ∈ z.map ofE, 0 ≤ x.f0.f0 ∧ x.f0.f0 ≤ x.f0.f1 := fun x hx => ⟨(hP.ok x hx).1, (hP.ok x hx).2.1⟩
    have hS : gSrt (a.size : Int) 0 (sps (z.map ofE)) := sps_srt hok hP.val
    have l3 := m3.len
    have l4 := sps_length (z.map ofE)
    have l5 := gapL_length (sps (z.map ofE) ++ [⟨(a.size : Int), (a.size : Int)⟩]) 0
    rw [List.length_append, List.length_singleton] at l5
    rw [List.length_map] at l4
    have hst := gap_strict (sps_some (z.map ofE)) hS
    have hfar := (gap_far hS).2
    have htot := gap_tot hS
    rw [sps_tot hok, map_toE_ofE] at htot
    have hAL := app_length (s := a.data.toList) (l := z) (at_ := 0) (by rw [show a.data.toList.length = a.size from Array.length_toList]; exact m3.val)
    rw [m3.app] at hAL
    have la : a.data.toList.length = a.size := Array.length_toList
    have lc : c.data.toList.length = c.size := Array.length_toList
    refine Ev.step (fun k => by rw [caulkertop_WholeDiffs.j3]) (Ev.neg (by simp) (Ev.bind (kept_ev a (z.map ofE) (by rw [List.length_map]; omega) (by omega) hch) (Ev.pos rfl ?_)))
    refine whole_l0 a c (by omega) (by omega) (z.map ofE) hz _ hcost _ (by omega) (fun g hg => ?_) hst _ 0 0 rfl (by omega) (fun g hg => ?_) (by omega) ?_
    · obtain ⟨f1, f2, f3⟩ := hfar g hg
      refine ⟨f1, f2, f3, fun q hq1 hq2 => kept_of ?_⟩
      have ho := cnt_once (j := (q : Int)) hS
      have hin := cnt_in hg hq1 hq2
      have r := cnt_range (q : Int) (sps (z.map ofE))
      rw [if_pos (by omega)] at ho
      omega
    · rw [List.drop_zero] at hg
      exact (hfar g hg).1
    · rw [List.drop_zero]
      omega
  refine Ev.step (fun k => by rw [caulkertop_WholeDiffs.j1]) (Ev.neg (by simp) (Ev.bind q1 (Ev.bind q2 (Ev.bind q3 (Ev.bind hth (Ev.pos (show wrap64 (wrap64 (wrap64 ((0 : Int) + 0) + 0) + 0) = 0 by decide +kernel) ?_))))))
  refine Ev.step (fun k => by rw [caulkertop_WholeDiffs.j2]) (Ev.neg (by simp) (Ev.bind (apply_any a (T.map ofE) hTl) (Ev.bind hinv (Ev.bind (apply_any c _ (by rw [i3]; exact hTl)) ?_))))
  rw [hboth, i2]
  refine Ev.pos (show wrap64 (wrap64 ((0 : Int) + 0) + 0) = 0 by decide +kernel) (Ev.pos rfl (Ev.pos rfl (Ev.bind hcT (Ev.bind (m3.cost_ev (by omega) (by omega)) (Ev.neg (by omega) (Ev.bind hcT (Ev.bind (m1.cost_ev (by omega) (by omega)) (Ev.bind (m2.cost_ev (by omega) (by omega)) ?_))))))))
  rw [decide_eq_false (by rw [wrap_id (by omega) (by omega)]; omega)]
  exact hfin
end Go.Proofs.Ytoljmjhmieaggaa.Pure
