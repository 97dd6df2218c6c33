/- A graph in memory: what Add does to its blocks; no walk. -/
import Derived.Test.YtefgfnhhoidbdaaGraphW0
namespace Go.Proofs.Ytefgfnhhoidbdaa.GrW
open Go.RowKit Go.Proofs.YtefgfnhhoidbdaaW.PrintWords Go.Proofs.YtefgfnhhoidbdaaW.PrintLast Go.Proofs.Ytefgfnhhoidbdaa.X Go.Proofs.Ytefgfnhhoidbdaa.Gr
set_option linter.unusedVariables false
set_option linter.unusedSimpArgs false
/-- The blocks alone; what each node's list holds is told apart from the edges. -/
structure GM (g B mb cnt n : Nat) (ev : Value) (f : Int → Value) (es : List S29) (rw : Int → List Int) (W : World) : Prop where
  le : B ≤ g
  lem : B ≤ mb
  bk : W.heap[g]? = some (.cells #[.int .i64 n, ev, .map (some mb)] 88 (0, 0))
  row : Kd.R k29 29 W B (fun k => ev.ownBlock = some k) ev es
  map : MapV.Is Try.prog 3 mb cnt (.slice none 0 0) f W
  rows : ∀ v : Int, -1 ≤ v → v < n → Kd.R (Kd.int .i64) 3 W B (fun k => (f v).ownBlock = some k) (f v) (rw v)
  apart : ∀ u v : Int, -1 ≤ u → u < n → -1 ≤ v → v < n → u ≠ v → ∀ k, (f u).ownBlock = some k → (f v).ownBlock ≠ some k
theorem GA.mid {g B mb cnt n : Nat} {ev : Value} {f : Int → Value} {es : List S29} {W : World} (h : GA g B mb cnt n ev f es W) : GM g B mb cnt n ev f es (outI es) W := ⟨h.le, h.lem, h.bk, h.row, h.map, h.rows, h.apart⟩
section
variable {g B mb cnt n : Nat} {ev : Value} {f : Int → Value} {es : List S29} {rw : Int → List Int} {W W' : World}
theorem GM.own_lt (h : GM g B mb cnt n ev f es rw W) {k : Nat} (hk : Own g mb n ev f k) : B ≤ k ∧ k < W.heap.size := by
  rcases hk with rfl | rfl | hk | ⟨v, h1, h2, hk⟩
  · exact ⟨h.le, blk_lt h.bk⟩
  · exact ⟨h.lem, h.map.lt⟩
  · have := row_own h.row hk; exact ⟨this.1, this.2.1⟩
  · have := row_own (h.rows v h1 h2) hk; exact ⟨this.1, this.2.1⟩
theorem GM.step (h : GM g B mb cnt n ev f es rw W) (hm : ∀ k, Own g mb n ev f k → W'.heap[k]? = W.heap[k]?) : GM g B mb cnt n ev f es rw W' :=
  ⟨h.le, h.lem, (hm g (.inl rfl)).trans h.bk, Kd.R_move h.row (fun k hk => hm k (.inr (.inr (.inl hk)))), h.map.step (hm mb (.inr (.inl rfl))), fun v h1 h2 => Kd.R_move (h.rows v h1 h2) (fun k hk => hm k (.inr (.inr (.inr ⟨v, h1, h2, hk⟩)))), h.apart⟩
theorem GM.below (h : GM g B mb cnt n ev f es rw W) (hb : Below W.heap.size W W') : GM g B mb cnt n ev f es rw W' := h.step (fun k hk => hb.block k (h.own_lt hk).2)
/-- An own row, where what is made anew may be its own as well. -/
theorem R_wide {α : Type} {d : Kd α} {e base : Nat} {v : Value} {xs : List α} (h : Kd.R d e W base (fun k => v.ownBlock = some k) v xs) (hE : d.E = []) (N : Nat) : Kd.R d e W base (fun k => v.ownBlock = some k ∨ N ≤ k) v xs := by
  obtain ⟨h0, inner, ho, hr⟩ := h
  exact ⟨fun k hk => .inl hk, inner, ho, hr.imp_ (fun _ _ hp => d.M_mono (fun k hk => ⟨.inl hk.1, hk.2⟩) hp)⟩
theorem GM.nslice (h : GM g B mb cnt n ev f es rw W) {k : Nat} {t : Nat} {cells : Array Value} (ht : t ≠ 88) (hk : W.heap[k]? = some (.cells cells t (0, 0))) : k ≠ g ∧ k ≠ mb := by
  refine ⟨?_, ?_⟩
  · rintro rfl
    rw [h.bk] at hk
    injection hk with hk
    injection hk with _ hk
    exact ht hk.symm
  · rintro rfl
    obtain ⟨ms, c, hc⟩ := h.map.block
    rw [hc] at hk
    cases hk
/-- A number more in a node's list. -/
theorem GM.put (h : GM g B mb cnt n ev f es rw W) {u : Int} (hu0 : -1 ≤ u) (hu1 : u < n) {v1 : Value} {w1 : World} {x : Int} {ok : Nat → Prop}
    (ho : Kd.R (Kd.int .i64) 3 w1 B ok v1 (rw u ++ [x])) (hg : W.grownBy w1 (f u).ownBlock) (hat : v1.ownBlock = (f u).ownBlock ∨ ∃ b, v1.ownBlock = some b ∧ W.heap.size ≤ b) :
    MapV.Is Try.prog 3 mb cnt (.slice none 0 0) f w1 ∧ ∀ W2, MapV.Is Try.prog 3 mb (cnt + 1) (.slice none 0 0) (fun j => if j = u then v1 else f j) W2 → w1.grownBy W2 (some mb) →
      GM g B mb (cnt + 1) n ev (fun j => if j = u then v1 else f j) es (fun j => if j = u then rw u ++ [x] else rw j) W2 := by
  have h3 : ∀ k, Own g mb n ev (fun j => if j = u then .slice none 0 0 else f j) k → w1.heap[k]? = W.heap[k]? := by
    intro k hk
    have hlt : k < W.heap.size := by
      rcases hk with rfl | rfl | hk | ⟨v, h1, h2, hk⟩
      · exact (h.own_lt (.inl rfl)).2
      · exact (h.own_lt (.inr (.inl rfl))).2
      · exact (h.own_lt (.inr (.inr (.inl hk)))).2
      · dsimp only at hk
        by_cases e : v = u
        · rw [if_pos e] at hk; cases hk
        · rw [if_neg e] at hk; exact (h.own_lt (.inr (.inr (.inr ⟨v, h1, h2, hk⟩)))).2
    refine hg.block k hlt (fun e => ?_)
    obtain ⟨_, _, cells, hc⟩ := row_own (h.rows u hu0 hu1) e.symm
    have hn := h.nslice (by decide) hc
    rcases hk with rfl | rfl | hk | ⟨v, h1, h2, hk⟩
    · exact hn.1 rfl
    · exact hn.2 rfl
    · obtain ⟨_, _, cells2, hc2⟩ := row_own h.row hk
      rw [hc] at hc2
      injection hc2 with hc2
      injection hc2 with _ hc2
      exact absurd hc2 (by decide)
    · dsimp only at hk
      by_cases e2 : v = u
      · rw [if_pos e2] at hk; cases hk
      · rw [if_neg e2] at hk; exact h.apart v u h1 h2 hu0 hu1 e2 k hk e.symm
  have hm1 : MapV.Is Try.prog 3 mb cnt (.slice none 0 0) f w1 := h.map.step (h3 mb (.inr (.inl rfl)))
  refine ⟨hm1, fun W2 hm2 hg2 => ?_⟩
  have h4 : ∀ k, Own g mb n ev (fun j => if j = u then .slice none 0 0 else f j) k → k ≠ mb → W2.heap[k]? = W.heap[k]? := by
    intro k hk hne
    have hlt : k < W.heap.size := by
      rcases hk with rfl | rfl | hk | ⟨v, h1, h2, hk⟩
      · exact (h.own_lt (.inl rfl)).2
      · exact (h.own_lt (.inr (.inl rfl))).2
      · exact (h.own_lt (.inr (.inr (.inl hk)))).2
      · dsimp only at hk
        by_cases e : v = u
        · rw [if_pos e] at hk; cases hk
        · rw [if_neg e] at hk; exact (h.own_lt (.inr (.inr (.inr ⟨v, h1, h2, hk⟩)))).2
    exact (hg2.block k (Nat.lt_of_lt_of_le hlt hg.size) (fun e => hne (Option.some.inj e))).trans (h3 k hk)
  have hgm : g ≠ mb := by
    rintro rfl
    obtain ⟨ms, c, hc⟩ := h.map.block
    rw [h.bk] at hc
    cases hc
  refine ⟨h.le, h.lem, (h4 g (.inl rfl) hgm).trans h.bk, Kd.R_move h.row (fun k hk => ?_), hm2, fun v h1 h2 => ?_, ?_⟩
  · obtain ⟨_, _, cells2, hc2⟩ := row_own h.row hk
    exact h4 k (.inr (.inr (.inl hk))) (h.nslice (by decide) hc2).2
  · by_cases e : v = u
    · subst e
      simp only [if_true]
      refine Kd.R_move (R_exact ho rfl) (fun k hk => ?_)
      obtain ⟨_, hk2, cells2, hc2⟩ := row_own ho hk
      refine hg2.block k hk2 (fun e => ?_)
      obtain ⟨ms, c, hc⟩ := hm1.block
      obtain rfl := Option.some.inj e
      rw [hc] at hc2
      cases hc2
    · simp only [if_neg e]
      refine Kd.R_move (h.rows v h1 h2) (fun k hk => ?_)
      obtain ⟨_, _, cells2, hc2⟩ := row_own (h.rows v h1 h2) hk
      exact h4 k (.inr (.inr (.inr ⟨v, h1, h2, by dsimp only; rw [if_neg e]; exact hk⟩))) (h.nslice (by decide) hc2).2
  · intro p q hp0 hp1 hq0 hq1 hne k hk
    by_cases e1 : p = u
    · subst e1
      rw [if_neg (Ne.symm hne)]
      rw [if_pos rfl] at hk
      rcases hat with hat | ⟨b, hb, hle⟩
      · rw [hat] at hk; exact h.apart p q hp0 hp1 hq0 hq1 hne k hk
      · rw [hb] at hk
        intro e
        have := (h.own_lt (.inr (.inr (.inr ⟨q, hq0, hq1, e⟩)))).2
        injection hk with hk
        omega
    · rw [if_neg e1] at hk
      by_cases e2 : q = u
      · subst e2
        rw [if_pos rfl]
        rcases hat with hat | ⟨b, hb, hle⟩
        · rw [hat]; exact h.apart p q hp0 hp1 hq0 hq1 hne k hk
        · rw [hb]
          intro e
          have := (h.own_lt (.inr (.inr (.inr ⟨p, hp0, hp1, hk⟩)))).2
          injection e with e
          omega
      · rw [if_neg e2]; exact h.apart p q hp0 hp1 hq0 hq1 hne k hk
/-- An edge more. -/
theorem GM.push (h : GM g B mb cnt n ev f es rw W) {v1 : Value} {w1 : World} {x : S29} {ok : Nat → Prop}
    (ho : Kd.R k29 29 w1 B ok v1 (es ++ [x])) (hg : W.grownBy w1 ev.ownBlock) :
    w1.heap[g]? = some (.cells #[.int .i64 n, ev, .map (some mb)] 88 (0, 0)) ∧ ∀ W2, W2 = w1.setCell ⟨g, 1, none⟩ v1 → GM g B mb cnt n v1 f (es ++ [x]) rw W2 := by
  have h3 : ∀ k, Own g mb n (.slice none 0 0) f k → w1.heap[k]? = W.heap[k]? := by
    intro k hk
    have hlt : k < W.heap.size := by
      rcases hk with rfl | rfl | hk | hk
      · exact (h.own_lt (.inl rfl)).2
      · exact (h.own_lt (.inr (.inl rfl))).2
      · cases hk
      · exact (h.own_lt (.inr (.inr (.inr hk)))).2
    refine hg.block k hlt (fun e => ?_)
    obtain ⟨_, _, cells, hc⟩ := row_own h.row e.symm
    have hn := h.nslice (by decide) hc
    rcases hk with rfl | rfl | hk | ⟨v, h1, h2, hk⟩
    · exact hn.1 rfl
    · exact hn.2 rfl
    · cases hk
    · obtain ⟨_, _, cells2, hc2⟩ := row_own (h.rows v h1 h2) hk
      rw [hc] at hc2
      injection hc2 with hc2
      injection hc2 with _ hc2
      exact absurd hc2 (by decide)
  have hbk1 := (h3 g (.inl rfl)).trans h.bk
  refine ⟨hbk1, ?_⟩
  rintro W2 rfl
  have hset : ∀ k, k ≠ g → (w1.setCell ⟨g, 1, none⟩ v1).heap[k]? = w1.heap[k]? := fun k hk => Below.heap_setCell w1 ⟨g, 1, none⟩ v1 k hk
  refine ⟨h.le, h.lem, blk_put hbk1 1 _ rfl, Kd.R_move (R_exact ho rfl) (fun k hk => ?_), h.map.step ?_, fun v h1 h2 => Kd.R_move (h.rows v h1 h2) (fun k hk => ?_), h.apart⟩
  · obtain ⟨_, hk2, cells2, hc2⟩ := row_own ho hk
    refine hset k ?_
    rintro rfl
    rw [hbk1] at hc2
    injection hc2 with hc2
    injection hc2 with _ hc2
    exact absurd hc2 (by decide)
  · refine (hset mb ?_).trans (h3 mb (.inr (.inl rfl)))
    rintro rfl
    obtain ⟨ms, c, hc⟩ := h.map.block
    rw [h.bk] at hc
    cases hc
  · obtain ⟨_, _, cells2, hc2⟩ := row_own (h.rows v h1 h2) hk
    exact (hset k (h.nslice (by decide) hc2).1).trans (h3 k (.inr (.inr (.inr ⟨v, h1, h2, hk⟩))))
theorem Fm_lt (es : List S29) (x : S29) {k : Nat} (h : k < es.length) : Fm (es ++ [x]) k = Fm es k := by
  unfold Fm; rw [List.getD_eq_getElem?_getD, List.getElem?_append_left h, ← List.getD_eq_getElem?_getD]
theorem Tm_lt (es : List S29) (x : S29) {k : Nat} (h : k < es.length) : Tm (es ++ [x]) k = Tm es k := by
  unfold Tm; rw [List.getD_eq_getElem?_getD, List.getElem?_append_left h, ← List.getD_eq_getElem?_getD]
theorem Fm_last (es : List S29) (x : S29) : Fm (es ++ [x]) es.length = x.f0 := by
  unfold Fm; rw [List.getD_eq_getElem?_getD, List.getElem?_append_right (Nat.le_refl _), Nat.sub_self]; rfl
theorem Tm_last (es : List S29) (x : S29) : Tm (es ++ [x]) es.length = x.f1 := by
  unfold Tm; rw [List.getD_eq_getElem?_getD, List.getElem?_append_right (Nat.le_refl _), Nat.sub_self]; rfl
theorem outI_snoc (es : List S29) (x : S29) (v : Int) : outI (es ++ [x]) v = if v = x.f0 then outI es v ++ [(es.length : Int)] else outI es v := by
  have e : outL (es ++ [x]).length (Fm (es ++ [x])) v = outL es.length (Fm es) v ++ if v = x.f0 then [es.length] else [] := by
    unfold outL
    rw [List.length_append, List.length_singleton, List.range_succ, List.filter_append]
    congr 1
    · exact List.filter_congr (fun k hk => by rw [Fm_lt es x (List.mem_range.1 hk)])
    · rw [List.filter_cons, Fm_last, List.filter_nil]
      by_cases e : v = x.f0
      · rw [if_pos e, e]; simp
      · rw [if_neg e, if_neg (by simpa using Ne.symm e)]
  unfold outI
  rw [e, List.map_append]
  by_cases e : v = x.f0
  · rw [if_pos e, if_pos e]; rfl
  · rw [if_neg e, if_neg e]; simp
theorem GM.ga {x : S29} (h : GM g B mb cnt n ev f (es ++ [x]) (fun j => if j = x.f0 then outI es x.f0 ++ [(es.length : Int)] else outI es j) W) (hc : cnt ≤ es.length + 1) (hn : n ≤ 8192) (hm : es.length < 16384) (hv : ∀ k, k < es.length → -1 ≤ Fm es k ∧ Fm es k < n ∧ 0 ≤ Tm es k ∧ Tm es k < n)
    (h0 : -1 ≤ x.f0) (h1 : x.f0 < n) (h2 : 0 ≤ x.f1) (h3 : x.f1 < n) : GA g B mb cnt n ev f (es ++ [x]) W := by
  refine ⟨h.le, h.lem, h.bk, h.row, h.map, fun v a b => ?_, h.apart, by rw [List.length_append, List.length_singleton]; exact hc, hn, by rw [List.length_append, List.length_singleton]; exact hm, fun k hk => ?_⟩
  · have := h.rows v a b
    rw [outI_snoc]
    by_cases e : v = x.f0
    · subst e
      rw [if_pos rfl] at this ⊢
      exact this
    · rw [if_neg e] at this ⊢
      exact this
  · rw [List.length_append, List.length_singleton] at hk
    by_cases e : k < es.length
    · rw [Fm_lt es x e, Tm_lt es x e]; exact hv k e
    · obtain rfl : k = es.length := by omega
      rw [Fm_last, Tm_last]
      exact ⟨h0, h1, h2, h3⟩
end
end Go.Proofs.Ytefgfnhhoidbdaa.GrW
