/- The fronts, one after the other, till one comes to both ends, or there are too many; any texts that aren't too long. -/
import Derived.Test.YtoljmjhmieaggaaX26
import Derived.Test.YtoljmjhmieaggaaPureDiffWay
namespace Go.Proofs.Ytoljmjhmieaggaa.Pure
open Go.RowKit Go.Proofs.Ytoljmjhmieaggaa.X Go.Proofs.YtoljmjhmieaggaaW.PrintWords Go.Proofs.YtoljmjhmieaggaaW.PrintLast Go.Diff
theorem rd_set {f : List Int} {i : Nat} {v : Int} (hi : i < f.length) (j : Int) (hj : 0 ≤ j) : rd (f.set i v) j = if j = i then v else rd f j := by
  unfold rd
  rw [List.getD_eq_getElem?_getD, List.getD_eq_getElem?_getD, List.getElem?_set]
  by_cases h : j = i
  · rw [if_pos h, if_pos (by omega), if_pos hi]
    rfl
  · rw [if_neg h, if_neg (by omega)]
theorem rdL1_append {l : List (List Int)} {f : List Int} {e : Nat} : rd_L1 (l ++ [f]) (e : Int) = if e < l.length then rd_L1 l (e : Int) else if e = l.length then f else rd_L1 [] 0 := by
  simp only [rd_L1, List.getD_eq_getElem?_getD, Int.toNat_natCast]
  by_cases h : e < l.length
  · rw [if_pos h, List.getElem?_append_left h]
  · rw [if_neg h]
    by_cases h2 : e = l.length
    · subst h2
      rw [if_pos rfl]
      simp
    · rw [if_neg h2, List.getElem?_eq_none (by simp; omega)]
      rfl
/-- What a run ends in. -/
def endF (x y : ByteArray) (past : List (List Int)) (d : Int) (f : List Int) (k i j : Int) (n : Nat) : Option ((List (S63)) × Bool) :=
  if 0 ≤ (wrap64 ((wrap64 (k + d)) + 1)) then (if (wrap64 ((wrap64 (k + d)) + 1)) < (f.length : Int) then ((some (f.set ((wrap64 ((wrap64 (k + d)) + 1)) : Int).toNat i : List Int)).bind fun y147 => (if i ≥ (x.size : Int) then (if j ≥ (y.size : Int) then (if past.length < 5864062014805 then ((diff_back.f n x y (past ++ [y147])).bind fun t151 => (some (t151, true))) else (none)) else (diff_common.l1 n x y past d y147 (wrap64 (k + 2)))) else (diff_common.l1 n x y past d y147 (wrap64 (k + 2))))) else (none)) else (none)
theorem run_ev (x y : ByteArray) (hx : x.size ≤ 1000000) (hy : y.size ≤ 1000000) (past : List (List Int)) (d : Int) (f : List Int) (k : Int) (r : (List (S63)) × Bool) : ∀ (s a b : Nat), (∀ t, t < s → a + t < x.size ∧ b + t < y.size ∧ same x y (a + t) (b + t)) → ¬ (a + s < x.size ∧ b + s < y.size ∧ same x y (a + s) (b + s)) → a + s ≤ 100000000 → b + s ≤ 100000000 →
    Ev (endF x y past d f k ((a + s : Nat) : Int) ((b + s : Nat) : Int)) r → Ev (fun n => diff_common.l2 n x y past d f k (a : Int) (b : Int)) r
  | 0, a, b, _, hn, _, _, h => by
    refine Ev.step (fun n => by rw [diff_common.l2]) (Ev.pos (by omega) (Ev.pos (by omega) ?_))
    refine Ev.ite (fun h1 => Ev.ite (fun h2 => Ev.pos (by omega) (Ev.pos (by omega) (Ev.neg (fun h3 => hn ⟨by omega, by omega, h3⟩) h))) (fun _ => h)) (fun _ => h)
  | s + 1, a, b, ha, hn, hA, hB, h => by
    have h0 := ha 0 (by omega)
    have w1 : wrap64 ((a : Int) + 1) = ((a + 1 : Nat) : Int) := by rw [wrap_id (by omega) (by omega)]; omega
    have w2 : wrap64 ((b : Int) + 1) = ((b + 1 : Nat) : Int) := by rw [wrap_id (by omega) (by omega)]; omega
    have ih := run_ev x y hx hy past d f k r s (a + 1) (b + 1) (fun t ht => by have := ha (t + 1) (by omega); rwa [show a + (t + 1) = a + 1 + t by omega, show b + (t + 1) = b + 1 + t by omega] at this) (by rwa [show a + (s + 1) = a + 1 + s by omega, show b + (s + 1) = b + 1 + s by omega] at hn) (by omega) (by omega) (by rwa [show a + (s + 1) = a + 1 + s by omega, show b + (s + 1) = b + 1 + s by omega] at h)
    rw [← w1, ← w2] at ih
    have h3 : bt x (a : Int) = bt y (b : Int) := h0.2.2
    clear w1 w2
    exact Ev.step (fun n => by rw [diff_common.l2]) (Ev.pos (by omega) (Ev.pos (by omega) (Ev.pos (by omega) (Ev.pos (by omega) (Ev.pos (by omega) (Ev.pos (by omega) (Ev.pos h3 ih)))))))
theorem run_exists (x y : ByteArray) (a b : Nat) : ∃ s, (∀ t, t < s → a + t < x.size ∧ b + t < y.size ∧ same x y (a + t) (b + t)) ∧ ¬ (a + s < x.size ∧ b + s < y.size ∧ same x y (a + s) (b + s)) := by
  have h : ∀ n a b : Nat, x.size - a ≤ n → ∃ s, (∀ t, t < s → a + t < x.size ∧ b + t < y.size ∧ same x y (a + t) (b + t)) ∧ ¬ (a + s < x.size ∧ b + s < y.size ∧ same x y (a + s) (b + s)) := by
    intro n
    induction n with
    | zero => intro a b h; exact ⟨0, fun t ht => by omega, fun h2 => by omega⟩
    | succ n ih =>
      intro a b h
      by_cases hm : a < x.size ∧ b < y.size ∧ same x y a b
      · obtain ⟨s, h1, h2⟩ := ih (a + 1) (b + 1) (by omega)
        refine ⟨s + 1, fun t ht => ?_, by rwa [show a + (s + 1) = a + 1 + s by omega, show b + (s + 1) = b + 1 + s by omega]⟩
        cases t with
        | zero => exact hm
        | succ t =>
          have := h1 t (by omega)
          rwa [show a + (t + 1) = a + 1 + t by omega, show b + (t + 1) = b + 1 + t by omega]
      · exact ⟨0, fun t ht => by omega, hm⟩
  exact h _ a b (Nat.le_refl _)
/-- What common answers. -/
def Found (x y : ByteArray) (r : (List (S63)) × Bool) : Prop :=
  (r.2 = true ∧ ∃ D L, Dist (same x y) x.size y.size D ∧ D ≤ 512 ∧ r.1 = L.map toS ∧ L.length ≤ D + 1 ∧ Stretches (same x y) x.size y.size 0 0 L ∧ 2 * total L + D = x.size + y.size) ∨
  (r.2 = false ∧ r.1 = [] ∧ ∀ e, e ≤ 512 → ¬ Diff.Reach (same x y) x.size y.size e x.size y.size)
/-- A front on which nobody is at both ends. -/
def Open (x y : ByteArray) (e : Nat) (f : List Int) (m : Int) : Prop := f.length = 2 * e + 3 ∧ ∀ k : Int, -(e : Int) ≤ k → k < m → (k + e) % 2 = 0 → At (same x y) x.size y.size e k (rd f (k + e + 1)) ∧ ¬ ((x.size : Int) ≤ rd f (k + e + 1) ∧ (y.size : Int) ≤ rd f (k + e + 1) - k)
theorem diag_ev {x y : ByteArray} (hx : x.size ≤ 16384) (hy : y.size ≤ 16384) (past : List (List Int)) (d : Nat) (hd : d ≤ 512) (hl : past.length = d) (hp : ∀ e, e < d → FrontOk x y e (rd_L1 past (e : Int))) (hno : ∀ e, e < d → ¬ Diff.Reach (same x y) x.size y.size e x.size y.size)
    (next : ∀ f, Open x y d f ((d : Int) + 1) → ∃ r, Ev (fun n => diff_common.l0 n x y (past ++ [f]) ((d + 1 : Nat) : Int)) r ∧ Found x y r) :
    ∀ (n m : Nat), n + m = d + 1 → ∀ f, Open x y d f (-(d : Int) + 2 * m) → ∃ r, Ev (fun k => diff_common.l1 k x y past (d : Int) f (-(d : Int) + 2 * m)) r ∧ Found x y r
  | 0, m, hm, f, hf => by
    obtain ⟨r, h1, h2⟩ := next f ⟨hf.1, fun k k1 k2 k3 => hf.2 k k1 (by omega) k3⟩
    refine ⟨r, Ev.step (fun k => by rw [diff_common.l1]) (Ev.neg (by omega) (Ev.pos (by omega) ?_)), h2⟩
    rw [wrap_id (by omega) (by omega), show (d : Int) + 1 = ((d + 1 : Nat) : Int) by omega]
    exact h1
  | n + 1, m, hm, f, hf => by
    have hlf := hf.1
    -- the run from (a, b), wherever that is
    have go : ∀ a b : Nat, (b : Int) = a - (-(d : Int) + 2 * m) → a ≤ 100000 → b ≤ 100000 → (∀ i j : Int, (∃ a' b' : Nat, (a' : Int) = i ∧ (b' : Int) = j ∧ RunEnd (same x y) x.size y.size a b a' b') → At (same x y) x.size y.size d (-(d : Int) + 2 * m) i ∧ j = i - (-(d : Int) + 2 * m)) →
        ∃ r, Ev (fun k => diff_common.j2 k x y past (d : Int) f (-(d : Int) + 2 * m) (a : Int)) r ∧ Found x y r := by
      intro a b hb ha1 hb1 hfar
      obtain ⟨s, hs1, hs2⟩ := run_exists x y a b
      obtain ⟨hA, hj⟩ := hfar ((a + s : Nat) : Int) ((b + s : Nat) : Int) ⟨a + s, b + s, rfl, rfl, s, rfl, rfl, hs1, hs2⟩
      have hrg := at_range hA
      have start : ∀ r, Ev (endF x y past (d : Int) f (-(d : Int) + 2 * m) ((a + s : Nat) : Int) ((b + s : Nat) : Int)) r → Ev (fun k => diff_common.j2 k x y past (d : Int) f (-(d : Int) + 2 * m) (a : Int)) r := by
        intro r h
        refine Ev.step (fun k => by rw [diff_common.j2]) ?_
        rw [wrap_id (i := (a : Int) - (-(d : Int) + 2 * m)) (by omega) (by omega), ← hb]
        exact run_ev x y (by omega) (by omega) past d f _ r s a b hs1 hs2 (by omega) (by omega) h
      have e1 : wrap64 (wrap64 (-(d : Int) + 2 * m + d) + 1) = ((2 * m + 1 : Nat) : Int) := by
        rw [wrap_id (i := -(d : Int) + 2 * m + d) (by omega) (by omega), wrap_id (by omega) (by omega)]
        omega
      have e2 : wrap64 (-(d : Int) + 2 * m + 2) = -(d : Int) + 2 * ((m + 1 : Nat) : Int) := by rw [wrap_id (by omega) (by omega)]; omega
      have W := Aside0.mk (And.intro e1 e2)
      clear e1 e2
      -- the front with this diagonal
      have hset : ∀ k : Int, -(d : Int) ≤ k → rd (f.set (2 * m + 1) ((a + s : Nat) : Int)) (k + d + 1) = if k = -(d : Int) + 2 * m then ((a + s : Nat) : Int) else rd f (k + d + 1) := by
        intro k hk
        rw [rd_set (by omega) _ (by omega)]
        by_cases h : k = -(d : Int) + 2 * m
        · rw [if_pos h, if_pos (by omega)]
        · rw [if_neg h, if_neg (by omega)]
      by_cases hend : (x.size : Int) ≤ ((a + s : Nat) : Int) ∧ (y.size : Int) ≤ ((b + s : Nat) : Int)
      · obtain ⟨h1, h2, h3⟩ := end_just hA hend.1 (by omega) hno
        have hA' : At (same x y) x.size y.size d ((x.size : Int) - y.size) x.size := by rw [h1] at hA; rwa [show (x.size : Int) - y.size = -(d : Int) + 2 * m by omega]
        obtain ⟨L, p1, p2, p3, p4⟩ := back_ev (by omega) (by omega) (past ++ [f.set (2 * m + 1) ((a + s : Nat) : Int)]) d (by simp; omega) (by simp; omega) (fun e he => by
          rw [List.length_append, List.length_singleton] at he
          rw [rdL1_append, if_pos (by omega)]
          exact hp e (by omega)) hA'
        refine ⟨(L.map toS, true), start _ ?_, .inl ⟨rfl, d, L, Dist.of_none h3 hno, hd, rfl, p2, p3, p4⟩⟩
        unfold endF
        rw [W.out.1, W.out.2]
        refine Ev.pos (by omega) (Ev.pos (by omega) (Ev.bind (Ev.now_ _) (Ev.pos (by omega) (Ev.pos (by omega) (Ev.pos (by omega) (Ev.bind ?_ (Ev.now_ _)))))))
        rw [Int.toNat_natCast]
        exact p1
      · obtain ⟨r, h1, h2⟩ := diag_ev hx hy past d hd hl hp hno next n (m + 1) (by omega) (f.set (2 * m + 1) ((a + s : Nat) : Int)) ⟨by rw [List.length_set]; exact hlf, fun k k1 k2 k3 => by
          rw [hset k k1]
          by_cases h : k = -(d : Int) + 2 * m
          · rw [if_pos h, h]
            exact ⟨hA, fun hh => hend ⟨hh.1, by omega⟩⟩
          · rw [if_neg h]
            exact hf.2 k k1 (by omega) k3⟩
        refine ⟨r, start _ ?_, h2⟩
        unfold endF
        rw [W.out.1, W.out.2]
        refine Ev.pos (by omega) (Ev.pos (by omega) (Ev.bind (Ev.now_ _) ?_))
        rw [Int.toNat_natCast]
        exact Ev.ite (fun h3 => Ev.neg (by omega) h1) (fun _ => h1)
    cases d with
    | zero =>
      obtain rfl : m = 0 := by omega
      obtain ⟨r, h1, h2⟩ := go 0 0 (by omega) (by omega) (by omega) (fun i j h => by
        have := first_far h
        exact ⟨this.1, by omega⟩)
      refine ⟨r, Ev.step (fun k => by rw [diff_common.l1]) ?_, h2⟩
      exact Ev.pos (by omega) (Ev.neg (by omega) h1)
    | succ e =>
      have hfe := hp e (by omega)
      obtain ⟨a, b, ha, hb, hre, hm'⟩ := step_start (p := fun k' => rd (rd_L1 past (e : Int)) (k' + e + 1)) (k := -((e + 1 : Nat) : Int) + 2 * m) (by omega) (by omega) (by omega) hfe.2
      have hbd := hre.bound
      have hst := step_ev hfe (by omega) (by omega) (k := -((e + 1 : Nat) : Int) + 2 * m) (by omega) (by omega) (by omega)
      have hv : stepV (fun k' => rd (rd_L1 past (e : Int)) (k' + e + 1)) e (-((e + 1 : Nat) : Int) + 2 * m) = (a : Int) := ha.symm
      rw [hv] at hst
      obtain ⟨r, h1, h2⟩ := go a b hb (by omega) (by omega) (fun i j h => by
        refine step_far (p := fun k' => rd (rd_L1 past (e : Int)) (k' + e + 1)) (by omega) (by omega) (by omega) hfe.2 (fun a2 b2 ha2 hb2 => ?_)
        have e1 : a2 = a := by
          have := ha2.trans ha.symm
          omega
        have e2 : b2 = b := by omega
        rw [e1, e2]
        exact h)
      refine ⟨r, Ev.step (fun k => by rw [diff_common.l1]) (Ev.pos (by omega) (Ev.pos (by omega) ?_)), h2⟩
      rw [wrap_id (i := ((e + 1 : Nat) : Int) - 1) (by omega) (by omega), show ((e + 1 : Nat) : Int) - 1 = (e : Int) by omega]
      refine Ev.pos (by omega) (Ev.pos (by omega) (Ev.bind (a := (a : Int)) ?_ h1))
      rw [show ((e + 1 : Nat) : Int) = (e : Int) + 1 by omega] at hst ⊢
      exact hst
theorem fronts_ev {x y : ByteArray} (hx : x.size ≤ 16384) (hy : y.size ≤ 16384) : ∀ (n d : Nat), n + d = 513 → ∀ past : List (List Int), past.length = d → (∀ e, e < d → Open x y e (rd_L1 past (e : Int)) ((e : Int) + 1)) → ∃ r, Ev (fun k => diff_common.l0 k x y past (d : Int)) r ∧ Found x y r
  | 0, d, hd, past, hl, hp => by
    refine ⟨([], false), Ev.step (fun k => by rw [diff_common.l0]) (Ev.neg (by omega) (Ev.now_ _)), .inr ⟨rfl, rfl, fun e he => ?_⟩⟩
    exact no_end (p := fun k => rd (rd_L1 past (e : Int)) (k + e + 1)) (fun k k1 k2 k3 => (hp e (by omega)).2 k k1 (by omega) k3)
  | n + 1, d, hd, past, hl, hp => by
    have hno : ∀ e, e < d → ¬ Diff.Reach (same x y) x.size y.size e x.size y.size := fun e he => no_end (p := fun k => rd (rd_L1 past (e : Int)) (k + e + 1)) (fun k k1 k2 k3 => (hp e he).2 k k1 (by omega) k3)
    have e1 : wrap64 (wrap64 (2 * (d : Int)) + 3) = ((2 * d + 3 : Nat) : Int) := by
      rw [wrap_id (i := 2 * (d : Int)) (by omega) (by omega), wrap_id (by omega) (by omega)]
      omega
    obtain ⟨r, h1, h2⟩ := diag_ev hx hy past d (by omega) hl (fun e he => ⟨(hp e he).1, fun k k1 k2 k3 => ((hp e he).2 k k1 (by omega) k3).1⟩) hno (fun f hf => fronts_ev hx hy n (d + 1) (by omega) (past ++ [f]) (by simp; omega) (fun e he => by
      rw [rdL1_append]
      by_cases h : e < d
      · rw [if_pos (by omega)]
        exact hp e h
      · have : e = d := by omega
        subst this
        rw [if_neg (by omega), if_pos hl.symm]
        exact hf)) (d + 1) 0 (by omega) (List.replicate (2 * d + 3) 0) ⟨by simp, fun k k1 k2 k3 => by omega⟩
    refine ⟨r, Ev.step (fun k => by rw [diff_common.l0]) (Ev.pos (by omega) ?_), h2⟩
    rw [e1, Int.toNat_natCast, wrap_id (i := -(d : Int)) (by omega) (by omega)]
    refine Ev.pos (by omega) (Ev.pos (by omega) ?_)
    rw [show -(d : Int) = -(d : Int) + 2 * ((0 : Nat) : Int) by omega]
    exact h1
theorem common_ev {x y : ByteArray} (hx : x.size ≤ 16384) (hy : y.size ≤ 16384) : ∃ r, Ev (fun k => diff_common.f k x y) r ∧ Found x y r :=
  fronts_ev hx hy 513 0 rfl [] rfl (fun e he => by omega)
end Go.Proofs.Ytoljmjhmieaggaa.Pure
