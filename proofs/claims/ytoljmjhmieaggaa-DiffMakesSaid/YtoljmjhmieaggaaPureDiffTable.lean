/- The document's answer: a table of all pairs of beginnings; any texts that aren't too long. -/
import Derived.Test.YtoljmjhmieaggaaX14
import Derived.Test.YtoljmjhmieaggaaPureDiffBytes
namespace Go.Proofs.Ytoljmjhmieaggaa.Pure
open Go.RowKit Go.Proofs.Ytoljmjhmieaggaa.X Go.Proofs.YtoljmjhmieaggaaW.PrintWords Go.Proofs.YtoljmjhmieaggaaW.PrintLast Go.Diff
def eqB (a b : ByteArray) : Nat → Nat → Bool := fun i j => decide (bt a (i : Int) = bt b (j : Int))
def RowIs (e : Nat → Nat → Bool) (i : Nat) (row : List Int) (n : Nat) : Prop := row.length = n ∧ ∀ j : Nat, j < n → rd row (j : Int) = (lcs e i j : Nat)
theorem rd_app {l : List Int} {v : Int} (j : Nat) (h : j ≤ l.length) : rd (l ++ [v]) (j : Int) = if j = l.length then v else rd l (j : Int) := by
  unfold rd
  rw [List.getD_eq_getElem?_getD, List.getD_eq_getElem?_getD, Int.toNat_natCast]
  by_cases h2 : j = l.length
  · rw [if_pos h2, h2]
    simp
  · rw [if_neg h2, List.getElem?_append_left (by omega)]
theorem RowIs.snoc {e : Nat → Nat → Bool} {i n : Nat} {row : List Int} (h : RowIs e i row n) {v : Int} (hv : v = (lcs e i n : Nat)) : RowIs e i (row ++ [v]) (n + 1) := by
  refine ⟨by rw [List.length_append, h.1]; rfl, fun j hj => ?_⟩
  rw [rd_app j (by rw [h.1]; omega)]
  by_cases h2 : j = n
  · rw [if_pos (by rw [h.1]; exact h2), hv, h2]
  · rw [if_neg (by rw [h.1]; exact h2)]
    exact h.2 j (by omega)
theorem lcs_small (e : Nat → Nat → Bool) : ∀ i j : Nat, lcs e i j ≤ i := by
  intro i
  induction i with
  | zero => intro j; rw [lcs]; exact Nat.le_refl _
  | succ i ih =>
    intro j
    induction j with
    | zero => rw [lcs_zero]; exact Nat.zero_le _
    | succ j ihj =>
      have h1 := ih (j + 1)
      have h2 := ih j
      rw [lcs.eq_3]
      split <;> omega
theorem table_l2 (a b : ByteArray) (ha : a.size ≤ 100000) (hb : b.size ≤ 100000) (i : Nat) (hi : i < a.size) (row : List Int) (hrow : RowIs (eqB a b) i row (b.size + 1)) (r : Int) (next : ∀ row', RowIs (eqB a b) (i + 1) row' (b.size + 1) → Ev (fun k => caulkerref04_Common.l1 k a b row' ((i + 1 : Nat) : Int)) r) :
    ∀ d j : Nat, j + d = b.size → ∀ nx, RowIs (eqB a b) (i + 1) nx (j + 1) → Ev (fun k => caulkerref04_Common.l2 k a b row (i : Int) nx (j : Int)) r
  | 0, j, hj, nx, hnx => by
    refine Ev.step (fun k => by rw [caulkerref04_Common.l2]) (Ev.neg (by omega) ?_)
    rw [show wrap64 ((i : Int) + 1) = ((i + 1 : Nat) : Int) by rw [wrap_id (by omega) (by omega)]; omega]
    exact next nx (by rwa [show j = b.size by omega] at hnx)
  | d + 1, j, hj, nx, hnx => by
    have ih := fun nx h => table_l2 a b ha hb i hi row hrow r next d (j + 1) (by omega) nx h
    have l1 := hrow.1
    have l2 := hnx.1
    have s0 := lcs_small (eqB a b) i j
    have v1 : rd nx (j : Int) = (lcs (eqB a b) (i + 1) j : Nat) := hnx.2 j (by omega)
    have v2 : rd row ((j + 1 : Nat) : Int) = (lcs (eqB a b) i (j + 1) : Nat) := hrow.2 (j + 1) (by omega)
    have v3 : rd row (j : Int) = (lcs (eqB a b) i j : Nat) := hrow.2 j (by omega)
    have hm : lcs (eqB a b) (i + 1) (j + 1) = max (max (lcs (eqB a b) i (j + 1)) (lcs (eqB a b) (i + 1) j)) (if eqB a b i j = true then lcs (eqB a b) i j + 1 else 0) := lcs.eq_3 (eqB a b) i j
    rw [Nat.max_def, Nat.max_def] at hm
    have w1 : wrap64 ((j : Int) + 1) = ((j + 1 : Nat) : Int) := by rw [wrap_id (by omega) (by omega)]; omega
    have w2 : wrap64 (((lcs (eqB a b) i j : Nat) : Int) + 1) = ((lcs (eqB a b) i j + 1 : Nat) : Int) := by rw [wrap_id (by omega) (by omega)]; omega
    have W := Aside0.mk (And.intro w1 w2)
    clear w1 w2
    have go : ∀ v : Int, v = (lcs (eqB a b) (i + 1) (j + 1) : Nat) → Ev (fun k => if nx.length < 17592186044416 then (caulkerref04_Common.l2 k a b row (i : Int) (nx ++ [v]) ((j + 1 : Nat) : Int)) else none) r := fun v hv => Ev.pos (by omega) (ih _ (hnx.snoc hv))
    refine Ev.step (fun k => by rw [caulkerref04_Common.l2]) (Ev.pos (by omega) ?_)
    rw [W.out.1, v1, v2, v3, W.out.2]
    refine Ev.pos (by omega) (Ev.pos (by omega) (Ev.pos (by omega) (Ev.pos (by omega) ?_)))
    by_cases he : bt a (i : Int) = bt b (j : Int)
    · have ee : eqB a b i j = true := decide_eq_true he
      rw [if_pos ee] at hm
      refine Ev.ite (fun h1 => Ev.pos (by omega) (Ev.pos (by omega) (Ev.pos he (Ev.pos (by omega) (Ev.ite (fun h2 => go _ ?_) (fun h2 => go _ ?_)))))) (fun h1 => Ev.pos (by omega) (Ev.pos (by omega) (Ev.pos he (Ev.pos (by omega) (Ev.ite (fun h2 => go _ ?_) (fun h2 => go _ ?_))))))
      all_goals (split at hm <;> (try split at hm) <;> (try split at hm) <;> omega)
    · have ee : ¬ eqB a b i j = true := by simpa [eqB] using he
      rw [if_neg ee] at hm
      refine Ev.ite (fun h1 => Ev.pos (by omega) (Ev.pos (by omega) (Ev.neg he (go _ ?_)))) (fun h1 => Ev.pos (by omega) (Ev.pos (by omega) (Ev.neg he (go _ ?_))))
      all_goals (split at hm <;> (try split at hm) <;> (try split at hm) <;> omega)
theorem table_l1 (a b : ByteArray) (ha : a.size ≤ 100000) (hb : b.size ≤ 100000) : ∀ d i : Nat, i + d = a.size → ∀ row, RowIs (eqB a b) i row (b.size + 1) → Ev (fun k => caulkerref04_Common.l1 k a b row (i : Int)) ((lcs (eqB a b) a.size b.size : Nat) : Int)
  | 0, i, hi, row, h => by
    have l1 := h.1
    refine Ev.step (fun k => by rw [caulkerref04_Common.l1]) (Ev.neg (by omega) (Ev.pos (by omega) (Ev.pos (by omega) (Ev.cast (Ev.now_ _) ?_))))
    rw [h.2 b.size (by omega), show i = a.size by omega]
  | d + 1, i, hi, row, h => by
    refine Ev.step (fun k => by rw [caulkerref04_Common.l1]) (Ev.pos (by omega) ?_)
    have := table_l2 a b ha hb i (by omega) row h _ (fun row' h' => table_l1 a b ha hb d (i + 1) (by omega) row' h') b.size 0 (Nat.zero_add _) [0] ⟨rfl, fun j hj => by
      have : j = 0 := by omega
      subst this
      rw [lcs_zero]
      rfl⟩
    exact this
theorem table_l0 (a b : ByteArray) (ha : a.size ≤ 100000) (hb : b.size ≤ 100000) : ∀ d j : Nat, j + d = b.size + 1 → ∀ row, RowIs (eqB a b) 0 row j → Ev (fun k => caulkerref04_Common.l0 k a b row (j : Int)) ((lcs (eqB a b) a.size b.size : Nat) : Int)
  | 0, j, hj, row, h => by
    refine Ev.step (fun k => by rw [caulkerref04_Common.l0]) (Ev.neg (by omega) ?_)
    exact table_l1 a b ha hb a.size 0 (Nat.zero_add _) row (by rwa [show j = b.size + 1 by omega] at h)
  | d + 1, j, hj, row, h => by
    have l1 := h.1
    refine Ev.step (fun k => by rw [caulkerref04_Common.l0]) (Ev.pos (by omega) (Ev.pos (by omega) ?_))
    rw [show wrap64 ((j : Int) + 1) = ((j + 1 : Nat) : Int) by rw [wrap_id (by omega) (by omega)]; omega]
    exact table_l0 a b ha hb d (j + 1) (by omega) _ (h.snoc (by rw [lcs]; rfl))
theorem refFar_ev (a b : ByteArray) (ha : a.size ≤ 100000) (hb : b.size ≤ 100000) {D : Nat} (hD : Dist (same a b) a.size b.size D) : Ev (fun k => caulkerref04_Far.f k a b) (D : Int) := by
  have h := lcs_is (eqB a b) a.size b.size
  have h1 := h.1.congr (E' := same a b) fun i j _ _ => by unfold eqB same; exact decide_eq_true_iff
  have hu := hD.uniq h1
  have hc := table_l0 a b ha hb (b.size + 1) 0 (Nat.zero_add _) [] ⟨rfl, fun j hj => by omega⟩
  have hs := lcs_small (eqB a b) a.size b.size
  unfold caulkerref04_Far.f
  refine Ev.bind hc (Ev.cast (Ev.now_ _) ?_)
  rw [wrap_id (i := (a.size : Int) + b.size) (by omega) (by omega), wrap_id (i := 2 * ((lcs (eqB a b) a.size b.size : Nat) : Int)) (by omega) (by omega), wrap_id (by omega) (by omega)]
  omega
end Go.Proofs.Ytoljmjhmieaggaa.Pure
