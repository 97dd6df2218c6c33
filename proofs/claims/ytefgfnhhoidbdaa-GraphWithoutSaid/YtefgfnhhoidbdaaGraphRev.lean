/- What slices.Reverse answers; no condition but the length. -/
import Derived.Test.YtefgfnhhoidbdaaX43
import Derived.Test.YtefgfnhhoidbdaaEvKit
namespace Go.Proofs.Ytefgfnhhoidbdaa.GrW
open Go.RowKit Go.Proofs.YtefgfnhhoidbdaaW.PrintWords Go.Proofs.YtefgfnhhoidbdaaW.PrintLast Go.Proofs.Ytefgfnhhoidbdaa.X
set_option linter.unusedVariables false
set_option linter.unusedSimpArgs false
theorem getD_set {l : List S29} {i m : Nat} {x : S29} (hi : i < l.length) : (l.set i x).getD m z29 = if m = i then x else l.getD m z29 := by
  rw [List.getD_eq_getElem?_getD, List.getD_eq_getElem?_getD, List.getElem?_set]
  by_cases h : m = i
  · subst h; simp [hi]
  · simp [h, Ne.symm h]
theorem rev_l0 (l : List S29) (hn : l.length ≤ 100000) : ∀ (k i : Nat) (cur : List S29), l.length < k + i → 2 * i ≤ l.length + 1 → cur.length = l.length → (∀ m, m < l.length → cur.getD m z29 = if m < i ∨ l.length ≤ m + i then l.getD (l.length - 1 - m) z29 else l.getD m z29) → graph_Edge_43.l0 k cur (i : Int) ((l.length : Int) - 1 - i) = some l.reverse
  | 0, i, cur, h, h2, _, _ => by omega
  | k + 1, i, cur, h, h2, hl, hc => by
    rw [graph_Edge_43.l0]
    by_cases hi : (i : Int) < (l.length : Int) - 1 - i
    · obtain ⟨j, hj⟩ : ∃ j : Nat, (l.length : Int) - 1 - i = (j : Int) := ⟨l.length - 1 - i, by omega⟩
      rw [hj] at hi ⊢
      rw [if_pos hi, if_pos (by omega), if_pos (by omega), if_pos (by omega), if_pos (by omega), Int.toNat_natCast, Int.toNat_natCast, wrap_id (by omega) (by omega), wrap_id (by omega) (by omega)]
      have ej : rd_T29 cur (j : Int) = l.getD j z29 := by
        show cur.getD (j : Int).toNat z29 = _
        rw [Int.toNat_natCast, hc j (by omega), if_neg (by omega)]
      have ei : rd_T29 cur (i : Int) = l.getD i z29 := by
        show cur.getD (i : Int).toNat z29 = _
        rw [Int.toNat_natCast, hc i (by omega), if_neg (by omega)]
      rw [ej, ei]
      have e1 : (i : Int) + 1 = ((i + 1 : Nat) : Int) := by omega
      have e2 : (j : Int) - 1 = (l.length : Int) - 1 - ((i + 1 : Nat) : Int) := by omega
      rw [e1, e2]
      refine rev_l0 l hn k (i + 1) _ (by omega) (by omega) (by simp [hl]) (fun m hm => ?_)
      show ((cur.set i (l.getD j z29)).set j (l.getD i z29)).getD m z29 = _
      rw [getD_set (by rw [List.length_set]; omega), getD_set (by omega), hc m hm]
      by_cases m1 : m = j
      · subst m1
        rw [if_pos rfl, if_pos (by omega), show l.length - 1 - m = i by omega]
      · rw [if_neg m1]
        by_cases m2 : m = i
        · subst m2
          rw [if_pos rfl, if_pos (by omega), show l.length - 1 - m = j by omega]
        · rw [if_neg m2]
          by_cases m3 : m < i ∨ l.length ≤ m + i
          · rw [if_pos m3, if_pos (by omega)]
          · rw [if_neg m3, if_neg (by omega)]
    · rw [if_neg hi]
      congr 1
      refine List.ext_getElem (by simp [hl]) (fun m h3 h4 => ?_)
      have h5 := hc m (by omega)
      rw [List.getElem_reverse]
      have g1 : cur.getD m z29 = cur[m] := by rw [List.getD_eq_getElem?_getD, List.getElem?_eq_getElem h3, Option.getD_some]
      have g2 : l.getD (l.length - 1 - m) z29 = l[l.length - 1 - m]'(by omega) := by rw [List.getD_eq_getElem?_getD, List.getElem?_eq_getElem (by omega), Option.getD_some]
      rw [← g1, ← g2, h5]
      by_cases m3 : m < i ∨ l.length ≤ m + i
      · rw [if_pos m3]
      · rw [if_neg m3, show l.length - 1 - m = m by omega]
theorem rev_any (l : List S29) (hn : l.length ≤ 100000) : graph_Edge_43.f (l.length + 1) l = some l.reverse := by
  unfold graph_Edge_43.f
  rw [wrap_id (by omega) (by omega)]
  have := rev_l0 l hn (l.length + 1) 0 l (by omega) (by omega) rfl (fun m hm => by rw [if_neg (by omega)])
  simpa using this
end Go.Proofs.Ytefgfnhhoidbdaa.GrW
