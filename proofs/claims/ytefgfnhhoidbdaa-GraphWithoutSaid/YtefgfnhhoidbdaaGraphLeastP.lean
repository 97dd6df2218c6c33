/- What has been found is right, and the least that is. Lists alone. -/
import Derived.Test.YtefgfnhhoidbdaaRefGraph2
namespace Go.Proofs.Ytefgfnhhoidbdaa.GrW
open Go.RowKit Go.Proofs.YtefgfnhhoidbdaaW.PrintWords Go.Proofs.YtefgfnhhoidbdaaW.PrintLast Go.Proofs.Ytefgfnhhoidbdaa.X Go.Proofs.Ytefgfnhhoidbdaa.Gr
set_option linter.unusedVariables false
set_option linter.unusedSimpArgs false
section
variable {n : Nat} {es : List S29} {sf : Int → Bool} {R : List Int} {dp : Int → Nat}
theorem bG_comes (hl : R.length = n) {v : Int} (h0 : 0 ≤ v) (h1 : v < n) : bG (comesL R) v = decide (0 ≤ R.getD v.toNat (-1)) := by
  unfold bG comesL
  have hi : v.toNat < R.length := by omega
  rw [List.getD_eq_getElem?_getD, List.getElem?_map, List.getD_eq_getElem?_getD, List.getElem?_eq_getElem hi]
  rfl
theorem V_comes (hl : R.length = n) {v : Int} (h0 : 0 ≤ v) (h1 : v < n) : V n R v ↔ bG (comesL R) v = true := by
  rw [bG_comes hl h0 h1, decide_eq_true_eq]
  unfold V
  constructor
  · rintro (h | h)
    · omega
    · exact h.2.2
  · intro h
    exact .inr ⟨h0, h1, h⟩
theorem right_comes (hf : Fin_ n es.length (Fm es) (Tm es) (fun _ => false) (-1) R dp) (hv : ∀ k, k < es.length → -1 ≤ Fm es k ∧ Fm es k < n ∧ 0 ≤ Tm es k ∧ Tm es k < n) : rightV n es (comesL R) = true := by
  unfold rightV
  rw [Bool.and_eq_true, List.all_eq_true]
  refine ⟨decide_eq_true (by unfold comesL; rw [List.length_map]; exact hf.len), fun e he => ?_⟩
  obtain ⟨k, hk, hke⟩ := List.getElem_of_mem he
  have hke : es.getD k z29 = e := by rw [List.getD_eq_getElem?_getD, List.getElem?_eq_getElem hk, Option.getD_some]; exact hke
  have hvk := hv k hk
  unfold Fm Tm at hvk
  rw [hke] at hvk
  unfold badE
  by_cases ho : (decide (e.f0 = -1) || bG (comesL R) e.f0) = true
  · rw [ho, Bool.true_and, Bool.not_not]
    have hVF : V n R (Fm es k) := by
      unfold Fm
      rw [hke]
      rw [Bool.or_eq_true, decide_eq_true_eq] at ho
      by_cases h0 : e.f0 = -1
      · exact .inl h0
      · exact (V_comes hf.len (by omega) hvk.2.1).2 (ho.resolve_left h0)
    have hVT := (hf.shut_ k ⟨hk, by omega, rfl⟩ hVF).1
    unfold Tm at hVT
    rw [hke] at hVT
    exact (V_comes hf.len hvk.2.2.1 hvk.2.2.2).1 hVT
  · rw [Bool.not_eq_true] at ho
    rw [ho]
    rfl
theorem least (hf : Fin_ n es.length (Fm es) (Tm es) sf (-1) R dp) {set : List Bool} (hr : rightV n es set = true) : ∀ d (i : Nat), i < n → dp i = d → 0 ≤ R.getD i (-1) → bG set (i : Int) = true := by
  unfold rightV at hr
  rw [Bool.and_eq_true, List.all_eq_true] at hr
  intro d
  induction d using Nat.strongRecOn with
  | ind d ih =>
    intro i hi hd hR
    obtain ⟨k, _, h2, h3, h4, h5⟩ := hf.tree i hi hR
    have hk := h2.1
    have he := hr.2 (es.getD k z29) (by rw [List.getD_eq_getElem?_getD, List.getElem?_eq_getElem hk, Option.getD_some]; exact List.getElem_mem hk)
    have ho : (decide ((es.getD k z29).f0 = -1) || bG set (es.getD k z29).f0) = true := by
      rw [Bool.or_eq_true, decide_eq_true_eq]
      rcases h4 with h4 | ⟨h4, h6, h7⟩
      · exact .inl h4
      · right
        obtain ⟨j, hj⟩ : ∃ j : Nat, Fm es k = (j : Int) := ⟨(Fm es k).toNat, by omega⟩
        have := ih (dp (Fm es k)) (by omega) j (by omega) (by rw [hj]) (by rw [hj, Int.toNat_natCast] at h7; exact h7)
        show bG set (Fm es k) = true
        rw [hj]
        exact this
    unfold badE at he
    rw [ho, Bool.true_and, Bool.not_not] at he
    rw [← h3]
    exact he
end
end Go.Proofs.Ytefgfnhhoidbdaa.GrW
