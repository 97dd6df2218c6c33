/- Any base, name and number of arrays is a type without marks, or isn't one, as the statement KindMakes says; every input. -/
import Derived.Test.YtljchkghnmnpgaaX7
import Derived.Test.YtljchkghnmnpgaaPureKindSorts
import Derived.Test.YtljchkghnmnpgaaPureKindBytes
namespace Go.Proofs.Ytljchkghnmnpgaa.Pure
open Go.RowKit Go.Proofs.Ytljchkghnmnpgaa.X Go.Proofs.YtljchkghnmnpgaaW.PrintWords Go.Proofs.YtljchkghnmnpgaaW.PrintLast
theorem five_cut (d : Int) (h0 : 0 ≤ d) (h4 : d ≤ 4) : (⟨#[32, 32, 32, 32, 32]⟩ : ByteArray).extract 0 (d + 1).toNat = blanks (d + 1).toNat := by
  have h : d = 0 ∨ d = 1 ∨ d = 2 ∨ d = 3 ∨ d = 4 := by omega
  rcases h with rfl | rfl | rfl | rfl | rfl <;> exact toList_inj (by decide +kernel)
theorem KindMakes : caulkerlaw10_KindMakes.Pure := by
  intro b d nm hb hd _
  have wd := wf_range hd
  apply Ev.rounds
  unfold caulkerlaw10_KindMakes.f
  refine Ev.bind sorts_any (Ev.pos rfl (Ev.ite (fun _ => Ev.now_ _) (fun hs => ?_)))
  have hn : nm.size ≤ 1000000 := by omega
  have of := of_ev b nm d hn wd
  by_cases ho : headOk b nm d = true
  · rw [if_pos ho] at of
    have hh := head_at ho
    have z := blanks_size (d + 1).toNat
    have hT := blanks_T ho
    have ba := bare_ev b nm d (blanks (d + 1).toNat) hn (by omega)
    rw [bareM, if_pos hT] at ba
    have is := is_ev b nm d (blanks (d + 1).toNat) hn (by omega) b
    have nu := number_ev b nm d (blanks (d + 1).toNat) hn (by omega)
    rw [T_R hT, Bool.true_and] at is nu
    refine Ev.bind of (Ev.pos (by omega) ?_)
    rw [decide_eq_true (show d ≤ 4 by omega)]
    refine Ev.step (fun k => by rw [caulkerlaw10_KindMakes.j0]) ?_
    rw [wrap_id (i := d + 1) (by omega) (by omega)]
    refine Ev.pos rfl (Ev.pos (by omega) (Ev.pos (by omega) ?_))
    rw [five_cut d (by omega) (by omega)]
    refine Ev.step (fun k => by rw [caulkerlaw10_KindMakes.j1]) ?_
    refine Ev.bind (ref_ev b nm d (blanks (d + 1).toNat) (by omega)) (Ev.pos hT (Ev.pos rfl (Ev.pos (by simp) (Ev.bind ba (Ev.pos (by simp) (Ev.bind is ?_))))))
    refine Ev.ite (fun h0 => Ev.pos ?_ (Ev.bind nu ?_)) (fun h0 => Ev.pos ?_ (Ev.bind nu (Ev.cast (Ev.now_ _) ?_)))
    · simp [h0]
    · refine Ev.ite (fun h1 => Ev.cast (Ev.now_ _) ?_) (fun h1 => Ev.cast (Ev.now_ _) ?_)
      · simp [h0, h1]
      · have : (b == 1) = false := by simpa using h1
        simp [h0, this]
    · simp [h0]
    · simp [h0]
  · rw [if_neg ho] at of
    have no : ∀ m : ByteArray, T b nm d m = false := by
      intro m
      cases e : T b nm d m with
      | false => rfl
      | true => exact absurd (T_at.1 e).1 ho
    have last : ∀ m : ByteArray, m.size ≤ 1000000 → Ev (fun k => caulkerlaw10_KindMakes.j1 k b d (zeroT 5).2.2.2.2 (zeroT 5).1 (zeroT 5).2.1 (zeroT 5).2.2.1 (zeroT 5).2.2.2.1 b nm d m) true := by
      intro m hm
      have rf := ref_ev b nm d m (by omega)
      rw [no m] at rf
      refine Ev.step (fun k => by rw [caulkerlaw10_KindMakes.j1]) ?_
      refine Ev.bind rf (Ev.neg (by simp) (Ev.pos rfl (Ev.cast (Ev.now_ _) ?_)))
      simp only [zeroT, toList_empty]; rfl
    have e0 : (⟨#[]⟩ : ByteArray).size = 0 := rfl
    refine Ev.bind of (Ev.ite (fun h0 => ?_) (fun h0 => ?_))
    · by_cases h4 : d ≤ 4
      · rw [decide_eq_true h4]
        refine Ev.step (fun k => by rw [caulkerlaw10_KindMakes.j0]) ?_
        rw [wrap_id (i := d + 1) (by omega) (by omega)]
        refine Ev.pos rfl (Ev.pos (by omega) (Ev.pos (by omega) (last _ ?_)))
        rw [five_cut d h0 h4, blanks_size]
        omega
      · rw [decide_eq_false h4]
        refine Ev.step (fun k => by rw [caulkerlaw10_KindMakes.j0]) ?_
        exact Ev.neg (by simp) (last _ (by rw [e0]; omega))
    · refine Ev.step (fun k => by rw [caulkerlaw10_KindMakes.j0]) ?_
      exact Ev.neg (by simp) (last _ (by rw [e0]; omega))
end Go.Proofs.Ytljchkghnmnpgaa.Pure
