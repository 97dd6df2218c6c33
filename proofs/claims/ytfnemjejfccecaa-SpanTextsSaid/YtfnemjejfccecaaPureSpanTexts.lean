/- The bytes in a span, with those ahead of it and behind, are the text, as the statement SpanTexts says; every input. -/
import Derived.Test.YtfnemjejfccecaaX4
import Derived.Test.YtfnemjejfccecaaPureSpanLib
import Derived.Test.YtfnemjejfccecaaPureSpanMay
namespace Go.Proofs.Ytfnemjejfccecaa.Pure
open Go.RowKit Go.Proofs.Ytfnemjejfccecaa.X Go.Proofs.YtfnemjejfccecaaW.PrintWords Go.Proofs.YtfnemjejfccecaaW.PrintLast

theorem toList_empty : (⟨#[]⟩ : ByteArray).toList = ([] : List UInt8) := by decide +kernel
theorem cut_three (s : ByteArray) (f t : Nat) (h1 : f ≤ t) (h2 : t ≤ s.size) : s.extract 0 f ++ s.extract f t ++ s.extract t s.size = s := by
  rw [ByteArray.extract_append_extract, Nat.min_eq_left (Nat.zero_le _), Nat.max_eq_right h1, ByteArray.extract_append_extract, Nat.min_eq_left (Nat.zero_le _), Nat.max_eq_right h2]
  exact ByteArray.extract_zero_size
theorem SpanTexts : caulkerlaw01_SpanTexts.Pure := by
  intro s f t hs hg
  have wf := wf_range hg.1
  have wt := wf_range hg.2
  apply Ev.rounds
  unfold caulkerlaw01_SpanTexts.f
  refine Ev.bind spans_any (Ev.pos rfl ?_)
  by_cases hb : (s.size : Int) > 65536
  · exact Ev.pos hb (Ev.now _)
  refine Ev.neg hb ?_
  by_cases h : 0 ≤ f ∧ f ≤ t ∧ t ≤ s.size ∧ (s.size : Int) ≤ 65536
  · have hok : okS f t = true := okS_iff.2 (by omega)
    refine Ev.bind (Ev.eq (text_yes h)) (Ev.bind (Ev.eq (may_any f t)) (Ev.pos hok (Ev.neg (by omega) (Ev.pos rfl (Ev.pos (by omega) (Ev.pos (by omega) ?_))))))
    have e1 : (s.extract 0 f.toNat).size = f.toNat := by rw [ByteArray.size_extract]; omega
    have e2 : (s.extract f.toNat t.toNat).size = t.toNat - f.toNat := by rw [ByteArray.size_extract]; omega
    have e3 : (s.extract t.toNat s.size).size = s.size - t.toNat := by rw [ByteArray.size_extract]; omega
    refine Ev.pos (by rw [e1, e2]; omega) (Ev.pos (by omega) (Ev.pos (by omega) (Ev.pos (by rw [ByteArray.size_append, e1, e2, e3]; omega) (Ev.pos ?_ ?_))))
    · rw [cut_three s f.toNat t.toNat (by omega) (by omega)]
    · refine Ev.cast (Ev.now _) ?_
      rw [e2, wrap_id (by omega) (by omega)]
      simp
      omega
  · refine Ev.bind (Ev.eq (text_no h)) (Ev.bind (Ev.eq (may_any f t)) ?_)
    by_cases hok : okS f t = true
    · have h' := okS_iff.1 hok
      refine Ev.pos hok (Ev.pos (by omega) (Ev.pos rfl (Ev.cast (Ev.now _) ?_)))
      rw [toList_empty]
      rfl
    · refine Ev.neg hok (Ev.pos rfl (Ev.cast (Ev.now _) ?_))
      rw [toList_empty]
      rfl
end Go.Proofs.Ytfnemjejfccecaa.Pure
