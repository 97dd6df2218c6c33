/- Where the document says that the next token begins: behind the blanks and comments; no condition but the length named. -/
import Derived.Test.YtlcblkjgkaiadaaPureLexLib
import Derived.Test.YtlcblkjgkaiadaaX10
namespace Go.Proofs.Ytlcblkjgkaiadaa.Pure
open Go.RowKit Go.Proofs.Ytlcblkjgkaiadaa.X Go.Proofs.YtlcblkjgkaiadaaW.PrintWords Go.Proofs.YtlcblkjgkaiadaaW.PrintLast Go.Proofs.Ytlcblkjgkaiadaa.Lx
set_option linter.unusedVariables false
set_option linter.unusedSimpArgs false
theorem btw_j1_true {x : ByteArray} {a : Int} {r : Int} (h : Ev (fun k => caulkerref06_Between.l0 k x (wrap64 (a + 1))) r) : Ev (fun k => caulkerref06_Between.j1 k x a true) r :=
  Ev.step (fun k => by rw [caulkerref06_Between.j1]) (Ev.pos rfl h)
theorem btw_blank {x : ByteArray} (hx : x.size ≤ 4611686018427387904) {a : Nat} (ha : a < x.size) (hb : blkB x[a] = true) {r : Int} (h : Ev (fun k => caulkerref06_Between.l0 k x ((a + 1 : Nat) : Int)) r) : Ev (fun k => caulkerref06_Between.l0 k x (a : Int)) r := by
  have hj : Ev (fun k => caulkerref06_Between.j1 k x (a : Int) true) r := btw_j1_true (by rw [wrap_succ (n := a + 1) (by omega) (by omega)]; exact h)
  refine Ev.step (fun k => by rw [caulkerref06_Between.l0]) (Ev.pos (by omega) (Ev.pos (by omega) (Ev.ite (fun _ => hj) (fun h1 => Ev.ite (fun _ => hj) (fun h2 => Ev.ite (fun _ => hj) (fun h3 => ?_))))))
  have e : (bt x (a : Int) == 13) = true := by
    rw [beq_iff_eq, (bt_is ha 13 13)]
    have n1 := (not_congr (bt_is ha 32 32)).1 h1
    have n2 := (not_congr (bt_is ha 9 9)).1 h2
    have n3 := (not_congr (bt_is ha 10 10)).1 h3
    simp only [blkB, Bool.or_eq_true, beq_iff_eq] at hb
    rcases hb with ((hb | hb) | hb) | hb
    · exact absurd hb n1
    · exact absurd hb n2
    · exact absurd hb n3
    · exact hb
  rw [e]
  exact hj
theorem btw_other {x : ByteArray} {a : Nat} (ha : a < x.size) (hb : blkB x[a] = false) {r : Int} (h : Ev (fun k => caulkerref06_Between.j1 k x (a : Int) false) r) : Ev (fun k => caulkerref06_Between.l0 k x (a : Int)) r := by
  have n : ∀ (k : Int) (u : UInt8), ((u.toNat : Nat) : Int) = k → blkB u = true → bt x (a : Int) ≠ k := fun k u hk hb2 e => by
    rw [bt_is ha k u hk] at e
    rw [e, hb2] at hb
    cases hb
  refine Ev.step (fun k => by rw [caulkerref06_Between.l0]) (Ev.pos (by omega) (Ev.pos (by omega) (Ev.neg (n 32 32 (by decide) (by decide)) (Ev.neg (n 9 9 (by decide) (by decide)) (Ev.neg (n 10 10 (by decide) (by decide)) ?_)))))
  rw [show (bt x (a : Int) == 13) = false from beq_eq_false_iff_ne.2 (n 13 13 (by decide) (by decide))]
  exact h
theorem btw_j2 {x : ByteArray} {a : Int} : Ev (fun k => caulkerref06_Between.j2 k x a false) a :=
  Ev.step (fun k => by rw [caulkerref06_Between.j2]) (Ev.neg (by decide) (Ev.eq rfl))
theorem btw_step {x : ByteArray} (hx : x.size ≤ 4611686018427387904) {a : Nat} (ha : a < x.size) (hc : x[a] ≠ 10) {r : Int} (h : Ev (fun k => caulkerref06_Between.l1 k x ((a + 1 : Nat) : Int)) r) : Ev (fun k => caulkerref06_Between.l1 k x (a : Int)) r := by
  refine Ev.step (fun k => by rw [caulkerref06_Between.l1]) (Ev.pos (by omega) (Ev.pos (by omega) (Ev.neg ((not_congr (bt_is ha 10 10)).2 hc) ?_)))
  rw [wrap_succ (n := a + 1) (by omega) (by omega)]
  exact h
theorem between_any (x : ByteArray) (hx : x.size ≤ 4611686018427387904) : ∀ (d a : Nat), x.size - a = d → a ≤ x.size →
    Ev (fun k => caulkerref06_Between.l0 k x (a : Int)) ((a + skipN false (x.data.toList.drop a) : Nat) : Int) ∧ Ev (fun k => caulkerref06_Between.l1 k x (a : Int)) ((a + skipN true (x.data.toList.drop a) : Nat) : Int) := by
  intro d
  induction d with
  | zero =>
    intro a h1 h2
    have h0 : Ev (fun k => caulkerref06_Between.l0 k x (a : Int)) (a : Int) := Ev.step (fun k => by rw [caulkerref06_Between.l0]) (Ev.neg (by omega) (Ev.eq rfl))
    rw [drope (by omega)]
    exact ⟨h0, Ev.step (fun k => by rw [caulkerref06_Between.l1]) (Ev.neg (by omega) h0)⟩
  | succ d ih =>
    intro a h1 h2
    have ha : a < x.size := by omega
    obtain ⟨i0, i1⟩ := ih (a + 1) (by omega) (by omega)
    rw [dropn ha]
    have hcom : x[a] ≠ 10 → Ev (fun k => caulkerref06_Between.l1 k x (a : Int)) ((a + skipN true (x[a] :: x.data.toList.drop (a + 1)) : Nat) : Int) := fun hc => by
      rw [skipN, if_neg hc, show a + (skipN true (x.data.toList.drop (a + 1)) + 1) = a + 1 + skipN true (x.data.toList.drop (a + 1)) by omega]
      exact btw_step hx ha hc i1
    have hblk : blkB x[a] = true → Ev (fun k => caulkerref06_Between.l0 k x (a : Int)) ((a + skipN false (x[a] :: x.data.toList.drop (a + 1)) : Nat) : Int) := fun hb => by
      rw [skipN, if_pos hb, show a + (skipN false (x.data.toList.drop (a + 1)) + 1) = a + 1 + skipN false (x.data.toList.drop (a + 1)) by omega]
      exact btw_blank hx ha hb i0
    refine ⟨?_, ?_⟩
    · by_cases hb : blkB x[a] = true
      · exact hblk hb
      · have hb' : blkB x[a] = false := by simpa using hb
        refine btw_other ha hb' (Ev.step (fun k => by rw [caulkerref06_Between.j1]) (Ev.neg (by decide) ?_))
        rw [wrap_succ (n := a + 1) (by omega) (by omega), skipN, if_neg hb]
        have stop : ¬ (x[a] = 47 ∧ (x.data.toList.drop (a + 1)).head? = some 47) → Ev (fun k => caulkerref06_Between.j2 k x (a : Int) false) ((a + (if x[a] = 47 ∧ (x.data.toList.drop (a + 1)).head? = some 47 then skipN true (x.data.toList.drop (a + 1)) + 1 else 0) : Nat) : Int) := fun hn => by
          rw [if_neg hn]
          exact btw_j2
        refine Ev.ite (fun hl => ?_) (fun hl => stop (fun hh => by rw [drope (by omega)] at hh; cases hh.2))
        have hl' : a + 1 < x.size := by omega
        refine Ev.pos (by omega) (Ev.pos (by omega) (Ev.ite (fun h47 => ?_) (fun h47 => stop (fun hh => (not_congr (bt_is ha 47 47)).1 h47 hh.1))))
        have h47' := (bt_is ha 47 47).1 h47
        refine Ev.pos (by omega) ?_
        by_cases h2 : x[a + 1] = 47
        · rw [show (bt x ((a + 1 : Nat) : Int) == 47) = true from beq_iff_eq.2 ((bt_is hl' 47 47).2 h2), if_pos ⟨h47', by rw [dropn hl', h2]; rfl⟩]
          refine Ev.step (fun k => by rw [caulkerref06_Between.j2]) (Ev.pos rfl ?_)
          have hne : x[a] ≠ 10 := by rw [h47']; decide
          have := hcom hne
          rw [skipN, if_neg hne] at this
          exact this
        · rw [show (bt x ((a + 1 : Nat) : Int) == 47) = false from beq_eq_false_iff_ne.2 ((not_congr (bt_is hl' 47 47)).2 h2)]
          refine stop (fun hh => ?_)
          have := hh.2
          rw [dropn hl'] at this
          exact h2 (Option.some.inj this)
    · by_cases hc : x[a] = 10
      · refine Ev.step (fun k => by rw [caulkerref06_Between.l1]) (Ev.pos (by omega) (Ev.pos (by omega) (Ev.pos ((bt_is ha 10 10).2 hc) ?_)))
        have hb : blkB x[a] = true := by rw [hc]; decide
        have := hblk hb
        rw [skipN, if_pos hb] at this
        rw [skipN, if_pos hc]
        exact this
      · exact hcom hc
/-- Between a place and the beginning of a token: of the text's beginning all is skipped. -/
theorem between_cut (s : ByteArray) (hs : s.size ≤ 4611686018427387904) (a k : Nat) (ha : a ≤ s.size) (hk : skipN false (s.data.toList.drop a) = k) : Ev (fun n => caulkerref06_Between.f n (s.extract 0 (a + k)) (a : Int)) ((a + k : Nat) : Int) := by
  have hl := skipN_le false (s.data.toList.drop a)
  rw [hk, List.length_drop, lenl] at hl
  have hx : (s.extract 0 (a + k)).data.toList = s.data.toList.take (a + k) := ext0 _ _
  have hz : (s.extract 0 (a + k)).size = a + k := by
    rw [sizen hx, List.length_take, lenl]
    omega
  have := (between_any (s.extract 0 (a + k)) (by omega) k a (by omega) (by omega)).1
  rw [hx, List.drop_take, Nat.add_sub_cancel_left, ← hk, skipN_take, hk] at this
  unfold caulkerref06_Between.f
  exact this
end Go.Proofs.Ytlcblkjgkaiadaa.Pure
