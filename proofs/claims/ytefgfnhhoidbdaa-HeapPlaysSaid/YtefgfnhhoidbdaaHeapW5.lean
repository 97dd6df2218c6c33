/- What a type's fields have at first; is there room; how many cells there are. -/
import Derived.Test.YtefgfnhhoidbdaaHeapW4
import Derived.Test.YtefgfnhhoidbdaaH52
namespace Go.Proofs.Ytefgfnhhoidbdaa.HpW
open Go.RowKit Go.Proofs.YtefgfnhhoidbdaaW.PrintWords Go.Proofs.YtefgfnhhoidbdaaW.PrintLast Go.Proofs.Ytefgfnhhoidbdaa.H
set_option linter.unusedVariables false
set_option linter.unusedSimpArgs false
def noS : ByteArray := ⟨#[]⟩
/-- The value that a type's fields and elements have at first. -/
def emV (t : S59) : S61 :=
  if 0 < t.f3.size ∧ bt t.f3 ((t.f3.size - 1 : Nat) : Int) = 111 then ⟨8, 0, noS⟩
  else if t.f2 > 0 ∨ t.f0 = 5 ∨ t.f0 = 7 ∨ t.f0 = 8 then ⟨7, 0, noS⟩
  else if t.f0 = 6 ∨ t.f0 = 0 then ⟨0, 0, noS⟩ else ⟨t.f0, 0, noS⟩
theorem emV_eq (t : S59) (h : t.f3.size ≤ 1000000000) : heap_Empty.f 2 t.f0 t.f1 t.f2 t.f3 = some ((emV t).f0, (emV t).f1, (emV t).f2) := by
  have key : ∀ b : Bool, b = decide (0 < t.f3.size ∧ bt t.f3 ((t.f3.size - 1 : Nat) : Int) = 111) → heap_Empty.j0 (1 + 1) b t.f0 t.f1 t.f2 t.f3 = some ((emV t).f0, (emV t).f1, (emV t).f2) := by
    intro b hb
    rw [heap_Empty.j0]
    unfold emV
    by_cases h1 : 0 < t.f3.size ∧ bt t.f3 ((t.f3.size - 1 : Nat) : Int) = 111
    · rw [hb, decide_eq_true h1, if_pos rfl, if_pos h1]; rfl
    · rw [hb, decide_eq_false h1, if_neg (by decide), if_neg h1]
      by_cases h2 : t.f2 > 0
      · rw [if_pos h2, if_pos (.inl h2)]; rfl
      · rw [if_neg h2]
        by_cases h5 : t.f0 = 5
        · rw [if_pos h5, if_pos (.inr (.inl h5))]; rfl
        · rw [if_neg h5]
          by_cases h7 : t.f0 = 7
          · rw [if_pos h7, if_pos (.inr (.inr (.inl h7)))]; rfl
          · rw [if_neg h7]
            show heap_Empty.j1 (0 + 1) _ _ _ _ _ = _
            rw [heap_Empty.j1]
            by_cases h8 : t.f0 = 8
            · rw [beq_iff_eq.2 h8, if_pos rfl, if_pos (.inr (.inr (.inr h8)))]; rfl
            · rw [beq_eq_false_iff_ne.2 h8, if_neg (by decide), if_neg (show ¬ (t.f2 > 0 ∨ t.f0 = 5 ∨ t.f0 = 7 ∨ t.f0 = 8) from fun h => by rcases h with h | h | h | h; exact h2 h; exact h5 h; exact h7 h; exact h8 h)]
              by_cases h6 : t.f0 = 6
              · rw [if_pos h6, if_pos (show t.f0 = 6 ∨ t.f0 = 0 from .inl h6)]; rfl
              · rw [if_neg h6]
                by_cases h0 : t.f0 = 0
                · rw [if_pos h0, if_pos (show t.f0 = 6 ∨ t.f0 = 0 from .inr h0)]; rfl
                · rw [if_neg h0, if_neg (show ¬ (t.f0 = 6 ∨ t.f0 = 0) from fun h => h.elim h6 h0)]; rfl
  show heap_Empty.f (1 + 1) _ _ _ _ = _
  unfold heap_Empty.f
  by_cases hs : (t.f3.size : Int) > 0
  · have hw : wrap64 ((t.f3.size : Int) - 1) = ((t.f3.size - 1 : Nat) : Int) := by rw [wrap_id (by omega) (by omega)]; omega
    rw [if_pos hs, hw, if_pos (by omega), if_pos (by omega)]
    apply key
    rw [Bool.eq_iff_iff, beq_iff_eq, decide_eq_true_iff]
    exact ⟨fun e => ⟨by omega, e⟩, fun e => e.2⟩
  · rw [if_neg hs]
    apply key
    symm
    exact decide_eq_false (fun e => hs (by omega))
theorem empty_any (t : S59) (w : World) (h : t.f3.size ≤ 1000000000) : Calls Try.prog 52 #[.agg #[.int .i64 t.f0, .string t.f1, .int .i64 t.f2, .string t.f3]] w fun e w' => e = .returned (.agg #[.int .i64 (emV t).f0, .int .i64 (emV t).f1, .string (emV t).f2]) ∧ Below w.heap.size w w' :=
  heap_Empty.calls 2 _ _ _ _ _ _ _ w (emV_eq t h)
set_option maxHeartbeats 8000000 in
set_option maxRecDepth 100000 in
theorem objects_any {g B : Nat} {O : Nat → Prop} {lv : Value} {cs : List S105} {n : Int} (w : World) (h : HP g B O lv cs n w) :
    Calls Try.prog 31 #[.pointer (some ⟨g, 0, none⟩)] w fun e w' => e = .returned (.int .i64 (cs.length : Int)) ∧ Below w.heap.size w w' := by
  obtain ⟨A, c, rfl, hc, _⟩ := h.form
  have HB := Aside0.mk (Below.refl w.heap.size w)
  have GB := Aside0.mk h.bk
  obtain ⟨xGB0, xGB1, yGB0, yGB1⟩ := pxf2 GB
  clear h
  go_enter Try.func31, Try.ntmps31
  go_wp2
  go_ret
  exact ⟨rfl, pxb HB⟩
set_option maxHeartbeats 8000000 in
set_option maxRecDepth 100000 in
theorem cells_any {g B : Nat} {O : Nat → Prop} {lv : Value} {cs : List S105} {n : Int} (w : World) (h : HP g B O lv cs n w) :
    Calls Try.prog 32 #[.pointer (some ⟨g, 0, none⟩)] w fun e w' => e = .returned (.int .i64 n) ∧ Below w.heap.size w w' := by
  obtain ⟨A, c, rfl, hc, _⟩ := h.form
  have HB := Aside0.mk (Below.refl w.heap.size w)
  have GB := Aside0.mk h.bk
  obtain ⟨xGB0, xGB1, yGB0, yGB1⟩ := pxf2 GB
  clear h
  go_enter Try.func32, Try.ntmps32
  go_wp2
  go_ret
  exact ⟨rfl, pxb HB⟩
/-- Is there room? -/
def roomB (cs : List S105) (n q : Int) : Bool := decide (0 ≤ q) && decide (q ≤ 65536 - n) && decide ((cs.length : Int) < 4096)
set_option maxHeartbeats 8000000 in
set_option maxRecDepth 100000 in
theorem room_any {g B : Nat} {O : Nat → Prop} {lv : Value} {cs : List S105} {n : Int} (q : Int) (w : World) (h : HP g B O lv cs n w) (hn : -1000000 ≤ n ∧ n ≤ 1000000) :
    Calls Try.prog 51 #[.pointer (some ⟨g, 0, none⟩), .int .i64 q] w fun e w' => e = .returned (.bool (roomB cs n q)) ∧ Below w.heap.size w w' := by
  obtain ⟨A, c, rfl, hc, _⟩ := h.form
  have HB := Aside0.mk (Below.refl w.heap.size w)
  have GB := Aside0.mk h.bk
  obtain ⟨xGB0, xGB1, yGB0, yGB1⟩ := pxf2 GB
  clear h
  have hw : wrap64 (65536 - n) = 65536 - n := wrap_id (by omega) (by omega)
  have HWN := Aside0.mk hw
  unfold roomB
  by_cases h1 : 0 ≤ q
  · have k1 : decide (0 ≤ q) = true := decide_eq_true h1
    by_cases h2 : q ≤ 65536 - n
    · have k2 : decide (q ≤ 65536 - n) = true := decide_eq_true h2
      have k2' : decide (q ≤ wrap64 (65536 - n)) = true := by rw [hw]; exact k2
      clear hw
      go_enter Try.func51, Try.ntmps51
      go_wp2
      go_ret
      exact ⟨by first | rfl | (rw [k1, k2]; rfl), pxb HB⟩
    · have k2 : decide (q ≤ 65536 - n) = false := decide_eq_false h2
      have k2' : decide (q ≤ wrap64 (65536 - n)) = false := by rw [hw]; exact k2
      clear hw
      go_enter Try.func51, Try.ntmps51
      go_wp2
      go_ret
      exact ⟨by first | rfl | (rw [k1, k2]; rfl), pxb HB⟩
  · have k1 : decide (0 ≤ q) = false := decide_eq_false h1
    clear hw
    go_enter Try.func51, Try.ntmps51
    go_wp2
    go_ret
    exact ⟨by first | rfl | (rw [k1]; rfl), pxb HB⟩
end Go.Proofs.Ytefgfnhhoidbdaa.HpW
