/- A graph in memory: what lies in its blocks, and that New makes it. -/
import Derived.Test.YtefgfnhhoidbdaaGraphTheory
import Derived.Test.YtefgfnhhoidbdaaMapV
import Derived.Test.YtefgfnhhoidbdaaX0
import Derived.Test.YtefgfnhhoidbdaaShort4
import Derived.Lib.Hide
import Derived.Deep.LoopGhost
import Derived.Deep.QuietTactic
import Derived.BigQuiet
import Derived.Outline
import Derived.IntWalk
namespace Go.Proofs.Ytefgfnhhoidbdaa.GrW
open Go.RowKit Go.Proofs.YtefgfnhhoidbdaaW.PrintWords Go.Proofs.YtefgfnhhoidbdaaW.PrintLast Go.Proofs.Ytefgfnhhoidbdaa.X Go.Proofs.Ytefgfnhhoidbdaa.Gr
set_option linter.unusedVariables false
set_option linter.unusedSimpArgs false
/-- An edge's beginning and end, by its number. -/
def Fm (es : List S29) (k : Nat) : Int := (es.getD k z29).f0
def Tm (es : List S29) (k : Nat) : Int := (es.getD k z29).f1
def outI (es : List S29) (v : Int) : List Int := (outL es.length (Fm es) v).map fun k : Nat => (k : Int)
/-- The blocks that are the graph's own. -/
def Own (g mb n : Nat) (ev : Value) (f : Int → Value) (k : Nat) : Prop := k = g ∨ k = mb ∨ ev.ownBlock = some k ∨ ∃ v : Int, -1 ≤ v ∧ v < n ∧ (f v).ownBlock = some k
/-- A graph in its blocks. -/
structure GA (g B mb cnt n : Nat) (ev : Value) (f : Int → Value) (es : List S29) (W : World) : Prop where
  le : B ≤ g
  lem : B ≤ mb
  bk : W.heap[g]? = some (.cells #[.int .i64 n, ev, .map (some mb)] 88 (0, 0))
  row : Kd.R k29 29 W B (fun k => ev.ownBlock = some k) ev es
  map : MapV.Is Try.prog 3 mb cnt (.slice none 0 0) f W
  rows : ∀ v : Int, -1 ≤ v → v < n → Kd.R (Kd.int .i64) 3 W B (fun k => (f v).ownBlock = some k) (f v) (outI es v)
  apart : ∀ u v : Int, -1 ≤ u → u < n → -1 ≤ v → v < n → u ≠ v → ∀ k, (f u).ownBlock = some k → (f v).ownBlock ≠ some k
  cnt_le : cnt ≤ es.length
  n_le : n ≤ 8192
  m_le : es.length ≤ 16384
  val : ∀ k, k < es.length → -1 ≤ Fm es k ∧ Fm es k < n ∧ 0 ≤ Tm es k ∧ Tm es k < n
/-- A graph, with the blocks that are its own. -/
def G (g B n : Nat) (es : List S29) (O : Nat → Prop) (W : World) : Prop := ∃ mb cnt ev f, GA g B mb cnt n ev f es W ∧ ∀ k, O k ↔ Own g mb n ev f k
theorem row_own {α : Type} {d : Kd α} {e base : Nat} {ok : Nat → Prop} {v : Value} {xs : List α} {W : World} (h : Kd.R d e W base ok v xs) {k : Nat} (hk : v.ownBlock = some k) : base ≤ k ∧ k < W.heap.size ∧ ∃ cells, W.heap[k]? = some (.cells cells e (0, 0)) := by
  obtain ⟨inner, ho⟩ := Kd.R_own h
  have h1 := own_typed ho k hk
  obtain ⟨cells, hc⟩ := h1
  exact ⟨(ho.lt k hk).1, (ho.lt k hk).2, cells, hc⟩
theorem GA.own_lt {g B mb cnt n : Nat} {ev : Value} {f : Int → Value} {es : List S29} {W : World} (h : GA g B mb cnt n ev f es W) {k : Nat} (hk : Own g mb n ev f k) : B ≤ k ∧ k < W.heap.size := by
  rcases hk with rfl | rfl | hk | ⟨v, h1, h2, hk⟩
  · exact ⟨h.le, blk_lt h.bk⟩
  · exact ⟨h.lem, h.map.lt⟩
  · have := row_own h.row hk; exact ⟨this.1, this.2.1⟩
  · have := row_own (h.rows v h1 h2) hk; exact ⟨this.1, this.2.1⟩
/-- A row of plain things lies in its block alone. -/
theorem R_exact {α : Type} {d : Kd α} {e base : Nat} {ok : Nat → Prop} {v : Value} {xs : List α} {W : World} (h : Kd.R d e W base ok v xs) (hE : d.E = []) : Kd.R d e W base (fun k => v.ownBlock = some k) v xs := by
  obtain ⟨h0, inner, ho, hr⟩ := h
  refine ⟨fun k hk => hk, inner, ho, hr.imp_ (fun _ _ hp => d.M_mono (fun k hk => ?_) (d.M_bound hp))⟩
  obtain ⟨_, _, _, q, hq, _⟩ := hk
  rw [hE] at hq
  cases hq
theorem GA.step {g B mb cnt n : Nat} {ev : Value} {f : Int → Value} {es : List S29} {W W' : World} (h : GA g B mb cnt n ev f es W) (hm : ∀ k, Own g mb n ev f k → W'.heap[k]? = W.heap[k]?) : GA g B mb cnt n ev f es W' :=
  ⟨h.le, h.lem, (hm g (.inl rfl)).trans h.bk, Kd.R_move h.row (fun k hk => hm k (.inr (.inr (.inl hk)))), h.map.step (hm mb (.inr (.inl rfl))), fun v h1 h2 => Kd.R_move (h.rows v h1 h2) (fun k hk => hm k (.inr (.inr (.inr ⟨v, h1, h2, hk⟩)))), h.apart, h.cnt_le, h.n_le, h.m_le, h.val⟩
theorem GA.below {g B mb cnt n : Nat} {ev : Value} {f : Int → Value} {es : List S29} {W W' : World} (h : GA g B mb cnt n ev f es W) (hb : Below W.heap.size W W') : GA g B mb cnt n ev f es W' := h.step (fun k hk => hb.block k (h.own_lt hk).2)
theorem G.step {g B n : Nat} {es : List S29} {O : Nat → Prop} {W W' : World} (h : G g B n es O W) (hm : ∀ k, O k → W'.heap[k]? = W.heap[k]?) : G g B n es O W' := by
  obtain ⟨mb, cnt, ev, f, h1, h2⟩ := h
  exact ⟨mb, cnt, ev, f, h1.step (fun k hk => hm k ((h2 k).2 hk)), h2⟩
theorem G.own_lt {g B n : Nat} {es : List S29} {O : Nat → Prop} {W : World} (h : G g B n es O W) {k : Nat} (hk : O k) : B ≤ k ∧ k < W.heap.size := by
  obtain ⟨mb, cnt, ev, f, h1, h2⟩ := h
  exact h1.own_lt ((h2 k).1 hk)
theorem G.below {g B n : Nat} {es : List S29} {O : Nat → Prop} {W W' : World} (h : G g B n es O W) (hb : Below W.heap.size W W') : G g B n es O W' := h.step (fun k hk => hb.block k (h.own_lt hk).2)
theorem zero43 (W : World) : (zeroValue 43).run Try.prog W = .ok (.slice none 0 0) W := by kernel_rfl
/-- What New has made. -/
def new0 (n : Nat) (w : World) : World := (w.alloc (.map #[] 0)).alloc (.cells #[.int .i64 n, .slice none 0 0, .map (some w.heap.size)] 88)
theorem new0_ga (n : Nat) (hn : n ≤ 8192) (w : World) : GA (w.heap.size + 1) w.heap.size w.heap.size 0 n (.slice none 0 0) (fun _ => .slice none 0 0) [] (new0 n w) := by
  have h1 : (w.alloc (.map #[] 0)).heap.size = w.heap.size + 1 := World.size_alloc _ _
  refine ⟨by omega, Nat.le_refl _, ?_, Kd.R_nil _ _ _ _ _, ?_, fun v _ _ => Kd.R_nil _ _ _ _ _, fun u v _ _ _ _ _ k hk => by simp [Value.ownBlock] at hk, Nat.le_refl _, hn, by decide, fun k hk => by simp at hk⟩
  · have := heap_alloc_new (w.alloc (.map #[] 0)) (.cells #[.int .i64 n, .slice none 0 0, .map (some w.heap.size)] 88)
    rw [h1] at this
    exact this
  · exact (MapV.made w Try.prog 3 (.slice none 0 0)).below (below_alloc (Below.refl _ _) _)
theorem new0_below (n : Nat) (w : World) : Below w.heap.size w (new0 n w) := below_alloc (below_alloc (Below.refl _ _) _) _
set_option maxHeartbeats 4000000 in
set_option maxRecDepth 100000 in
theorem new_bad (n : Int) (w : World) (hn : n < 0 ∨ 8192 < n) : Calls Try.prog 11 #[.int .i64 n] w fun e w' => e = .returned (.tuple #[.pointer none, .int .i64 1]) ∧ w = w' := by
  by_cases h1 : n < 0
  · have k1 : decide (n < 0) = true := decide_eq_true h1
    go_enter Try.func11, Try.ntmps11
    go_wp2
    go_ret2
    exact ⟨rfl, rfl⟩
  · have k1 : decide (n < 0) = false := decide_eq_false h1
    have k2 : decide (8192 < n) = true := decide_eq_true (by omega)
    clear hn
    go_enter Try.func11, Try.ntmps11
    go_wp2
    go_ret2
    exact ⟨rfl, rfl⟩
set_option maxHeartbeats 4000000 in
set_option maxRecDepth 100000 in
theorem new_any (n : Nat) (w : World) (hn : n ≤ 8192) : Calls Try.prog 11 #[.int .i64 (n : Int)] w fun e w' => ∃ g O, e = .returned (.tuple #[.pointer (some ⟨g, 0, none⟩), .int .i64 0]) ∧ G g w.heap.size n [] O w' ∧ Below w.heap.size w w' := by
  have k1 : decide ((n : Int) < 0) = false := decide_eq_false (by omega)
  have k2 : decide (8192 < (n : Int)) = false := decide_eq_false (by omega)
  have HN := Lib.hid hn
  have hmm := @run_makeMap Try.prog
  clear hn
  go_enter Try.func11, Try.ntmps11
  go_wp2
  go_ret2
  exact ⟨_, _, rfl, ⟨_, _, _, _, new0_ga n HN.out w, fun k => Iff.rfl⟩, new0_below n w⟩
end Go.Proofs.Ytefgfnhhoidbdaa.GrW
