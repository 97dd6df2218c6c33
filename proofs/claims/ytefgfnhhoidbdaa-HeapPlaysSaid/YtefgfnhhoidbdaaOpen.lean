/- Any argument that is read as data lies in cells of its kind: whole numbers, bools, strings, structs of these, and slices of any of them; no condition. -/
import Derived.Test.YtefgfnhhoidbdaaWa
import Derived.Deep.Slices
import Derived.ProofKit
import Derived.OpenShut
import Derived.ShutString
import Derived.Carry
import Derived.SizedLaws
namespace Go.Proofs.Ytefgfnhhoidbdaa.Op
open Go.ChangeShapes Go.WideShapes Go.RowKit Go.Proofs.YtefgfnhhoidbdaaW.PrintWords Go.Proofs.YtefgfnhhoidbdaaW.PrintLast
set_option linter.unusedVariables false

/-- Whatever is read as a value of type t lies in cells of the kind d, and is good. -/
def Opens {α : Type} (P : Program) (t : TypeId) (d : Kd α) (good : α → Prop) : Prop :=
  ∀ (H : Type) (enc : TypeId × Value → H) (W : World) (base : Nat) (spare : Nat → Bool) (held : Bool) (fuel : Nat) (cs : List Value) (x : DataW H × List MemPlace), DataW.trod enc P W base spare held fuel t cs = some x → ∃ a, d.K W a cs ∧ good a

theorem Opens.int {P : Program} {t : TypeId} {k : IntKind} (ht : P.underlying t = some (.int k)) : Opens P t (Kd.int k) (fun n => (Lit.int k n).wf = true) := by
  intro H enc W base spare held fuel cs x h
  obtain ⟨n, hc, _, hw⟩ := DataW.trod_int ht h
  exact ⟨n, hc, hw⟩
theorem Opens.bool {P : Program} {t : TypeId} (ht : P.underlying t = some .bool) : Opens P t Kd.bool (fun _ => True) := by
  intro H enc W base spare held fuel cs x h
  obtain ⟨n, hc, _⟩ := DataW.trod_bool ht h
  exact ⟨n, hc, trivial⟩
theorem Opens.string {P : Program} {t : TypeId} (ht : P.underlying t = some .string) : Opens P t Kd.string (fun s => s.size ≤ 9223372036854775807) := by
  intro H enc W base spare held fuel cs x h
  obtain ⟨n, hc, _, hw⟩ := DataW.trod_string ht h
  exact ⟨n, hc, by simpa [maxLen] using hw⟩
theorem Opens.iso {P : Program} {t : TypeId} {α β : Type} {d : Kd α} {good : α → Prop} (h : Opens P t d good) (f : β → α) (g : α → β) (hfg : ∀ a, f (g a) = a) : Opens P t (Kd.iso d f) (fun b => good (f b)) := by
  intro H enc W base spare held fuel cs x hx
  obtain ⟨a, ha, hg⟩ := h H enc W base spare held fuel cs x hx
  exact ⟨g a, by show d.K W (f (g a)) cs; rw [hfg]; exact ha, by show good (f (g a)); rw [hfg]; exact hg⟩

/-- The fields of a struct from the offset o on. -/
def Chain {α : Type} (P : Program) (fs : Array Field) (total o : Nat) (d : Kd α) (good : α → Prop) : Prop :=
  ∀ (H : Type) (enc : TypeId × Value → H) (W : World) (base : Nat) (spare : Nat → Bool) (held : Bool) (n : Nat) (cs : List Value) (xs : List (DataW H × List MemPlace)), cs.length = total → xs.length = fs.size →
    (∀ (i : Nat) (f : Field), fs[i]? = some f → DataW.trod enc P W base spare held n f.type ((cs.drop f.offset).take (P.cellsOf f.type)) = xs[i]?) → ∃ a, d.K W a (cs.drop o) ∧ good a

theorem Chain.last {α : Type} {P : Program} {fs : Array Field} {total o : Nat} {d : Kd α} {good : α → Prop} (i : Nat) (f : Field) (hf : fs[i]? = some f) (ho : f.offset = o) (hs : f.offset + P.cellsOf f.type = total) (h : Opens P f.type d good) : Chain P fs total o d good := by
  intro H enc W base spare held n cs xs hl hx hall
  have h1 := hall i f hf
  have hi : i < xs.length := by rw [hx]; exact (Array.getElem?_eq_some_iff.1 hf).1
  rw [List.getElem?_eq_getElem hi, List.take_of_length_le (by rw [List.length_drop]; omega), ho] at h1
  exact h H enc W base spare held n _ _ h1
theorem Chain.cons {α β : Type} {P : Program} {fs : Array Field} {total o : Nat} {d : Kd α} {d2 : Kd β} {good : α → Prop} {good2 : β → Prop} (i : Nat) (f : Field) (hf : fs[i]? = some f) (ho : f.offset = o) (o2 : Nat) (hs : f.offset + P.cellsOf f.type = o2) (h : Opens P f.type d good)
    (h2 : Chain P fs total o2 d2 good2) : Chain P fs total o (Kd.pair d d2) (fun p => good p.1 ∧ good2 p.2) := by
  intro H enc W base spare held n cs xs hl hx hall
  have h1 := hall i f hf
  have hi : i < xs.length := by rw [hx]; exact (Array.getElem?_eq_some_iff.1 hf).1
  rw [List.getElem?_eq_getElem hi] at h1
  obtain ⟨a, ha, hg⟩ := h H enc W base spare held n _ _ h1
  obtain ⟨b, hb, hg2⟩ := h2 H enc W base spare held n cs xs hl hx hall
  refine ⟨(a, b), ⟨_, _, ?_, ha, hb⟩, hg, hg2⟩
  rw [← ho, ← hs, ← List.drop_drop, List.take_append_drop]
theorem Opens.struct {α : Type} {P : Program} {t : TypeId} {fs : Array Field} {total : Nat} {d : Kd α} {good : α → Prop} (ht : P.underlying t = some (.struct fs)) (hC : P.cellsOf t = total) (h : Chain P fs total 0 d good) : Opens P t d good := by
  intro H enc W base spare held fuel cs x hx
  obtain ⟨xs, n, _, _, hl, hxl, hall⟩ := DataW.trod_struct ht hx
  exact h H enc W base spare held n cs xs (hl.trans hC) hxl hall

theorem list_of {α : Type} {p : Nat → α → Prop} : ∀ {n : Nat}, (∀ i, i < n → ∃ a, p i a) → ∃ l : List α, l.length = n ∧ ∀ (i : Nat) (a : α), l[i]? = some a → p i a := by
  intro n
  induction n with
  | zero => exact fun _ => ⟨[], rfl, fun i a h => by simp at h⟩
  | succ n ih =>
    intro h
    obtain ⟨l, hl, hp⟩ := ih (fun i hi => h i (Nat.lt_succ_of_lt hi))
    obtain ⟨a, ha⟩ := h n (Nat.lt_succ_self n)
    refine ⟨l ++ [a], by simp [hl], fun i b hb => ?_⟩
    by_cases hi : i < l.length
    · rw [List.getElem?_append_left hi] at hb
      exact hp i b hb
    · rw [List.getElem?_append_right (by omega)] at hb
      have h0 : i - l.length = 0 := by
        rcases Nat.eq_zero_or_pos (i - l.length) with h0 | h0
        · exact h0
        · rw [List.getElem?_eq_none (by simp; omega)] at hb
          cases hb
      rw [h0] at hb
      simp at hb
      subst hb
      have : i = n := by omega
      subst this
      exact ha

theorem Opens.slice {α : Type} {P : Program} {t e : TypeId} {d : Kd α} {good : α → Prop} (ht : P.underlying t = some (.slice e)) (hs : P.cellsOf e = d.sz) (h : Opens P e d good) : Opens P t (Kd.slice e d) (fun l => ∀ x ∈ l, good x) := by
  intro H enc W base spare held fuel cs x hx
  rcases Deep.open_slice ht hx with ⟨rfl, _⟩ | ⟨a, len, cap, m, n, D, Pl, rfl, hb, hl, hm, hmm, _, hi⟩
  · exact ⟨[], ⟨none, 0, rfl, Nat.le_refl _, ⟨rfl, by simp, fun h0 => absurd h0 (by simp)⟩⟩, fun x hx => by simp at hx⟩
  · have hlm : len ≤ m := by rw [hmm]; split <;> omega
    obtain ⟨l, hll, hp⟩ := list_of (n := len) (p := fun i y => good y ∧ ∃ c, c.length = d.sz ∧ d.K W y c ∧ ∀ j u, c[j]? = some u → W.cell? (a.add (i * d.sz + j)) = some u) (fun i hil => by
      obtain ⟨c, hc, hr⟩ := hi i (by omega)
      obtain ⟨y, hy, hg⟩ := h H enc W base spare held n c _ hr
      obtain ⟨_, hcl, hat⟩ := World.cells?_some hc
      rw [hs] at hcl hat
      refine ⟨y, hg, c, hcl, hy, fun j u hj => ?_⟩
      have hjl : j < d.sz := by rw [← hcl]; exact (List.getElem?_eq_some_iff.1 hj).1
      have := hat j hjl
      rw [Deep.add_add, hj] at this
      exact this)
    subst hll
    refine ⟨l, ⟨some a, cap, rfl, hl, ⟨rfl, by simp [maxLen] at hm; omega, fun _ => ⟨a, rfl, fun j p hj => ?_⟩⟩⟩, fun x hx => ?_⟩
    · obtain ⟨_, c, h1, h2, h3⟩ := hp j p hj
      exact ⟨c, h1, h2, h3⟩
    · obtain ⟨i, hi2, rfl⟩ := List.mem_iff_getElem.1 hx
      exact (hp i _ (List.getElem?_eq_getElem hi2)).1

/-- An argument that is a slice. -/
theorem Opens.arg_slice {H : Type} {enc : TypeId × Value → H} {α : Type} {P : Program} {W : World} {base base' : Nat} {spare : Nat → Bool} {held : Bool} {r : Reach} {t e : TypeId} {v : Value} {D : DataW H} {ps : List MemPlace} {d : Kd α} {good : List α → Prop}
    (ht : P.underlying t = some (.slice e)) (ho : Opens P t (Kd.slice e d) good) (hval : Value.okWide P W r base t v) (hd : DataW.Trod enc P W base' spare held t v D ps) :
    ∃ (A : Option Addr) (c : Nat) (l : List α), v = .slice A l.length c ∧ l.length ≤ c ∧ d.C W A l.length l ∧ good l := by
  obtain ⟨A, n, c, rfl⟩ := okWide_slice ht hval
  obtain ⟨fuel, hf⟩ := hd
  obtain ⟨l, ⟨A', c', hc, hl, hC⟩, hg⟩ := ho H enc W base' spare held fuel _ _ hf
  simp [Value.cells] at hc
  obtain ⟨rfl, rfl, rfl⟩ := hc
  exact ⟨_, _, l, rfl, hl, hC, hg⟩
/-- An argument that is a struct. -/
theorem Opens.arg_struct {H : Type} {enc : TypeId × Value → H} {α : Type} {P : Program} {W : World} {base base' : Nat} {spare : Nat → Bool} {held : Bool} {r : Reach} {t : TypeId} {fs : Array Field} {v : Value} {D : DataW H} {ps : List MemPlace} {d : Kd α} {good : α → Prop}
    (ht : P.underlying t = some (.struct fs)) (ho : Opens P t d good) (hval : Value.okWide P W r base t v) (hd : DataW.Trod enc P W base' spare held t v D ps) :
    ∃ (a : α) (cs : List Value), v = .agg cs.toArray ∧ d.K W a cs ∧ good a := by
  obtain ⟨cs, rfl, _⟩ := okWide_struct ht hval
  obtain ⟨fuel, hf⟩ := hd
  obtain ⟨a, ha, hg⟩ := ho H enc W base' spare held fuel _ _ hf
  exact ⟨a, cs.toList, by simp, by simpa [Value.cells] using ha, hg⟩
/-- The size of a slice that came in: by what may be reached. -/
theorem sized_len {H : Type} {enc : TypeId × Value → H} {P : Program} {W : World} {base : Nat} {spare : Nat → Bool} {held : Bool} {t e : TypeId} {A : Option Addr} {len cap bytes : Nat} {D : DataW H} {ps : List MemPlace} {ts : List TypeId} {ds : List (DataW H)} {j : Nat}
    (h : (DataW.weightsEach P ts ds).all (· ≤ reachBytes) = true) (ht : ts[j]? = some t) (hd : ds[j]? = some D) (hu : P.underlying t = some (.slice e))
    (hD : DataW.Trod enc P W base spare held t (.slice A len cap) D ps) (hb : P.bytesOf e = bytes) : len * bytes ≤ 140737488351232 := by
  obtain ⟨fuel, hf⟩ := hD
  rcases Deep.open_slice hu hf with ⟨hc, hx⟩ | ⟨a, len', cap', m, n, D', Pl, hc, hb0, hl, hm, hmm, hx, hi⟩
  · simp [Value.cells] at hc
    obtain ⟨rfl, rfl, rfl⟩ := hc
    simp
  · simp [Value.cells] at hc
    obtain ⟨rfl, rfl, rfl⟩ := hc
    simp only [Prod.mk.injEq] at hx
    have hw := sized_slice h ht (hd.trans (congrArg some hx.1)) hu
    simp only [List.length_map, List.length_range] at hw
    have h2 : len * bytes ≤ (len + (m - len)) * P.bytesOf e := Nat.mul_le_mul (by omega) (by omega)
    have h3 : reachBytes = 140737488351232 := rfl
    omega
end Go.Proofs.Ytefgfnhhoidbdaa.Op
