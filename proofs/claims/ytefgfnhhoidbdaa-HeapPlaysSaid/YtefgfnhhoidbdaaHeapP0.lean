/- What the law HeapPlays is over: its acts, its own list of cells beside the heap's. -/
import Derived.Test.YtefgfnhhoidbdaaHeapW9
import Derived.Laws.Closers25b
import Derived.Test.YtefgfnhhoidbdaaH26
namespace Go.Proofs.Ytefgfnhhoidbdaa.HpW
open Go.RowKit Go.Proofs.YtefgfnhhoidbdaaW.PrintWords Go.Proofs.YtefgfnhhoidbdaaW.PrintLast Go.Proofs.Ytefgfnhhoidbdaa.H
set_option linter.unusedVariables false
set_option linter.unusedSimpArgs false
/-- An act on a heap. -/
structure S63 where
  f0 : Int
  f1 : ByteArray
  f2 : List S59
  f3 : S59
  f4 : Int
  f5 : S61
  f6 : S61
def z63 : S63 := ⟨0, ⟨#[]⟩, [], z59, 0, z61, z61⟩
def k63 : Kd S63 := Kd.iso (Kd.pair (Kd.int .i64) (Kd.pair Kd.string (Kd.pair (Kd.slice 59 k59) (Kd.pair k59 (Kd.pair (Kd.int .i64) (Kd.pair k61 k61)))))) (fun x : S63 => (x.f0, x.f1, x.f2, x.f3, x.f4, x.f5, x.f6))
theorem k63_open {w : World} {x : S63} {cs : List Value} (h : k63.K w x cs) : ∃ A2 c2, cs = [.int .i64 x.f0, .string x.f1, .slice A2 x.f2.length c2, .int .i64 x.f3.f0, .string x.f3.f1, .int .i64 x.f3.f2, .string x.f3.f3, .int .i64 x.f4, .int .i64 x.f5.f0, .int .i64 x.f5.f1, .string x.f5.f2, .int .i64 x.f6.f0, .int .i64 x.f6.f1, .string x.f6.f2] ∧ x.f2.length ≤ c2 ∧ k59.C w A2 x.f2.length x.f2 := by
  obtain ⟨_, _, rfl, rfl, ⟨_, _, rfl, rfl, ⟨_, _, rfl, ⟨A2, c2, rfl, l2, g2⟩, ⟨_, _, rfl, s1, ⟨_, _, rfl, rfl, ⟨_, _, rfl, s2, s3⟩⟩⟩⟩⟩⟩ := h
  obtain rfl := k59_open s1
  obtain rfl := k61_open s2
  obtain rfl := k61_open s3
  exact ⟨A2, c2, rfl, l2, g2⟩
def rd_T63 (xs : List S63) (i : Int) : S63 := xs.getD i.toNat z63
theorem at_T63 {w : World} {A : Option Addr} {n : Nat} {xs : List S63} (h : Kd.C k63 w A n xs) (i : Int) (h0 : 0 ≤ i) (h1 : i < n) : ∃ ad A2 c2, A = some ad ∧ w.cell? (ad.add (i.toNat * 14)) = some (.int .i64 (rd_T63 xs i).f0) ∧ w.cell? ⟨(ad.add (i.toNat * 14)).block, (ad.add (i.toNat * 14)).off + 1, none⟩ = some (.string (rd_T63 xs i).f1) ∧ w.cell? ⟨(ad.add (i.toNat * 14)).block, (ad.add (i.toNat * 14)).off + 2, none⟩ = some (.slice A2 (rd_T63 xs i).f2.length c2) ∧ w.cell? ⟨(ad.add (i.toNat * 14)).block, (ad.add (i.toNat * 14)).off + 3, none⟩ = some (.int .i64 (rd_T63 xs i).f3.f0) ∧ w.cell? ⟨(ad.add (i.toNat * 14)).block, (ad.add (i.toNat * 14)).off + 4, none⟩ = some (.string (rd_T63 xs i).f3.f1) ∧ w.cell? ⟨(ad.add (i.toNat * 14)).block, (ad.add (i.toNat * 14)).off + 5, none⟩ = some (.int .i64 (rd_T63 xs i).f3.f2) ∧ w.cell? ⟨(ad.add (i.toNat * 14)).block, (ad.add (i.toNat * 14)).off + 6, none⟩ = some (.string (rd_T63 xs i).f3.f3) ∧ w.cell? ⟨(ad.add (i.toNat * 14)).block, (ad.add (i.toNat * 14)).off + 7, none⟩ = some (.int .i64 (rd_T63 xs i).f4) ∧ w.cell? ⟨(ad.add (i.toNat * 14)).block, (ad.add (i.toNat * 14)).off + 8, none⟩ = some (.int .i64 (rd_T63 xs i).f5.f0) ∧ w.cell? ⟨(ad.add (i.toNat * 14)).block, (ad.add (i.toNat * 14)).off + 9, none⟩ = some (.int .i64 (rd_T63 xs i).f5.f1) ∧ w.cell? ⟨(ad.add (i.toNat * 14)).block, (ad.add (i.toNat * 14)).off + 10, none⟩ = some (.string (rd_T63 xs i).f5.f2) ∧ w.cell? ⟨(ad.add (i.toNat * 14)).block, (ad.add (i.toNat * 14)).off + 11, none⟩ = some (.int .i64 (rd_T63 xs i).f6.f0) ∧ w.cell? ⟨(ad.add (i.toNat * 14)).block, (ad.add (i.toNat * 14)).off + 12, none⟩ = some (.int .i64 (rd_T63 xs i).f6.f1) ∧ w.cell? ⟨(ad.add (i.toNat * 14)).block, (ad.add (i.toNat * 14)).off + 13, none⟩ = some (.string (rd_T63 xs i).f6.f2) ∧ (rd_T63 xs i).f2.length ≤ c2 ∧ k59.C w A2 (rd_T63 xs i).f2.length (rd_T63 xs i).f2 := by
  obtain ⟨ad, c, e, _, hK, hc0⟩ := Kd.C_get h z63 i h0 h1
  have hc : ∀ j u, c[j]? = some u → w.cell? (ad.add (i.toNat * 14 + j)) = some u := hc0
  obtain ⟨A2, c2, rfl, l2, g2⟩ := k63_open hK
  exact ⟨ad, A2, c2, e, hc 0 _ rfl, by rw [← add_field _ _ 1 (by omega)]; exact hc 1 _ rfl, by rw [← add_field _ _ 2 (by omega)]; exact hc 2 _ rfl, by rw [← add_field _ _ 3 (by omega)]; exact hc 3 _ rfl, by rw [← add_field _ _ 4 (by omega)]; exact hc 4 _ rfl, by rw [← add_field _ _ 5 (by omega)]; exact hc 5 _ rfl, by rw [← add_field _ _ 6 (by omega)]; exact hc 6 _ rfl, by rw [← add_field _ _ 7 (by omega)]; exact hc 7 _ rfl, by rw [← add_field _ _ 8 (by omega)]; exact hc 8 _ rfl, by rw [← add_field _ _ 9 (by omega)]; exact hc 9 _ rfl, by rw [← add_field _ _ 10 (by omega)]; exact hc 10 _ rfl, by rw [← add_field _ _ 11 (by omega)]; exact hc 11 _ rfl, by rw [← add_field _ _ 12 (by omega)]; exact hc 12 _ rfl, by rw [← add_field _ _ 13 (by omega)]; exact hc 13 _ rfl, l2, g2⟩
/-- An array has no class, an object no type of elements. -/
def WF (cs : List S105) : Prop := ∀ c ∈ cs, (c.f2 = true → c.f0 = ⟨#[]⟩) ∧ (c.f2 = false → c.f1 = z59)
theorem WF.more {cs : List S105} {c : S105} (h : WF cs) (h1 : c.f2 = true → c.f0 = ⟨#[]⟩) (h2 : c.f2 = false → c.f1 = z59) : WF (cs ++ [c]) := fun x hx => by
  rcases List.mem_append.1 hx with h3 | h3
  · exact h x h3
  · obtain rfl := List.mem_singleton.1 h3
    exact ⟨h1, h2⟩
theorem WF.set {cs : List S105} (h : WF cs) (j i : Int) (h0 : 0 ≤ j) (h1 : j < (cs.length : Int)) (v : S61) : WF (setC cs j i v) := fun x hx => by
  unfold setC at hx
  rcases List.mem_or_eq_of_mem_set hx with h3 | h3
  · exact h x h3
  · subst h3
    have hm : rd_T105 cs j ∈ cs := by unfold rd_T105; rw [List.getD_eq_getElem?_getD, List.getElem?_eq_getElem (show j.toNat < cs.length by omega)]; exact List.getElem_mem _
    exact h (rd_T105 cs j) hm
theorem WF.at_ {cs : List S105} (h : WF cs) (j : Nat) (h1 : j < cs.length) : ((rd_T105 cs (j : Int)).f2 = true → (rd_T105 cs (j : Int)).f0 = ⟨#[]⟩) ∧ ((rd_T105 cs (j : Int)).f2 = false → (rd_T105 cs (j : Int)).f1 = z59) := by
  refine h _ ?_
  unfold rd_T105
  rw [Int.toNat_natCast, List.getD_eq_getElem?_getD, List.getElem?_eq_getElem h1]
  exact List.getElem_mem _
/-- The law's heap, and its own list of the same cells; nothing is both's. -/
structure LP (g B : Nat) (O P : Nat → Prop) (lv av : Value) (cs : List S105) (n : Int) (W : World) : Prop where
  hp : HP g B O lv cs n W
  own : Kd.S k105 68 W B P av cs
  off : ∀ k, P k → ¬ O k ∧ k < W.heap.size
  wf : WF cs
theorem LP.below {g B : Nat} {O P : Nat → Prop} {lv av : Value} {cs : List S105} {n : Int} {W W' : World} (h : LP g B O P lv av cs n W) (hb : Below W.heap.size W W') : LP g B O P lv av cs n W' :=
  ⟨h.hp.below hb, Kd.S_below h.own hb, fun k hk => ⟨(h.off k hk).1, Nat.lt_of_lt_of_le (h.off k hk).2 hb.size⟩, h.wf⟩
theorem LP.form {g B : Nat} {O P : Nat → Prop} {lv av : Value} {cs : List S105} {n : Int} {W : World} (h : LP g B O P lv av cs n W) : ∃ A c, av = .slice A cs.length c ∧ cs.length ≤ c ∧ Kd.C k105 W A cs.length cs := Kd.S_reads h.own
/-- Behind a call that changes the heap alone. -/
theorem LP.turned {g B : Nat} {O P O' : Nat → Prop} {lv av lv' : Value} {cs cs' : List S105} {n n' : Int} {W W' : World} (h : LP g B O P lv av cs n W) (hp : HP g B O' lv' cs' n' W') (hk : Keeps B O W W') (hs : ∀ k, O' k → O k ∨ W.heap.size ≤ k) :
    Kd.S k105 68 W' B P av cs ∧ ∀ k, P k → ¬ O' k ∧ k < W'.heap.size :=
  ⟨Kd.S_step h.own (fun k hp hlt => hk.2 k hlt (h.off k hp).1), fun k hp => ⟨fun ho => (hs k ho).elim (h.off k hp).1 (fun h2 => absurd (h.off k hp).2 (Nat.not_lt.2 h2)), Nat.lt_of_lt_of_le (h.off k hp).2 hk.1.size⟩⟩
theorem LP.start {g B : Nat} {W : World} (h : HP g B (fun k => k = g) (.slice none 0 0) [] 0 W) : LP g B (fun k => k = g) (fun _ => False) (.slice none 0 0) (.slice none 0 0) [] 0 W :=
  ⟨h, Kd.S_nil _ _ _ _ _, fun _ hk => hk.elim, fun _ hc => by cases hc⟩
/-- A piece of a code: its first part, its second part. -/
def cL : Code → Code
  | .seq a _ => a
  | .cond _ a _ => a
  | .block _ b => b
  | .loop b => b
  | .scope b => b
  | c => c
def cR : Code → Code
  | .seq _ b => b
  | .cond _ _ b => b
  | c => c
theorem info68 : (Try.prog.info? 68).map (fun i => (i.zero, i.size, i.bytes)) = some (some z105c, 7, 96) := by kernel_rfl
noncomputable def play : Code := Try.f7.body.getD .skip
theorem at_T63b {w w1 : World} {A : Option Addr} {n : Nat} {xs : List S63} (h : Kd.C k63 w A n xs) (hb : Below w.heap.size w w1) (i : Int) (h0 : 0 ≤ i) (h1 : i < n) : ∃ ad A2 c2, A = some ad ∧ w1.cell? (ad.add (i.toNat * 14)) = some (.int .i64 (rd_T63 xs i).f0) ∧ w1.cell? ⟨(ad.add (i.toNat * 14)).block, (ad.add (i.toNat * 14)).off + 1, none⟩ = some (.string (rd_T63 xs i).f1) ∧ w1.cell? ⟨(ad.add (i.toNat * 14)).block, (ad.add (i.toNat * 14)).off + 2, none⟩ = some (.slice A2 (rd_T63 xs i).f2.length c2) ∧ w1.cell? ⟨(ad.add (i.toNat * 14)).block, (ad.add (i.toNat * 14)).off + 3, none⟩ = some (.int .i64 (rd_T63 xs i).f3.f0) ∧ w1.cell? ⟨(ad.add (i.toNat * 14)).block, (ad.add (i.toNat * 14)).off + 4, none⟩ = some (.string (rd_T63 xs i).f3.f1) ∧ w1.cell? ⟨(ad.add (i.toNat * 14)).block, (ad.add (i.toNat * 14)).off + 5, none⟩ = some (.int .i64 (rd_T63 xs i).f3.f2) ∧ w1.cell? ⟨(ad.add (i.toNat * 14)).block, (ad.add (i.toNat * 14)).off + 6, none⟩ = some (.string (rd_T63 xs i).f3.f3) ∧ w1.cell? ⟨(ad.add (i.toNat * 14)).block, (ad.add (i.toNat * 14)).off + 7, none⟩ = some (.int .i64 (rd_T63 xs i).f4) ∧ w1.cell? ⟨(ad.add (i.toNat * 14)).block, (ad.add (i.toNat * 14)).off + 8, none⟩ = some (.int .i64 (rd_T63 xs i).f5.f0) ∧ w1.cell? ⟨(ad.add (i.toNat * 14)).block, (ad.add (i.toNat * 14)).off + 9, none⟩ = some (.int .i64 (rd_T63 xs i).f5.f1) ∧ w1.cell? ⟨(ad.add (i.toNat * 14)).block, (ad.add (i.toNat * 14)).off + 10, none⟩ = some (.string (rd_T63 xs i).f5.f2) ∧ w1.cell? ⟨(ad.add (i.toNat * 14)).block, (ad.add (i.toNat * 14)).off + 11, none⟩ = some (.int .i64 (rd_T63 xs i).f6.f0) ∧ w1.cell? ⟨(ad.add (i.toNat * 14)).block, (ad.add (i.toNat * 14)).off + 12, none⟩ = some (.int .i64 (rd_T63 xs i).f6.f1) ∧ w1.cell? ⟨(ad.add (i.toNat * 14)).block, (ad.add (i.toNat * 14)).off + 13, none⟩ = some (.string (rd_T63 xs i).f6.f2) ∧ k59.C w A2 (rd_T63 xs i).f2.length (rd_T63 xs i).f2 := by
  obtain ⟨ad, A2, c2, e, t0, t1, t2, t3, t4, t5, t6, t7, t8, t9, t10, t11, t12, t13, _, hC⟩ := at_T63 h i h0 h1
  exact ⟨ad, A2, c2, e, (hb.cell (World.block_lt_of_cell? w _ t0)).trans t0, (hb.cell (World.block_lt_of_cell? w _ t1)).trans t1, (hb.cell (World.block_lt_of_cell? w _ t2)).trans t2, (hb.cell (World.block_lt_of_cell? w _ t3)).trans t3, (hb.cell (World.block_lt_of_cell? w _ t4)).trans t4, (hb.cell (World.block_lt_of_cell? w _ t5)).trans t5, (hb.cell (World.block_lt_of_cell? w _ t6)).trans t6, (hb.cell (World.block_lt_of_cell? w _ t7)).trans t7, (hb.cell (World.block_lt_of_cell? w _ t8)).trans t8, (hb.cell (World.block_lt_of_cell? w _ t9)).trans t9, (hb.cell (World.block_lt_of_cell? w _ t10)).trans t10, (hb.cell (World.block_lt_of_cell? w _ t11)).trans t11, (hb.cell (World.block_lt_of_cell? w _ t12)).trans t12, (hb.cell (World.block_lt_of_cell? w _ t13)).trans t13, hC⟩
theorem empty2_eq (t : S59) (h : t.f3.size ≤ 1000000000) : caulkerlaw15_empty.f 2 t.f0 t.f1 t.f2 t.f3 = some ((emV t).f0, (emV t).f1, (emV t).f2) := by
  have key : ∀ b : Bool, b = decide (0 < t.f3.size ∧ bt t.f3 ((t.f3.size - 1 : Nat) : Int) = 111) → caulkerlaw15_empty.j0 (1 + 1) b t.f0 t.f1 t.f2 t.f3 = some ((emV t).f0, (emV t).f1, (emV t).f2) := by
    intro b hb
    rw [caulkerlaw15_empty.j0]
    unfold emV
    by_cases h1 : 0 < t.f3.size ∧ bt t.f3 ((t.f3.size - 1 : Nat) : Int) = 111
    · rw [hb, decide_eq_true h1, if_pos rfl, if_pos h1]; rfl
    · rw [hb, decide_eq_false h1, if_neg (by decide), if_neg h1]
      by_cases h2 : t.f2 > 0
      · rw [if_pos h2, if_pos (.inl h2)]; rfl
      · rw [if_neg h2]
        by_cases h5 : t.f0 = 5
        · rw [if_pos h5, if_pos (.inr (.inl h5))]; rfl
        · rw [if_neg h5]
          by_cases h7 : t.f0 = 7
          · rw [if_pos h7, if_pos (.inr (.inr (.inl h7)))]; rfl
          · rw [if_neg h7]
            show caulkerlaw15_empty.j1 (0 + 1) _ _ _ _ _ = _
            rw [caulkerlaw15_empty.j1]
            by_cases h8 : t.f0 = 8
            · rw [beq_iff_eq.2 h8, if_pos rfl, if_pos (.inr (.inr (.inr h8)))]; rfl
            · rw [beq_eq_false_iff_ne.2 h8, if_neg (by decide), if_neg (show ¬ (t.f2 > 0 ∨ t.f0 = 5 ∨ t.f0 = 7 ∨ t.f0 = 8) from fun h => by rcases h with h | h | h | h; exact h2 h; exact h5 h; exact h7 h; exact h8 h)]
              by_cases h0 : t.f0 = 0
              · rw [if_pos h0, if_pos (show t.f0 = 6 ∨ t.f0 = 0 from .inr h0)]; rfl
              · rw [if_neg h0]
                by_cases h6 : t.f0 = 6
                · rw [if_pos h6, if_pos (show t.f0 = 6 ∨ t.f0 = 0 from .inl h6)]; rfl
                · rw [if_neg h6, if_neg (show ¬ (t.f0 = 6 ∨ t.f0 = 0) from fun h => h.elim h6 h0)]; rfl
  show caulkerlaw15_empty.f (1 + 1) _ _ _ _ = _
  unfold caulkerlaw15_empty.f
  by_cases hs : t.f3.toList = []
  · rw [if_pos hs]
    apply key
    symm
    have h0 : t.f3.size = 0 := by rw [(toList_nil_iff_emptyBytes _).1 hs]; rfl
    exact decide_eq_false (fun e => by omega)
  · have h0 : 0 < t.f3.size := by
      rcases Nat.eq_zero_or_pos t.f3.size with h0 | h0
      · exact absurd ((toList_nil_iff_emptyBytes _).2 (ByteArray.size_eq_zero_iff.1 h0)) hs
      · exact h0
    have hw : wrap64 ((t.f3.size : Int) - 1) = ((t.f3.size - 1 : Nat) : Int) := by rw [wrap_id (by omega) (by omega)]; omega
    rw [if_neg hs, hw, if_pos (by omega), if_pos (by omega)]
    apply key
    rw [Bool.eq_iff_iff, beq_iff_eq, decide_eq_true_iff]
    exact ⟨fun e => ⟨by omega, e⟩, fun e => e.2⟩
theorem empty2_any (t : S59) (w : World) (h : t.f3.size ≤ 1000000000) : Calls Try.prog 26 #[.agg #[.int .i64 t.f0, .string t.f1, .int .i64 t.f2, .string t.f3]] w fun e w' => e = .returned (.agg #[.int .i64 (emV t).f0, .int .i64 (emV t).f1, .string (emV t).f2]) ∧ Below w.heap.size w w' :=
  caulkerlaw15_empty.calls 2 _ _ _ _ _ _ _ w (empty2_eq t h)
theorem pxf14 {W : World} {g : Nat} {t : TypeId} {a0 a1 a2 a3 a4 a5 a6 a7 a8 a9 a10 a11 a12 a13 : Value} (h : Aside0 (W.heap[g]? = some (.cells #[a0, a1, a2, a3, a4, a5, a6, a7, a8, a9, a10, a11, a12, a13] t (0, 0)))) : W.cell? ⟨g, 0, none⟩ = some a0 ∧ W.cell? ⟨g, 1, none⟩ = some a1 ∧ W.cell? ⟨g, 2, none⟩ = some a2 ∧ W.cell? ⟨g, 3, none⟩ = some a3 ∧ W.cell? ⟨g, 4, none⟩ = some a4 ∧ W.cell? ⟨g, 5, none⟩ = some a5 ∧ W.cell? ⟨g, 6, none⟩ = some a6 ∧ W.cell? ⟨g, 7, none⟩ = some a7 ∧ W.cell? ⟨g, 8, none⟩ = some a8 ∧ W.cell? ⟨g, 9, none⟩ = some a9 ∧ W.cell? ⟨g, 10, none⟩ = some a10 ∧ W.cell? ⟨g, 11, none⟩ = some a11 ∧ W.cell? ⟨g, 12, none⟩ = some a12 ∧ W.cell? ⟨g, 13, none⟩ = some a13 ∧ W.frozen? ⟨g, 0, none⟩ = false ∧ W.frozen? ⟨g, 1, none⟩ = false ∧ W.frozen? ⟨g, 2, none⟩ = false ∧ W.frozen? ⟨g, 3, none⟩ = false ∧ W.frozen? ⟨g, 4, none⟩ = false ∧ W.frozen? ⟨g, 5, none⟩ = false ∧ W.frozen? ⟨g, 6, none⟩ = false ∧ W.frozen? ⟨g, 7, none⟩ = false ∧ W.frozen? ⟨g, 8, none⟩ = false ∧ W.frozen? ⟨g, 9, none⟩ = false ∧ W.frozen? ⟨g, 10, none⟩ = false ∧ W.frozen? ⟨g, 11, none⟩ = false ∧ W.frozen? ⟨g, 12, none⟩ = false ∧ W.frozen? ⟨g, 13, none⟩ = false := ⟨(blk_cell h.out 0).trans rfl, (blk_cell h.out 1).trans rfl, (blk_cell h.out 2).trans rfl, (blk_cell h.out 3).trans rfl, (blk_cell h.out 4).trans rfl, (blk_cell h.out 5).trans rfl, (blk_cell h.out 6).trans rfl, (blk_cell h.out 7).trans rfl, (blk_cell h.out 8).trans rfl, (blk_cell h.out 9).trans rfl, (blk_cell h.out 10).trans rfl, (blk_cell h.out 11).trans rfl, (blk_cell h.out 12).trans rfl, (blk_cell h.out 13).trans rfl, blk_frozen h.out 0, blk_frozen h.out 1, blk_frozen h.out 2, blk_frozen h.out 3, blk_frozen h.out 4, blk_frozen h.out 5, blk_frozen h.out 6, blk_frozen h.out 7, blk_frozen h.out 8, blk_frozen h.out 9, blk_frozen h.out 10, blk_frozen h.out 11, blk_frozen h.out 12, blk_frozen h.out 13⟩
end Go.Proofs.Ytefgfnhhoidbdaa.HpW
