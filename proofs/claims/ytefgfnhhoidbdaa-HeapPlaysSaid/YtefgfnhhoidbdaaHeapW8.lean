/- The head of the heap's laws: an object with a field, and an array. -/
import Derived.Test.YtefgfnhhoidbdaaHeapW7
import Derived.Test.YtefgfnhhoidbdaaHE61
import Derived.Test.YtefgfnhhoidbdaaH44
import Derived.Test.YtefgfnhhoidbdaaH45
import Derived.Test.YtefgfnhhoidbdaaH46
import Derived.Test.YtefgfnhhoidbdaaH47
import Derived.Test.YtefgfnhhoidbdaaH48
import Derived.Test.YtefgfnhhoidbdaaH49
import Derived.Test.YtefgfnhhoidbdaaH50
namespace Go.Proofs.Ytefgfnhhoidbdaa.HpW
open Go.RowKit Go.Proofs.YtefgfnhhoidbdaaW.PrintWords Go.Proofs.YtefgfnhhoidbdaaW.PrintLast Go.Proofs.Ytefgfnhhoidbdaa.H
attribute [local go_sem high] eqA61
set_option linter.unusedVariables false
set_option linter.unusedSimpArgs false
/-- A heap at its start. -/
theorem HP.init {g : Nat} {W : World} {B : Nat} (h : W.heap[g]? = some (.cells #[.slice none 0 0, .int .i64 0] 55 (0, 0))) (hB : B ≤ g) : HP g B (fun k => k = g) (.slice none 0 0) [] 0 W :=
  ⟨h, Kd.S_nil _ _ _ _ _, rfl, fun k hk => hk ▸ blk_lt h, hB⟩
abbrev tA : S59 := ⟨1, ⟨#[]⟩, 0, ⟨#[32]⟩⟩
abbrev tB : S59 := ⟨5, ⟨#[65]⟩, 0, ⟨#[32]⟩⟩
abbrev tC : S59 := ⟨2, ⟨#[]⟩, 0, ⟨#[32]⟩⟩
abbrev vA : S61 := ⟨5, 0, ⟨#[]⟩⟩
abbrev vB : S61 := ⟨5, 1, ⟨#[]⟩⟩
def kc1 : List S105 := [] ++ [⟨⟨#[65]⟩, z59, false, [tA, tB].map emV⟩]
def kc2 : List S105 := kc1 ++ [⟨⟨#[]⟩, tC, true, List.replicate (3 : Int).toNat (emV tC)⟩]
def kc3 : List S105 := setC kc2 0 1 vB
theorem kc1_len : kc1.length = 1 := rfl
theorem kc2_len : kc2.length = 2 := rfl
theorem kc3_len : kc3.length = 2 := rfl
theorem kc2_at : (rd_T105 kc2 vA.f1).f3.length = 2 := rfl
theorem kc3_a : (rd_T105 kc3 vA.f1).f3.length = 2 := rfl
theorem kc3_b : (rd_T105 kc3 vB.f1).f3.length = 3 := rfl
theorem kc3_a1 : rd_T61 (rd_T105 kc3 vA.f1).f3 1 = vB := rfl
theorem emC : emV tC = ⟨2, 0, ⟨#[]⟩⟩ := by
  unfold emV
  rw [if_neg (by decide +kernel), if_neg (by decide), if_neg (by decide)]
  rfl
theorem kc3_b2 : rd_T61 (rd_T105 kc3 vB.f1).f3 2 = ⟨2, 0, ⟨#[]⟩⟩ := (by kernel_rfl : rd_T61 (rd_T105 kc3 vB.f1).f3 2 = emV tC).trans emC
theorem kc3_ca : (rd_T105 kc3 vA.f1).f0 = ⟨#[65]⟩ := rfl
theorem kc3_fa : (rd_T105 kc3 vA.f1).f2 = false := rfl
theorem kc3_fb : (rd_T105 kc3 vB.f1).f2 = true := rfl
theorem room0 : roomB [] 0 (([tA, tB].length : Nat) : Int) = true := by decide +kernel
theorem room1 : roomB kc1 2 3 = true := by decide +kernel
theorem lit_reps (W : World) (base : Nat) (okp : Nat → Prop) : Reps (k59.M W base okp) k59.sz [tA, tB] [.int .i64 1, .string ⟨#[]⟩, .int .i64 0, .string ⟨#[32]⟩, .int .i64 5, .string ⟨#[65]⟩, .int .i64 0, .string ⟨#[32]⟩] := by
  refine ⟨rfl, fun j p hj => ?_⟩
  match j, hj with
  | 0, hj => obtain rfl : tA = p := by simpa using hj
             exact k59_mkM W base okp tA
  | 1, hj => obtain rfl : tB = p := by simpa using hj
             exact k59_mkM W base okp tB
  | j + 2, hj => simp at hj
theorem k_load {g B b c0 : Nat} {O : Nat → Prop} (w : World) (h : HP g B O (.slice (some ⟨b, 0, none⟩) kc3.length c0) kc3 5 w) : Calls Try.prog 29 #[.pointer (some ⟨g, 0, none⟩), .agg #[.int .i64 5, .int .i64 0, .string ⟨#[]⟩], .int .i64 1] w fun e w' => e = .returned (.tuple #[.agg #[.int .i64 5, .int .i64 1, .string ⟨#[]⟩], .int .i64 0]) ∧ Below w.heap.size w w' := by
  have h1 := load_in vA 1 w h ⟨rfl, by decide, by decide⟩ (by decide) (by rw [kc3_a]; decide)
  rw [kc3_a1] at h1
  exact h1
theorem k_load2 {g B b c0 : Nat} {O : Nat → Prop} (w : World) (h : HP g B O (.slice (some ⟨b, 0, none⟩) kc3.length c0) kc3 5 w) : Calls Try.prog 29 #[.pointer (some ⟨g, 0, none⟩), .agg #[.int .i64 5, .int .i64 1, .string ⟨#[]⟩], .int .i64 2] w fun e w' => e = .returned (.tuple #[.agg #[.int .i64 2, .int .i64 0, .string ⟨#[]⟩], .int .i64 0]) ∧ Below w.heap.size w w' := by
  have h1 := load_in vB 2 w h ⟨rfl, by decide, by decide⟩ (by decide) (by rw [kc3_b]; decide)
  rw [kc3_b2] at h1
  exact h1
theorem k_classA {g B b c0 : Nat} {O : Nat → Prop} (w : World) (h : HP g B O (.slice (some ⟨b, 0, none⟩) kc3.length c0) kc3 5 w) : Calls Try.prog 33 #[.pointer (some ⟨g, 0, none⟩), .agg #[.int .i64 5, .int .i64 0, .string ⟨#[]⟩]] w fun e w' => e = .returned (.tuple #[.string ⟨#[65]⟩, .bool true]) ∧ Below w.heap.size w w' := by
  have h1 := class_obj vA w h ⟨rfl, by decide, by decide⟩ kc3_fa
  rw [kc3_ca] at h1
  exact h1
theorem k_classB {g B b c0 : Nat} {O : Nat → Prop} (w : World) (h : HP g B O (.slice (some ⟨b, 0, none⟩) kc3.length c0) kc3 5 w) : Calls Try.prog 33 #[.pointer (some ⟨g, 0, none⟩), .agg #[.int .i64 5, .int .i64 1, .string ⟨#[]⟩]] w fun e w' => e = .returned (.tuple #[.string ⟨#[]⟩, .bool false]) ∧ Below w.heap.size w w' := by
  have h1 := class_arr vB w h ⟨rfl, by decide, by decide⟩ kc3_fb
  exact h1
theorem k_lenB {g B b c0 : Nat} {O : Nat → Prop} (w : World) (h : HP g B O (.slice (some ⟨b, 0, none⟩) kc3.length c0) kc3 5 w) : Calls Try.prog 35 #[.pointer (some ⟨g, 0, none⟩), .agg #[.int .i64 5, .int .i64 1, .string ⟨#[]⟩]] w fun e w' => e = .returned (.int .i64 3) ∧ Below w.heap.size w w' := by
  have h1 := len_yes vB w h ⟨rfl, by decide, by decide⟩
  rw [kc3_b] at h1
  exact h1
theorem k_objs {g B b c0 : Nat} {O : Nat → Prop} (w : World) (h : HP g B O (.slice (some ⟨b, 0, none⟩) kc3.length c0) kc3 5 w) : Calls Try.prog 31 #[.pointer (some ⟨g, 0, none⟩)] w fun e w' => e = .returned (.int .i64 2) ∧ Below w.heap.size w w' := by
  have h1 := objects_any w h
  rw [kc3_len] at h1
  exact h1
theorem k_cells {g B b c0 : Nat} {O : Nat → Prop} (w : World) (h : HP g B O (.slice (some ⟨b, 0, none⟩) kc3.length c0) kc3 5 w) : Calls Try.prog 32 #[.pointer (some ⟨g, 0, none⟩)] w fun e w' => e = .returned (.int .i64 5) ∧ Below w.heap.size w w' := by
  have h1 := cells_any w h
  exact h1
theorem k_object {g B : Nat} {At : Option Addr} {ct : Nat} (w : World) (h : HP g B (fun k => k = g) (.slice none 0 0) [] 0 w) (hC : Kd.C k59 w At 2 [tA, tB]) : Calls Try.prog 25 #[.pointer (some ⟨g, 0, none⟩), .string ⟨#[65]⟩, .slice At 2 ct] w fun e w' => e = .returned (.tuple #[.agg #[.int .i64 5, .int .i64 0, .string ⟨#[]⟩], .int .i64 0]) ∧ ∃ lv' O', HP g B O' lv' kc1 2 w' ∧ Keeps B (fun k => k = g) w w' ∧ ∀ k, O' k → k = g ∨ w.heap.size ≤ k :=
  object_ok ⟨#[65]⟩ At ct [tA, tB] w h hC (by intro t ht; rcases List.mem_cons.1 ht with rfl | ht; decide; rcases List.mem_cons.1 ht with rfl | ht; decide; cases ht) (by decide) (by decide) (by decide) room0
theorem k_array {g B : Nat} {O : Nat → Prop} {lv : Value} (w : World) (h : HP g B O lv kc1 2 w) : Calls Try.prog 28 #[.pointer (some ⟨g, 0, none⟩), .agg #[.int .i64 2, .string ⟨#[]⟩, .int .i64 0, .string ⟨#[32]⟩], .int .i64 3] w fun e w' => e = .returned (.tuple #[.agg #[.int .i64 5, .int .i64 1, .string ⟨#[]⟩], .int .i64 0]) ∧ ∃ b2 c2 O', HP g B O' (.slice (some ⟨b2, 0, none⟩) 2 c2) kc2 5 w' ∧ Keeps B O w w' ∧ ∀ k, O' k → O k ∨ w.heap.size ≤ k := by
  refine (array_ok tC 3 w h (by decide) (by decide) (by decide) (by decide) (by decide) room1).mono ?_
  rintro e w' ⟨rfl, lv', O', hp, hk, hs⟩
  have hp2 : HP g B O' lv' kc2 5 w' := hp
  obtain ⟨b2, c2, rfl, _, _, _⟩ := hp2.form2 (by decide)
  exact ⟨rfl, b2, c2, O', hp2, hk, hs⟩
theorem k_store {g B b c0 : Nat} {O : Nat → Prop} (w : World) (h : HP g B O (.slice (some ⟨b, 0, none⟩) 2 c0) kc2 5 w) : Calls Try.prog 30 #[.pointer (some ⟨g, 0, none⟩), .agg #[.int .i64 5, .int .i64 0, .string ⟨#[]⟩], .int .i64 1, .agg #[.int .i64 5, .int .i64 1, .string ⟨#[]⟩]] w fun e w' => e = .returned (.int .i64 0) ∧ HP g B O (.slice (some ⟨b, 0, none⟩) kc3.length c0) kc3 5 w' ∧ Keeps B O w w' := by
  have h1 := store_in (cs := kc2) vA 1 vB w h ⟨rfl, by decide, by decide⟩ (by decide) (by rw [kc2_at]; decide)
  exact h1
set_option maxHeartbeats 16000000 in
set_option maxRecDepth 100000 in
theorem keeps_any (w : World) : Calls Try.prog 24 #[] w fun e w' => e = .returned (.bool true) ∧ Below w.heap.size w w' := by
  have HB := Aside0.mk (Below.refl w.heap.size w)
  have tok_o : True := trivial
  have tok_a : True := trivial
  have tok_s : True := trivial
  have tok_l : True := trivial
  have tok_ca : True := trivial
  have tok_cb : True := trivial
  have tok_l2 : True := trivial
  have tok_bo : True := trivial
  have tok_le : True := trivial
  have tok_ob : True := trivial
  have tok_ce : True := trivial
  have tok_w1 : True := trivial
  have tok_op : True := trivial
  have tok_w2 : True := trivial
  have tok_at : True := trivial
  have tok_sa : True := trivial
  have tok_in : True := trivial
  have tok_st : True := trivial
  have tok_do : True := trivial
  go_enter Try.func24, Try.ntmps24
  go_wp2_with (first | ((with_reducible refine gate_dst (N := 1) rfl ?_); refine box_event ?hg (N := 1) ?hd (cs := #[.slice none 0 0, .int .i64 0]) (t := 55) ?hr ?_; (case hd => rfl); (case hg => rfl); (case hr => first | (go_simp; done) | (go_simp; rfl)); intro g hg w1 hbox hb; have NWGB := Aside0.mk hbox; have GWGB := Aside0.mk ((by rw [hg]; exact (below_size (pxb HB)) : w.heap.size ≤ g)); clear hg hbox; have n0_ := pxs HB hb; clear HB ; have HB := n0_; clear n0_; have GB := NWGB; clear NWGB hb; obtain ⟨xGB0, xGB1, yGB0, yGB1⟩ := pxf2 GB; have HP0 := Aside0.mk (HP.init (B := w.heap.size) (pxp GB) GWGB.out); have HX := Aside0.mk (Below.refl w1.heap.size w1); clear GB xGB0 xGB1 yGB0 yGB1) | ((with_reducible refine gate_dst (N := 18) rfl ?_); refine Kd.R_lit k59 _ 59 ?hg (N := 18) ?hd (xs := [tA, tB]) (inner := [.int .i64 1, .string ⟨#[]⟩, .int .i64 0, .string ⟨#[32]⟩, .int .i64 5, .string ⟨#[65]⟩, .int .i64 0, .string ⟨#[32]⟩]) (ok := fun _ => True) (okp := fun _ => False) ?hr ?hp (fun _ hk => hk.elim) trivial (Below.refl _ _) (Nat.le_refl _) (by simp) ?_; (case hd => rfl); (case hg => rfl); (case hr => first | (go_simp; done) | (go_simp; rfl)); (case hp => exact lit_reps _ _ _); intro qv w2 ho hb hg_ hnew_; clear hg_ hnew_; have n0_ := pxs HB hb; have nHX_ := pxs HX hb; clear HB HX ; have HB := n0_; clear n0_; have HX := nHX_; clear nHX_; clear hb; obtain ⟨At, ct, rfl, _, hC⟩ := Kd.R_reads ho; have HC := Aside0.mk hC; clear ho hC) | (clear tok_o; go_at_call 25; (with_reducible refine (k_object _ (HP0.out.below (pxb HX)) HC.out).mono ?_); rintro e w3 ⟨rfl, lv1, O1, hp, hk, hs⟩; have nHB := Aside0.mk ((pxb HB).trans hk.1); have nHP := Aside0.mk (show HP g w.heap.size O1 lv1 kc1 2 w3 from hp); clear hk hp hs HB HX HP0 HC ; have HB := nHB; have HP1 := nHP; clear nHB nHP; have HX := Aside0.mk (Below.refl w3.heap.size w3)) | ((with_reducible refine gate_dst (N := 2) rfl ?_); refine box_event ?hg (N := 2) ?hd (cs := #[.int .i64 0, .int .i64 0, .string ⟨#[]⟩]) (t := 61) ?hr ?_; (case hd => rfl); (case hg => rfl); (case hr => first | (go_simp; done) | (go_simp; rfl)); intro ga hg w4 hbox hb; have NWAB := Aside0.mk hbox; have GWAB := Aside0.mk ((by rw [hg]; exact (below_size (pxb HB)) : w.heap.size ≤ ga)); have GWHXAB := Aside0.mk ((by rw [hg]; exact (below_size (pxb HX))) : w3.heap.size ≤ ga); clear hg hbox; have n0_ := pxs HB hb; have nHX_ := pxs HX hb; clear HB HX ; have HB := n0_; clear n0_; have HX := nHX_; clear nHX_; have AB := NWAB; clear NWAB hb; obtain ⟨xAB0, xAB1, xAB2, yAB0, yAB1, yAB2⟩ := pxf3 AB; have NOAB := Aside0.mk (fun h => by have h1 := HP1.out.lt ga h; have := GWHXAB.out; omega : ¬ O1 ga); have hgAB := GWAB.out; have hxAB := GWHXAB.out) | (clear tok_a; go_at_call 28; (with_reducible refine (k_array _ (HP1.out.below (pxb HX))).mono ?_); rintro e w5 ⟨rfl, b2, c2, O2, hp, hk, hs⟩; have nHB := Aside0.mk ((pxb HB).trans hk.1); have nAB := Aside0.mk (show w5.heap[ga]? = some (.cells #[.int .i64 5, .int .i64 0, .string ⟨#[]⟩] 61 (0, 0)) from (hk.2 ga (blk_lt (pxp (o := .cells #[.int .i64 5, .int .i64 0, .string ⟨#[]⟩] 61 (0, 0)) AB)) NOAB.out).trans (pxp (o := .cells #[.int .i64 5, .int .i64 0, .string ⟨#[]⟩] 61 (0, 0)) AB)); have nNOAB := Aside0.mk (fun h => by rcases hs ga h with h1 | h1; exact NOAB.out h1; exact absurd h1 (Nat.not_le.2 (blk_lt (pxp (o := .cells #[.int .i64 5, .int .i64 0, .string ⟨#[]⟩] 61 (0, 0)) AB))) : ¬ O2 ga); have nHP := Aside0.mk (show HP g w.heap.size O2 (.slice (some ⟨b2, 0, none⟩) 2 c2) kc2 5 w5 from hp); clear hk hp hs HB HX HP1 AB NOAB xAB0 yAB0 xAB1 yAB1 xAB2 yAB2; have HB := nHB; have HP2 := nHP; clear nHB nHP; have AB := nAB; have NOAB := nNOAB; clear nAB nNOAB; obtain ⟨xAB0, xAB1, xAB2, yAB0, yAB1, yAB2⟩ := pxf3 AB; have HX := Aside0.mk (Below.refl w5.heap.size w5)) | ((with_reducible refine gate_dst (N := 4) rfl ?_); refine box_event ?hg (N := 4) ?hd (cs := #[.int .i64 0, .int .i64 0, .string ⟨#[]⟩]) (t := 61) ?hr ?_; (case hd => rfl); (case hg => rfl); (case hr => first | (go_simp; done) | (go_simp; rfl)); intro gb hg w6 hbox hb; have NWBB := Aside0.mk hbox; have GWBB := Aside0.mk ((by rw [hg]; exact (below_size (pxb HB)) : w.heap.size ≤ gb)); have GWHXBB := Aside0.mk ((by rw [hg]; exact (below_size (pxb HX))) : w5.heap.size ≤ gb); have NEABBB := Aside0.mk (show ga ≠ gb by rw [hg]; exact Nat.ne_of_lt (blk_lt (pxp (o := .cells #[.int .i64 5, .int .i64 0, .string ⟨#[]⟩] 61 (0, 0)) AB))); have NEBBAB := Aside0.mk (Ne.symm NEABBB.out); have eABBB := NEABBB.out; have eBBAB := NEBBAB.out; clear hg hbox; have n0_ := pxs HB hb; have nAB_ : Aside0 (w6.heap[ga]? = some (.cells #[.int .i64 5, .int .i64 0, .string ⟨#[]⟩] 61 (0, 0))) := ⟨blk_below (pxp AB) hb⟩; have nHX_ := pxs HX hb; clear HB HX AB; have HB := n0_; clear n0_; have HX := nHX_; clear nHX_; have AB := nAB_; clear nAB_; have BB := NWBB; clear NWBB hb; obtain ⟨xAB0, xAB1, xAB2, yAB0, yAB1, yAB2⟩ := pxf3 AB; obtain ⟨xBB0, xBB1, xBB2, yBB0, yBB1, yBB2⟩ := pxf3 BB; have NOBB := Aside0.mk (fun h => by have h1 := HP2.out.lt gb h; have := GWHXBB.out; omega : ¬ O2 gb); have hgBB := GWBB.out; have hxBB := GWHXBB.out) | (clear tok_s; go_at_call 30; (with_reducible refine (k_store _ (HP2.out.below (pxb HX))).mono ?_); rintro e w7 ⟨rfl, hp, hk⟩; have nHB := Aside0.mk ((pxb HB).trans hk.1); have nAB := Aside0.mk (show w7.heap[ga]? = some (.cells #[.int .i64 5, .int .i64 0, .string ⟨#[]⟩] 61 (0, 0)) from (hk.2 ga (blk_lt (pxp (o := .cells #[.int .i64 5, .int .i64 0, .string ⟨#[]⟩] 61 (0, 0)) AB)) NOAB.out).trans (pxp (o := .cells #[.int .i64 5, .int .i64 0, .string ⟨#[]⟩] 61 (0, 0)) AB)); have nNOAB := Aside0.mk (fun h => by exact NOAB.out h : ¬ O2 ga); have nBB := Aside0.mk (show w7.heap[gb]? = some (.cells #[.int .i64 5, .int .i64 1, .string ⟨#[]⟩] 61 (0, 0)) from (hk.2 gb (blk_lt (pxp (o := .cells #[.int .i64 5, .int .i64 1, .string ⟨#[]⟩] 61 (0, 0)) BB)) NOBB.out).trans (pxp (o := .cells #[.int .i64 5, .int .i64 1, .string ⟨#[]⟩] 61 (0, 0)) BB)); have nNOBB := Aside0.mk (fun h => by exact NOBB.out h : ¬ O2 gb); have nHP := Aside0.mk (show HP g w.heap.size O2 (.slice (some ⟨b2, 0, none⟩) kc3.length c2) kc3 5 w7 from hp); clear hk hp HB HX HP2 AB NOAB xAB0 yAB0 xAB1 yAB1 xAB2 yAB2 BB NOBB xBB0 yBB0 xBB1 yBB1 xBB2 yBB2; have HB := nHB; have HP3 := nHP; clear nHB nHP; have AB := nAB; have NOAB := nNOAB; clear nAB nNOAB; obtain ⟨xAB0, xAB1, xAB2, yAB0, yAB1, yAB2⟩ := pxf3 AB; have BB := nBB; have NOBB := nNOBB; clear nBB nNOBB; obtain ⟨xBB0, xBB1, xBB2, yBB0, yBB1, yBB2⟩ := pxf3 BB; have HX := Aside0.mk (Below.refl w7.heap.size w7)) | (clear tok_l; go_at_call 29; (with_reducible refine (k_load _ (HP3.out.below (pxb HX))).mono ?_); rintro e w8 ⟨rfl, hb⟩; have n0_ := pxs HB hb; have nAB_ : Aside0 (w8.heap[ga]? = some (.cells #[.int .i64 5, .int .i64 0, .string ⟨#[]⟩] 61 (0, 0))) := ⟨blk_below (pxp AB) hb⟩; have nBB_ : Aside0 (w8.heap[gb]? = some (.cells #[.int .i64 5, .int .i64 1, .string ⟨#[]⟩] 61 (0, 0))) := ⟨blk_below (pxp BB) hb⟩; have nHX_ := pxs HX hb; clear HB HX AB BB; have HB := n0_; clear n0_; have HX := nHX_; clear nHX_; have AB := nAB_; clear nAB_; have BB := nBB_; clear nBB_; clear hb; obtain ⟨xAB0, xAB1, xAB2, yAB0, yAB1, yAB2⟩ := pxf3 AB; obtain ⟨xBB0, xBB1, xBB2, yBB0, yBB1, yBB2⟩ := pxf3 BB) | ((with_reducible refine gate_dst (N := 7) rfl ?_); refine box_event ?hg (N := 7) ?hd (cs := #[.int .i64 0, .int .i64 0, .string ⟨#[]⟩]) (t := 61) ?hr ?_; (case hd => rfl); (case hg => rfl); (case hr => first | (go_simp; done) | (go_simp; rfl)); intro gv hg w9 hbox hb; have NWVB := Aside0.mk hbox; have GWVB := Aside0.mk ((by rw [hg]; exact (below_size (pxb HB)) : w.heap.size ≤ gv)); have GWHXVB := Aside0.mk ((by rw [hg]; exact (below_size (pxb HX))) : w7.heap.size ≤ gv); have NEABVB := Aside0.mk (show ga ≠ gv by rw [hg]; exact Nat.ne_of_lt (blk_lt (pxp (o := .cells #[.int .i64 5, .int .i64 0, .string ⟨#[]⟩] 61 (0, 0)) AB))); have NEVBAB := Aside0.mk (Ne.symm NEABVB.out); have eABVB := NEABVB.out; have eVBAB := NEVBAB.out; have NEBBVB := Aside0.mk (show gb ≠ gv by rw [hg]; exact Nat.ne_of_lt (blk_lt (pxp (o := .cells #[.int .i64 5, .int .i64 1, .string ⟨#[]⟩] 61 (0, 0)) BB))); have NEVBBB := Aside0.mk (Ne.symm NEBBVB.out); have eBBVB := NEBBVB.out; have eVBBB := NEVBBB.out; clear hg hbox; have n0_ := pxs HB hb; have nAB_ : Aside0 (w9.heap[ga]? = some (.cells #[.int .i64 5, .int .i64 0, .string ⟨#[]⟩] 61 (0, 0))) := ⟨blk_below (pxp AB) hb⟩; have nBB_ : Aside0 (w9.heap[gb]? = some (.cells #[.int .i64 5, .int .i64 1, .string ⟨#[]⟩] 61 (0, 0))) := ⟨blk_below (pxp BB) hb⟩; have nHX_ := pxs HX hb; clear HB HX AB BB; have HB := n0_; clear n0_; have HX := nHX_; clear nHX_; have AB := nAB_; clear nAB_; have BB := nBB_; clear nBB_; have VB := NWVB; clear NWVB hb; obtain ⟨xAB0, xAB1, xAB2, yAB0, yAB1, yAB2⟩ := pxf3 AB; obtain ⟨xBB0, xBB1, xBB2, yBB0, yBB1, yBB2⟩ := pxf3 BB; obtain ⟨xVB0, xVB1, xVB2, yVB0, yVB1, yVB2⟩ := pxf3 VB; have hgVB := GWVB.out; have hxVB := GWHXVB.out) | (clear tok_ca; go_at_call 33; (with_reducible refine (k_classA _ (HP3.out.below (pxb HX))).mono ?_); rintro e w10 ⟨rfl, hb⟩; have n0_ := pxs HB hb; have nAB_ : Aside0 (w10.heap[ga]? = some (.cells #[.int .i64 5, .int .i64 0, .string ⟨#[]⟩] 61 (0, 0))) := ⟨blk_below (pxp AB) hb⟩; have nBB_ : Aside0 (w10.heap[gb]? = some (.cells #[.int .i64 5, .int .i64 1, .string ⟨#[]⟩] 61 (0, 0))) := ⟨blk_below (pxp BB) hb⟩; have nVB_ : Aside0 (w10.heap[gv]? = some (.cells #[.int .i64 5, .int .i64 1, .string ⟨#[]⟩] 61 (0, 0))) := ⟨blk_below (pxp VB) hb⟩; have nHX_ := pxs HX hb; clear HB HX AB BB VB; have HB := n0_; clear n0_; have HX := nHX_; clear nHX_; have AB := nAB_; clear nAB_; have BB := nBB_; clear nBB_; have VB := nVB_; clear nVB_; clear hb; obtain ⟨xAB0, xAB1, xAB2, yAB0, yAB1, yAB2⟩ := pxf3 AB; obtain ⟨xBB0, xBB1, xBB2, yBB0, yBB1, yBB2⟩ := pxf3 BB; obtain ⟨xVB0, xVB1, xVB2, yVB0, yVB1, yVB2⟩ := pxf3 VB) | (clear tok_cb; go_at_call 33; (with_reducible refine (k_classB _ (HP3.out.below (pxb HX))).mono ?_); rintro e w11 ⟨rfl, hb⟩; have n0_ := pxs HB hb; have nAB_ : Aside0 (w11.heap[ga]? = some (.cells #[.int .i64 5, .int .i64 0, .string ⟨#[]⟩] 61 (0, 0))) := ⟨blk_below (pxp AB) hb⟩; have nBB_ : Aside0 (w11.heap[gb]? = some (.cells #[.int .i64 5, .int .i64 1, .string ⟨#[]⟩] 61 (0, 0))) := ⟨blk_below (pxp BB) hb⟩; have nVB_ : Aside0 (w11.heap[gv]? = some (.cells #[.int .i64 5, .int .i64 1, .string ⟨#[]⟩] 61 (0, 0))) := ⟨blk_below (pxp VB) hb⟩; have nHX_ := pxs HX hb; clear HB HX AB BB VB; have HB := n0_; clear n0_; have HX := nHX_; clear nHX_; have AB := nAB_; clear nAB_; have BB := nBB_; clear nBB_; have VB := nVB_; clear nVB_; clear hb; obtain ⟨xAB0, xAB1, xAB2, yAB0, yAB1, yAB2⟩ := pxf3 AB; obtain ⟨xBB0, xBB1, xBB2, yBB0, yBB1, yBB2⟩ := pxf3 BB; obtain ⟨xVB0, xVB1, xVB2, yVB0, yVB1, yVB2⟩ := pxf3 VB) | (clear tok_l2; go_at_call 29; (with_reducible refine (k_load2 _ (HP3.out.below (pxb HX))).mono ?_); rintro e w12 ⟨rfl, hb⟩; have n0_ := pxs HB hb; have nAB_ : Aside0 (w12.heap[ga]? = some (.cells #[.int .i64 5, .int .i64 0, .string ⟨#[]⟩] 61 (0, 0))) := ⟨blk_below (pxp AB) hb⟩; have nBB_ : Aside0 (w12.heap[gb]? = some (.cells #[.int .i64 5, .int .i64 1, .string ⟨#[]⟩] 61 (0, 0))) := ⟨blk_below (pxp BB) hb⟩; have nVB_ : Aside0 (w12.heap[gv]? = some (.cells #[.int .i64 5, .int .i64 1, .string ⟨#[]⟩] 61 (0, 0))) := ⟨blk_below (pxp VB) hb⟩; have nHX_ := pxs HX hb; clear HB HX AB BB VB; have HB := n0_; clear n0_; have HX := nHX_; clear nHX_; have AB := nAB_; clear nAB_; have BB := nBB_; clear nBB_; have VB := nVB_; clear nVB_; clear hb; obtain ⟨xAB0, xAB1, xAB2, yAB0, yAB1, yAB2⟩ := pxf3 AB; obtain ⟨xBB0, xBB1, xBB2, yBB0, yBB1, yBB2⟩ := pxf3 BB; obtain ⟨xVB0, xVB1, xVB2, yVB0, yVB1, yVB2⟩ := pxf3 VB) | ((with_reducible refine gate_dst (N := 13) rfl ?_); refine box_event ?hg (N := 13) ?hd (cs := #[.int .i64 0, .int .i64 0, .string ⟨#[]⟩]) (t := 61) ?hr ?_; (case hd => rfl); (case hg => rfl); (case hr => first | (go_simp; done) | (go_simp; rfl)); intro gw hg w13 hbox hb; have NWWB := Aside0.mk hbox; have GWWB := Aside0.mk ((by rw [hg]; exact (below_size (pxb HB)) : w.heap.size ≤ gw)); have GWHXWB := Aside0.mk ((by rw [hg]; exact (below_size (pxb HX))) : w7.heap.size ≤ gw); have NEABWB := Aside0.mk (show ga ≠ gw by rw [hg]; exact Nat.ne_of_lt (blk_lt (pxp (o := .cells #[.int .i64 5, .int .i64 0, .string ⟨#[]⟩] 61 (0, 0)) AB))); have NEWBAB := Aside0.mk (Ne.symm NEABWB.out); have eABWB := NEABWB.out; have eWBAB := NEWBAB.out; have NEBBWB := Aside0.mk (show gb ≠ gw by rw [hg]; exact Nat.ne_of_lt (blk_lt (pxp (o := .cells #[.int .i64 5, .int .i64 1, .string ⟨#[]⟩] 61 (0, 0)) BB))); have NEWBBB := Aside0.mk (Ne.symm NEBBWB.out); have eBBWB := NEBBWB.out; have eWBBB := NEWBBB.out; have NEVBWB := Aside0.mk (show gv ≠ gw by rw [hg]; exact Nat.ne_of_lt (blk_lt (pxp (o := .cells #[.int .i64 5, .int .i64 1, .string ⟨#[]⟩] 61 (0, 0)) VB))); have NEWBVB := Aside0.mk (Ne.symm NEVBWB.out); have eVBWB := NEVBWB.out; have eWBVB := NEWBVB.out; clear hg hbox; have n0_ := pxs HB hb; have nAB_ : Aside0 (w13.heap[ga]? = some (.cells #[.int .i64 5, .int .i64 0, .string ⟨#[]⟩] 61 (0, 0))) := ⟨blk_below (pxp AB) hb⟩; have nBB_ : Aside0 (w13.heap[gb]? = some (.cells #[.int .i64 5, .int .i64 1, .string ⟨#[]⟩] 61 (0, 0))) := ⟨blk_below (pxp BB) hb⟩; have nVB_ : Aside0 (w13.heap[gv]? = some (.cells #[.int .i64 5, .int .i64 1, .string ⟨#[]⟩] 61 (0, 0))) := ⟨blk_below (pxp VB) hb⟩; have nHX_ := pxs HX hb; clear HB HX AB BB VB; have HB := n0_; clear n0_; have HX := nHX_; clear nHX_; have AB := nAB_; clear nAB_; have BB := nBB_; clear nBB_; have VB := nVB_; clear nVB_; have WB := NWWB; clear NWWB hb; obtain ⟨xAB0, xAB1, xAB2, yAB0, yAB1, yAB2⟩ := pxf3 AB; obtain ⟨xBB0, xBB1, xBB2, yBB0, yBB1, yBB2⟩ := pxf3 BB; obtain ⟨xVB0, xVB1, xVB2, yVB0, yVB1, yVB2⟩ := pxf3 VB; obtain ⟨xWB0, xWB1, xWB2, yWB0, yWB1, yWB2⟩ := pxf3 WB; have hgWB := GWWB.out; have hxWB := GWHXWB.out) | (clear tok_bo; go_at_call 44; (with_reducible refine (heap_Bool.calls false 2 0 ⟨#[]⟩ _ rfl).mono ?_); rintro e w14 ⟨rfl, hb⟩; have n0_ := pxs HB hb; have nAB_ : Aside0 (w14.heap[ga]? = some (.cells #[.int .i64 5, .int .i64 0, .string ⟨#[]⟩] 61 (0, 0))) := ⟨blk_below (pxp AB) hb⟩; have nBB_ : Aside0 (w14.heap[gb]? = some (.cells #[.int .i64 5, .int .i64 1, .string ⟨#[]⟩] 61 (0, 0))) := ⟨blk_below (pxp BB) hb⟩; have nVB_ : Aside0 (w14.heap[gv]? = some (.cells #[.int .i64 5, .int .i64 1, .string ⟨#[]⟩] 61 (0, 0))) := ⟨blk_below (pxp VB) hb⟩; have nWB_ : Aside0 (w14.heap[gw]? = some (.cells #[.int .i64 2, .int .i64 0, .string ⟨#[]⟩] 61 (0, 0))) := ⟨blk_below (pxp WB) hb⟩; have nHX_ := pxs HX hb; clear HB HX AB BB VB WB; have HB := n0_; clear n0_; have HX := nHX_; clear nHX_; have AB := nAB_; clear nAB_; have BB := nBB_; clear nBB_; have VB := nVB_; clear nVB_; have WB := nWB_; clear nWB_; clear hb; obtain ⟨xAB0, xAB1, xAB2, yAB0, yAB1, yAB2⟩ := pxf3 AB; obtain ⟨xBB0, xBB1, xBB2, yBB0, yBB1, yBB2⟩ := pxf3 BB; obtain ⟨xVB0, xVB1, xVB2, yVB0, yVB1, yVB2⟩ := pxf3 VB; obtain ⟨xWB0, xWB1, xWB2, yWB0, yWB1, yWB2⟩ := pxf3 WB) | (clear tok_le; go_at_call 35; (with_reducible refine (k_lenB _ (HP3.out.below (pxb HX))).mono ?_); rintro e w15 ⟨rfl, hb⟩; have n0_ := pxs HB hb; have nAB_ : Aside0 (w15.heap[ga]? = some (.cells #[.int .i64 5, .int .i64 0, .string ⟨#[]⟩] 61 (0, 0))) := ⟨blk_below (pxp AB) hb⟩; have nBB_ : Aside0 (w15.heap[gb]? = some (.cells #[.int .i64 5, .int .i64 1, .string ⟨#[]⟩] 61 (0, 0))) := ⟨blk_below (pxp BB) hb⟩; have nVB_ : Aside0 (w15.heap[gv]? = some (.cells #[.int .i64 5, .int .i64 1, .string ⟨#[]⟩] 61 (0, 0))) := ⟨blk_below (pxp VB) hb⟩; have nWB_ : Aside0 (w15.heap[gw]? = some (.cells #[.int .i64 2, .int .i64 0, .string ⟨#[]⟩] 61 (0, 0))) := ⟨blk_below (pxp WB) hb⟩; have nHX_ := pxs HX hb; clear HB HX AB BB VB WB; have HB := n0_; clear n0_; have HX := nHX_; clear nHX_; have AB := nAB_; clear nAB_; have BB := nBB_; clear nBB_; have VB := nVB_; clear nVB_; have WB := nWB_; clear nWB_; clear hb; obtain ⟨xAB0, xAB1, xAB2, yAB0, yAB1, yAB2⟩ := pxf3 AB; obtain ⟨xBB0, xBB1, xBB2, yBB0, yBB1, yBB2⟩ := pxf3 BB; obtain ⟨xVB0, xVB1, xVB2, yVB0, yVB1, yVB2⟩ := pxf3 VB; obtain ⟨xWB0, xWB1, xWB2, yWB0, yWB1, yWB2⟩ := pxf3 WB) | (clear tok_ob; go_at_call 31; (with_reducible refine (k_objs _ (HP3.out.below (pxb HX))).mono ?_); rintro e w16 ⟨rfl, hb⟩; have n0_ := pxs HB hb; have nAB_ : Aside0 (w16.heap[ga]? = some (.cells #[.int .i64 5, .int .i64 0, .string ⟨#[]⟩] 61 (0, 0))) := ⟨blk_below (pxp AB) hb⟩; have nBB_ : Aside0 (w16.heap[gb]? = some (.cells #[.int .i64 5, .int .i64 1, .string ⟨#[]⟩] 61 (0, 0))) := ⟨blk_below (pxp BB) hb⟩; have nVB_ : Aside0 (w16.heap[gv]? = some (.cells #[.int .i64 5, .int .i64 1, .string ⟨#[]⟩] 61 (0, 0))) := ⟨blk_below (pxp VB) hb⟩; have nWB_ : Aside0 (w16.heap[gw]? = some (.cells #[.int .i64 2, .int .i64 0, .string ⟨#[]⟩] 61 (0, 0))) := ⟨blk_below (pxp WB) hb⟩; have nHX_ := pxs HX hb; clear HB HX AB BB VB WB; have HB := n0_; clear n0_; have HX := nHX_; clear nHX_; have AB := nAB_; clear nAB_; have BB := nBB_; clear nBB_; have VB := nVB_; clear nVB_; have WB := nWB_; clear nWB_; clear hb; obtain ⟨xAB0, xAB1, xAB2, yAB0, yAB1, yAB2⟩ := pxf3 AB; obtain ⟨xBB0, xBB1, xBB2, yBB0, yBB1, yBB2⟩ := pxf3 BB; obtain ⟨xVB0, xVB1, xVB2, yVB0, yVB1, yVB2⟩ := pxf3 VB; obtain ⟨xWB0, xWB1, xWB2, yWB0, yWB1, yWB2⟩ := pxf3 WB) | (clear tok_ce; go_at_call 32; (with_reducible refine (k_cells _ (HP3.out.below (pxb HX))).mono ?_); rintro e w17 ⟨rfl, hb⟩; have n0_ := pxs HB hb; have nAB_ : Aside0 (w17.heap[ga]? = some (.cells #[.int .i64 5, .int .i64 0, .string ⟨#[]⟩] 61 (0, 0))) := ⟨blk_below (pxp AB) hb⟩; have nBB_ : Aside0 (w17.heap[gb]? = some (.cells #[.int .i64 5, .int .i64 1, .string ⟨#[]⟩] 61 (0, 0))) := ⟨blk_below (pxp BB) hb⟩; have nVB_ : Aside0 (w17.heap[gv]? = some (.cells #[.int .i64 5, .int .i64 1, .string ⟨#[]⟩] 61 (0, 0))) := ⟨blk_below (pxp VB) hb⟩; have nWB_ : Aside0 (w17.heap[gw]? = some (.cells #[.int .i64 2, .int .i64 0, .string ⟨#[]⟩] 61 (0, 0))) := ⟨blk_below (pxp WB) hb⟩; have nHX_ := pxs HX hb; clear HB HX AB BB VB WB; have HB := n0_; clear n0_; have HX := nHX_; clear nHX_; have AB := nAB_; clear nAB_; have BB := nBB_; clear nBB_; have VB := nVB_; clear nVB_; have WB := nWB_; clear nWB_; clear hb; obtain ⟨xAB0, xAB1, xAB2, yAB0, yAB1, yAB2⟩ := pxf3 AB; obtain ⟨xBB0, xBB1, xBB2, yBB0, yBB1, yBB2⟩ := pxf3 BB; obtain ⟨xVB0, xVB1, xVB2, yVB0, yVB1, yVB2⟩ := pxf3 VB; obtain ⟨xWB0, xWB1, xWB2, yWB0, yWB1, yWB2⟩ := pxf3 WB) | (clear tok_w1; go_at_call 46; (with_reducible refine (heap_Wrap.calls 5 0 ⟨#[]⟩ 9 0 ⟨#[]⟩ _ rfl).mono ?_); rintro e w18 ⟨rfl, hb⟩; have n0_ := pxs HB hb; have nAB_ : Aside0 (w18.heap[ga]? = some (.cells #[.int .i64 5, .int .i64 0, .string ⟨#[]⟩] 61 (0, 0))) := ⟨blk_below (pxp AB) hb⟩; have nBB_ : Aside0 (w18.heap[gb]? = some (.cells #[.int .i64 5, .int .i64 1, .string ⟨#[]⟩] 61 (0, 0))) := ⟨blk_below (pxp BB) hb⟩; have nVB_ : Aside0 (w18.heap[gv]? = some (.cells #[.int .i64 5, .int .i64 1, .string ⟨#[]⟩] 61 (0, 0))) := ⟨blk_below (pxp VB) hb⟩; have nWB_ : Aside0 (w18.heap[gw]? = some (.cells #[.int .i64 2, .int .i64 0, .string ⟨#[]⟩] 61 (0, 0))) := ⟨blk_below (pxp WB) hb⟩; have nHX_ := pxs HX hb; clear HB HX AB BB VB WB; have HB := n0_; clear n0_; have HX := nHX_; clear nHX_; have AB := nAB_; clear nAB_; have BB := nBB_; clear nBB_; have VB := nVB_; clear nVB_; have WB := nWB_; clear nWB_; clear hb; obtain ⟨xAB0, xAB1, xAB2, yAB0, yAB1, yAB2⟩ := pxf3 AB; obtain ⟨xBB0, xBB1, xBB2, yBB0, yBB1, yBB2⟩ := pxf3 BB; obtain ⟨xVB0, xVB1, xVB2, yVB0, yVB1, yVB2⟩ := pxf3 VB; obtain ⟨xWB0, xWB1, xWB2, yWB0, yWB1, yWB2⟩ := pxf3 WB) | (clear tok_op; go_at_call 45; (with_reducible refine (heap_Open.calls 9 0 ⟨#[]⟩ 5 0 ⟨#[]⟩ _ rfl).mono ?_); rintro e w19 ⟨rfl, hb⟩; have n0_ := pxs HB hb; have nAB_ : Aside0 (w19.heap[ga]? = some (.cells #[.int .i64 5, .int .i64 0, .string ⟨#[]⟩] 61 (0, 0))) := ⟨blk_below (pxp AB) hb⟩; have nBB_ : Aside0 (w19.heap[gb]? = some (.cells #[.int .i64 5, .int .i64 1, .string ⟨#[]⟩] 61 (0, 0))) := ⟨blk_below (pxp BB) hb⟩; have nVB_ : Aside0 (w19.heap[gv]? = some (.cells #[.int .i64 5, .int .i64 1, .string ⟨#[]⟩] 61 (0, 0))) := ⟨blk_below (pxp VB) hb⟩; have nWB_ : Aside0 (w19.heap[gw]? = some (.cells #[.int .i64 2, .int .i64 0, .string ⟨#[]⟩] 61 (0, 0))) := ⟨blk_below (pxp WB) hb⟩; have nHX_ := pxs HX hb; clear HB HX AB BB VB WB; have HB := n0_; clear n0_; have HX := nHX_; clear nHX_; have AB := nAB_; clear nAB_; have BB := nBB_; clear nBB_; have VB := nVB_; clear nVB_; have WB := nWB_; clear nWB_; clear hb; obtain ⟨xAB0, xAB1, xAB2, yAB0, yAB1, yAB2⟩ := pxf3 AB; obtain ⟨xBB0, xBB1, xBB2, yBB0, yBB1, yBB2⟩ := pxf3 BB; obtain ⟨xVB0, xVB1, xVB2, yVB0, yVB1, yVB2⟩ := pxf3 VB; obtain ⟨xWB0, xWB1, xWB2, yWB0, yWB1, yWB2⟩ := pxf3 WB) | (clear tok_w2; go_at_call 46; (with_reducible refine (heap_Wrap.calls 5 0 ⟨#[]⟩ 9 0 ⟨#[]⟩ _ rfl).mono ?_); rintro e w20 ⟨rfl, hb⟩; have n0_ := pxs HB hb; have nAB_ : Aside0 (w20.heap[ga]? = some (.cells #[.int .i64 5, .int .i64 0, .string ⟨#[]⟩] 61 (0, 0))) := ⟨blk_below (pxp AB) hb⟩; have nBB_ : Aside0 (w20.heap[gb]? = some (.cells #[.int .i64 5, .int .i64 1, .string ⟨#[]⟩] 61 (0, 0))) := ⟨blk_below (pxp BB) hb⟩; have nVB_ : Aside0 (w20.heap[gv]? = some (.cells #[.int .i64 5, .int .i64 1, .string ⟨#[]⟩] 61 (0, 0))) := ⟨blk_below (pxp VB) hb⟩; have nWB_ : Aside0 (w20.heap[gw]? = some (.cells #[.int .i64 2, .int .i64 0, .string ⟨#[]⟩] 61 (0, 0))) := ⟨blk_below (pxp WB) hb⟩; have nHX_ := pxs HX hb; clear HB HX AB BB VB WB; have HB := n0_; clear n0_; have HX := nHX_; clear nHX_; have AB := nAB_; clear nAB_; have BB := nBB_; clear nBB_; have VB := nVB_; clear nVB_; have WB := nWB_; clear nWB_; clear hb; obtain ⟨xAB0, xAB1, xAB2, yAB0, yAB1, yAB2⟩ := pxf3 AB; obtain ⟨xBB0, xBB1, xBB2, yBB0, yBB1, yBB2⟩ := pxf3 BB; obtain ⟨xVB0, xVB1, xVB2, yVB0, yVB1, yVB2⟩ := pxf3 VB; obtain ⟨xWB0, xWB1, xWB2, yWB0, yWB1, yWB2⟩ := pxf3 WB) | (clear tok_at; go_at_call 27; (with_reducible refine (heap_At.calls 0 5 0 ⟨#[]⟩ _ rfl).mono ?_); rintro e w21 ⟨rfl, hb⟩; have n0_ := pxs HB hb; have nAB_ : Aside0 (w21.heap[ga]? = some (.cells #[.int .i64 5, .int .i64 0, .string ⟨#[]⟩] 61 (0, 0))) := ⟨blk_below (pxp AB) hb⟩; have nBB_ : Aside0 (w21.heap[gb]? = some (.cells #[.int .i64 5, .int .i64 1, .string ⟨#[]⟩] 61 (0, 0))) := ⟨blk_below (pxp BB) hb⟩; have nVB_ : Aside0 (w21.heap[gv]? = some (.cells #[.int .i64 5, .int .i64 1, .string ⟨#[]⟩] 61 (0, 0))) := ⟨blk_below (pxp VB) hb⟩; have nWB_ : Aside0 (w21.heap[gw]? = some (.cells #[.int .i64 2, .int .i64 0, .string ⟨#[]⟩] 61 (0, 0))) := ⟨blk_below (pxp WB) hb⟩; have nHX_ := pxs HX hb; clear HB HX AB BB VB WB; have HB := n0_; clear n0_; have HX := nHX_; clear nHX_; have AB := nAB_; clear nAB_; have BB := nBB_; clear nBB_; have VB := nVB_; clear nVB_; have WB := nWB_; clear nWB_; clear hb; obtain ⟨xAB0, xAB1, xAB2, yAB0, yAB1, yAB2⟩ := pxf3 AB; obtain ⟨xBB0, xBB1, xBB2, yBB0, yBB1, yBB2⟩ := pxf3 BB; obtain ⟨xVB0, xVB1, xVB2, yVB0, yVB1, yVB2⟩ := pxf3 VB; obtain ⟨xWB0, xWB1, xWB2, yWB0, yWB1, yWB2⟩ := pxf3 WB) | (clear tok_sa; go_at_call 47; (with_reducible refine (heap_Same.calls 5 0 ⟨#[]⟩ 5 0 ⟨#[]⟩ true _ (by decide +kernel)).mono ?_); rintro e w22 ⟨rfl, hb⟩; have n0_ := pxs HB hb; have nAB_ : Aside0 (w22.heap[ga]? = some (.cells #[.int .i64 5, .int .i64 0, .string ⟨#[]⟩] 61 (0, 0))) := ⟨blk_below (pxp AB) hb⟩; have nBB_ : Aside0 (w22.heap[gb]? = some (.cells #[.int .i64 5, .int .i64 1, .string ⟨#[]⟩] 61 (0, 0))) := ⟨blk_below (pxp BB) hb⟩; have nVB_ : Aside0 (w22.heap[gv]? = some (.cells #[.int .i64 5, .int .i64 1, .string ⟨#[]⟩] 61 (0, 0))) := ⟨blk_below (pxp VB) hb⟩; have nWB_ : Aside0 (w22.heap[gw]? = some (.cells #[.int .i64 2, .int .i64 0, .string ⟨#[]⟩] 61 (0, 0))) := ⟨blk_below (pxp WB) hb⟩; have nHX_ := pxs HX hb; clear HB HX AB BB VB WB; have HB := n0_; clear n0_; have HX := nHX_; clear nHX_; have AB := nAB_; clear nAB_; have BB := nBB_; clear nBB_; have VB := nVB_; clear nVB_; have WB := nWB_; clear nWB_; clear hb; obtain ⟨xAB0, xAB1, xAB2, yAB0, yAB1, yAB2⟩ := pxf3 AB; obtain ⟨xBB0, xBB1, xBB2, yBB0, yBB1, yBB2⟩ := pxf3 BB; obtain ⟨xVB0, xVB1, xVB2, yVB0, yVB1, yVB2⟩ := pxf3 VB; obtain ⟨xWB0, xWB1, xWB2, yWB0, yWB1, yWB2⟩ := pxf3 WB) | (clear tok_in; go_at_call 48; (with_reducible refine (heap_Int.calls 7 1 7 ⟨#[]⟩ _ rfl).mono ?_); rintro e w23 ⟨rfl, hb⟩; have n0_ := pxs HB hb; have nAB_ : Aside0 (w23.heap[ga]? = some (.cells #[.int .i64 5, .int .i64 0, .string ⟨#[]⟩] 61 (0, 0))) := ⟨blk_below (pxp AB) hb⟩; have nBB_ : Aside0 (w23.heap[gb]? = some (.cells #[.int .i64 5, .int .i64 1, .string ⟨#[]⟩] 61 (0, 0))) := ⟨blk_below (pxp BB) hb⟩; have nVB_ : Aside0 (w23.heap[gv]? = some (.cells #[.int .i64 5, .int .i64 1, .string ⟨#[]⟩] 61 (0, 0))) := ⟨blk_below (pxp VB) hb⟩; have nWB_ : Aside0 (w23.heap[gw]? = some (.cells #[.int .i64 2, .int .i64 0, .string ⟨#[]⟩] 61 (0, 0))) := ⟨blk_below (pxp WB) hb⟩; have nHX_ := pxs HX hb; clear HB HX AB BB VB WB; have HB := n0_; clear n0_; have HX := nHX_; clear nHX_; have AB := nAB_; clear nAB_; have BB := nBB_; clear nBB_; have VB := nVB_; clear nVB_; have WB := nWB_; clear nWB_; clear hb; obtain ⟨xAB0, xAB1, xAB2, yAB0, yAB1, yAB2⟩ := pxf3 AB; obtain ⟨xBB0, xBB1, xBB2, yBB0, yBB1, yBB2⟩ := pxf3 BB; obtain ⟨xVB0, xVB1, xVB2, yVB0, yVB1, yVB2⟩ := pxf3 VB; obtain ⟨xWB0, xWB1, xWB2, yWB0, yWB1, yWB2⟩ := pxf3 WB) | (clear tok_st; go_at_call 49; (with_reducible refine (heap_Str.calls ⟨#[120]⟩ 4 0 ⟨#[120]⟩ _ rfl).mono ?_); rintro e w24 ⟨rfl, hb⟩; have n0_ := pxs HB hb; have nAB_ : Aside0 (w24.heap[ga]? = some (.cells #[.int .i64 5, .int .i64 0, .string ⟨#[]⟩] 61 (0, 0))) := ⟨blk_below (pxp AB) hb⟩; have nBB_ : Aside0 (w24.heap[gb]? = some (.cells #[.int .i64 5, .int .i64 1, .string ⟨#[]⟩] 61 (0, 0))) := ⟨blk_below (pxp BB) hb⟩; have nVB_ : Aside0 (w24.heap[gv]? = some (.cells #[.int .i64 5, .int .i64 1, .string ⟨#[]⟩] 61 (0, 0))) := ⟨blk_below (pxp VB) hb⟩; have nWB_ : Aside0 (w24.heap[gw]? = some (.cells #[.int .i64 2, .int .i64 0, .string ⟨#[]⟩] 61 (0, 0))) := ⟨blk_below (pxp WB) hb⟩; have nHX_ := pxs HX hb; clear HB HX AB BB VB WB; have HB := n0_; clear n0_; have HX := nHX_; clear nHX_; have AB := nAB_; clear nAB_; have BB := nBB_; clear nBB_; have VB := nVB_; clear nVB_; have WB := nWB_; clear nWB_; clear hb; obtain ⟨xAB0, xAB1, xAB2, yAB0, yAB1, yAB2⟩ := pxf3 AB; obtain ⟨xBB0, xBB1, xBB2, yBB0, yBB1, yBB2⟩ := pxf3 BB; obtain ⟨xVB0, xVB1, xVB2, yVB0, yVB1, yVB2⟩ := pxf3 VB; obtain ⟨xWB0, xWB1, xWB2, yWB0, yWB1, yWB2⟩ := pxf3 WB) | (clear tok_do; go_at_call 50; (with_reducible refine (heap_Double.calls 9 3 9 ⟨#[]⟩ _ (by decide +kernel)).mono ?_); rintro e w25 ⟨rfl, hb⟩; have n0_ := pxs HB hb; have nAB_ : Aside0 (w25.heap[ga]? = some (.cells #[.int .i64 5, .int .i64 0, .string ⟨#[]⟩] 61 (0, 0))) := ⟨blk_below (pxp AB) hb⟩; have nBB_ : Aside0 (w25.heap[gb]? = some (.cells #[.int .i64 5, .int .i64 1, .string ⟨#[]⟩] 61 (0, 0))) := ⟨blk_below (pxp BB) hb⟩; have nVB_ : Aside0 (w25.heap[gv]? = some (.cells #[.int .i64 5, .int .i64 1, .string ⟨#[]⟩] 61 (0, 0))) := ⟨blk_below (pxp VB) hb⟩; have nWB_ : Aside0 (w25.heap[gw]? = some (.cells #[.int .i64 2, .int .i64 0, .string ⟨#[]⟩] 61 (0, 0))) := ⟨blk_below (pxp WB) hb⟩; have nHX_ := pxs HX hb; clear HB HX AB BB VB WB; have HB := n0_; clear n0_; have HX := nHX_; clear nHX_; have AB := nAB_; clear nAB_; have BB := nBB_; clear nBB_; have VB := nVB_; clear nVB_; have WB := nWB_; clear nWB_; clear hb; obtain ⟨xAB0, xAB1, xAB2, yAB0, yAB1, yAB2⟩ := pxf3 AB; obtain ⟨xBB0, xBB1, xBB2, yBB0, yBB1, yBB2⟩ := pxf3 BB; obtain ⟨xVB0, xVB1, xVB2, yVB0, yVB1, yVB2⟩ := pxf3 VB; obtain ⟨xWB0, xWB1, xWB2, yWB0, yWB1, yWB2⟩ := pxf3 WB))
  have fld1 : ∀ (a b : Int) (c : ByteArray) (w_ : World), (Instr.field 61 (.agg #[.int .i64 a, .int .i64 b, .string c]) 1).run Try.prog w_ = .ok (.int .i64 b) w_ := by intro a b c w_; simp [Instr.field, run_underlying Try.underlying61, asAgg, go_sem, part]
  have fld2 : ∀ (a b : Int) (c : ByteArray) (w_ : World), (Instr.field 61 (.agg #[.int .i64 a, .int .i64 b, .string c]) 2).run Try.prog w_ = .ok (.string c) w_ := by intro a b c w_; simp [Instr.field, run_underlying Try.underlying61, asAgg, go_sem, part]
  have wz : wrap64 0 = 0 := wrap_id (by decide) (by decide)
  refine start_ (n := 84) (S := fun w' => w'.cell? ⟨ga, 0, none⟩ = some (.int .i64 5) ∧ w'.cell? ⟨ga, 1, none⟩ = some (.int .i64 0) ∧ w'.cell? ⟨ga, 2, none⟩ = some (.string ⟨#[]⟩) ∧ w'.cell? ⟨gb, 0, none⟩ = some (.int .i64 5) ∧ w'.cell? ⟨gb, 1, none⟩ = some (.int .i64 1) ∧ w'.cell? ⟨gb, 2, none⟩ = some (.string ⟨#[]⟩) ∧ w'.cell? ⟨gv, 0, none⟩ = some (.int .i64 5) ∧ w'.cell? ⟨gv, 1, none⟩ = some (.int .i64 1) ∧ w'.cell? ⟨gv, 2, none⟩ = some (.string ⟨#[]⟩) ∧ w'.cell? ⟨gw, 0, none⟩ = some (.int .i64 2) ∧ w'.cell? ⟨gw, 1, none⟩ = some (.int .i64 0) ∧ w'.cell? ⟨gw, 2, none⟩ = some (.string ⟨#[]⟩)) (ds := []) #[false, false, false, false, false, false, false, false, false, false, false, false, false, false, false, false, false, false, false, false, false, false, false, false, false, false, false, false, false, false, false, false, false, false, false, false, false, false, false, false, false, false, false, false, false, false, false, false, false, false, false, false, false, false, false, false, false, false, false, false, false, false, false, false, false, false, false, false, false, false, false, false, false, false, false, false, false, false, false, false, false, false, false, false] (by kernel_rfl) rfl rfl ⟨(pxf3 ⟨blk_drew (pxp (o := .cells #[.int .i64 5, .int .i64 0, .string ⟨#[]⟩] 61 (0, 0)) AB)⟩).1, (pxf3 ⟨blk_drew (pxp (o := .cells #[.int .i64 5, .int .i64 0, .string ⟨#[]⟩] 61 (0, 0)) AB)⟩).2.1, (pxf3 ⟨blk_drew (pxp (o := .cells #[.int .i64 5, .int .i64 0, .string ⟨#[]⟩] 61 (0, 0)) AB)⟩).2.2.1, (pxf3 ⟨blk_drew (pxp (o := .cells #[.int .i64 5, .int .i64 1, .string ⟨#[]⟩] 61 (0, 0)) BB)⟩).1, (pxf3 ⟨blk_drew (pxp (o := .cells #[.int .i64 5, .int .i64 1, .string ⟨#[]⟩] 61 (0, 0)) BB)⟩).2.1, (pxf3 ⟨blk_drew (pxp (o := .cells #[.int .i64 5, .int .i64 1, .string ⟨#[]⟩] 61 (0, 0)) BB)⟩).2.2.1, (pxf3 ⟨blk_drew (pxp (o := .cells #[.int .i64 5, .int .i64 1, .string ⟨#[]⟩] 61 (0, 0)) VB)⟩).1, (pxf3 ⟨blk_drew (pxp (o := .cells #[.int .i64 5, .int .i64 1, .string ⟨#[]⟩] 61 (0, 0)) VB)⟩).2.1, (pxf3 ⟨blk_drew (pxp (o := .cells #[.int .i64 5, .int .i64 1, .string ⟨#[]⟩] 61 (0, 0)) VB)⟩).2.2.1, (pxf3 ⟨blk_drew (pxp (o := .cells #[.int .i64 2, .int .i64 0, .string ⟨#[]⟩] 61 (0, 0)) WB)⟩).1, (pxf3 ⟨blk_drew (pxp (o := .cells #[.int .i64 2, .int .i64 0, .string ⟨#[]⟩] 61 (0, 0)) WB)⟩).2.1, (pxf3 ⟨blk_drew (pxp (o := .cells #[.int .i64 2, .int .i64 0, .string ⟨#[]⟩] 61 (0, 0)) WB)⟩).2.2.1⟩ (fun hHeld => ?_); refine with_tab rfl (fun HT_ => ?_)
  generalize hW_ : World.drew _ = wa at hHeld ⊢
  have n0_ : Aside0 (Below w.heap.size w wa) := ⟨by rw [← hW_]; exact below_drew1 (pxb HB)⟩
  have HX_ : Aside0 (Below w7.heap.size w7 wa) := ⟨by rw [← hW_]; exact below_drew1 (pxb HX)⟩
  have nAB_ : Aside0 (wa.heap[ga]? = some (.cells #[.int .i64 5, .int .i64 0, .string ⟨#[]⟩] 61 (0, 0))) := ⟨by rw [← hW_]; exact blk_drew (pxp AB)⟩
  have nBB_ : Aside0 (wa.heap[gb]? = some (.cells #[.int .i64 5, .int .i64 1, .string ⟨#[]⟩] 61 (0, 0))) := ⟨by rw [← hW_]; exact blk_drew (pxp BB)⟩
  have nVB_ : Aside0 (wa.heap[gv]? = some (.cells #[.int .i64 5, .int .i64 1, .string ⟨#[]⟩] 61 (0, 0))) := ⟨by rw [← hW_]; exact blk_drew (pxp VB)⟩
  have nWB_ : Aside0 (wa.heap[gw]? = some (.cells #[.int .i64 2, .int .i64 0, .string ⟨#[]⟩] 61 (0, 0))) := ⟨by rw [← hW_]; exact blk_drew (pxp WB)⟩
  clear hW_ HB AB BB VB WB
  have HB := n0_
  have AB := nAB_
  have BB := nBB_
  have VB := nVB_
  have WB := nWB_
  clear n0_ nAB_ nBB_ nVB_ nWB_
  clear HX
  have HX := HX_
  clear HX_
  refine pS 0 50 HT_ ?_
  refine pS 1 51 HT_ ?_
  refine pS 2 52 HT_ ?_
  (try rw [wz])
  refine pS 3 53 HT_ ?_
  refine pS 4 54 HT_ ?_
  (try rw [wz])
  refine pS 5 55 HT_ ?_
  refine pS 6 56 HT_ ?_
  (try rw [wz])
  refine pS 7 57 HT_ ?_
  refine pS 8 58 HT_ ?_
  refine tT 9 59 HT_ hHeld ?_
  refine tT 10 60 HT_ hHeld ?_
  refine oS 11 HT_ (fun K hK => ?_)
  refine value_ (w1 := ?_) (v := ?_) (by rfl) rfl ?_ ?_
  rotate_left 2
  · go_simp
    constructor
    · rfl
    · rfl
  refine hK.out _ _ ⟨(pxf3 AB).1, (pxf3 AB).2.1, (pxf3 AB).2.2.1, (pxf3 BB).1, (pxf3 BB).2.1, (pxf3 BB).2.2.1, (pxf3 VB).1, (pxf3 VB).2.1, (pxf3 VB).2.2.1, (pxf3 WB).1, (pxf3 WB).2.1, (pxf3 WB).2.2.1⟩ (fun hHeld => ?_)
  clear hK K
  refine nS 61 ?_
  refine pS 12 62 HT_ ?_
  refine pS 13 63 HT_ ?_
  refine pS 14 64 HT_ ?_
  refine pS 15 65 HT_ ?_
  refine pS 16 66 HT_ ?_
  refine pS 17 67 HT_ ?_
  refine pS 18 68 HT_ ?_
  refine pS 19 69 HT_ ?_
  refine pS 20 70 HT_ ?_
  refine pS 21 71 HT_ ?_
  refine pS 22 72 HT_ ?_
  refine pS 23 73 HT_ ?_
  refine pS 24 74 HT_ ?_
  refine tT 25 75 HT_ hHeld ?_
  refine oS 26 HT_ (fun K hK => ?_)
  refine goes_ Try.func44 (by kernel_rfl) rfl #[.bool false] (by rfl) rfl rfl (by (try simp only [List.map_toArray, List.map_cons, List.map_nil]); first | done | rfl) ?_
  (with_reducible refine (heap_Bool.calls false 2 0 ⟨#[]⟩ _ rfl).mono ?_)
  rintro e wa1 ⟨rfl, hb⟩
  refine ⟨_, rfl, ?_⟩
  have n0_ := pxs HB hb; have nAB_ : Aside0 (wa1.heap[ga]? = some (.cells #[.int .i64 5, .int .i64 0, .string ⟨#[]⟩] 61 (0, 0))) := ⟨blk_below (pxp AB) hb⟩; have nBB_ : Aside0 (wa1.heap[gb]? = some (.cells #[.int .i64 5, .int .i64 1, .string ⟨#[]⟩] 61 (0, 0))) := ⟨blk_below (pxp BB) hb⟩; have nVB_ : Aside0 (wa1.heap[gv]? = some (.cells #[.int .i64 5, .int .i64 1, .string ⟨#[]⟩] 61 (0, 0))) := ⟨blk_below (pxp VB) hb⟩; have nWB_ : Aside0 (wa1.heap[gw]? = some (.cells #[.int .i64 2, .int .i64 0, .string ⟨#[]⟩] 61 (0, 0))) := ⟨blk_below (pxp WB) hb⟩; have nHX_ := pxs HX hb; clear HB HX AB BB VB WB; have HB := n0_; clear n0_; have HX := nHX_; clear nHX_; have AB := nAB_; clear nAB_; have BB := nBB_; clear nBB_; have VB := nVB_; clear nVB_; have WB := nWB_; clear nWB_
  refine hK.out _ _ ⟨(pxf3 AB).1, (pxf3 AB).2.1, (pxf3 AB).2.2.1, (pxf3 BB).1, (pxf3 BB).2.1, (pxf3 BB).2.2.1, (pxf3 VB).1, (pxf3 VB).2.1, (pxf3 VB).2.2.1, (pxf3 WB).1, (pxf3 WB).2.1, (pxf3 WB).2.2.1⟩ (fun hHeld => ?_)
  clear hK K hb
  refine nS 76 ?_
  refine oS 27 HT_ (fun K hK => ?_)
  refine value_ (w1 := ?_) (v := ?_) (by rfl) rfl ?_ ?_
  rotate_left 2
  · go_simp
    constructor
    · rfl
    · rfl
  refine hK.out _ _ ⟨(pxf3 AB).1, (pxf3 AB).2.1, (pxf3 AB).2.2.1, (pxf3 BB).1, (pxf3 BB).2.1, (pxf3 BB).2.2.1, (pxf3 VB).1, (pxf3 VB).2.1, (pxf3 VB).2.2.1, (pxf3 WB).1, (pxf3 WB).2.1, (pxf3 WB).2.2.1⟩ (fun hHeld => ?_)
  clear hK K
  refine nS 77 ?_
  refine pS 28 78 HT_ ?_
  refine pS 29 79 HT_ ?_
  refine tT 30 80 HT_ hHeld ?_
  refine oS 31 HT_ (fun K hK => ?_)
  refine goes_ Try.func35 (by kernel_rfl) rfl #[.pointer (some ⟨g, 0, none⟩), .agg #[.int .i64 5, .int .i64 1, .string ⟨#[]⟩]] (by rfl) rfl rfl (by (try simp only [List.map_toArray, List.map_cons, List.map_nil]); first | done | rfl) ?_
  (with_reducible refine (k_lenB _ (HP3.out.below (pxb HX))).mono ?_)
  rintro e wa2 ⟨rfl, hb⟩
  refine ⟨_, rfl, ?_⟩
  have n0_ := pxs HB hb; have nAB_ : Aside0 (wa2.heap[ga]? = some (.cells #[.int .i64 5, .int .i64 0, .string ⟨#[]⟩] 61 (0, 0))) := ⟨blk_below (pxp AB) hb⟩; have nBB_ : Aside0 (wa2.heap[gb]? = some (.cells #[.int .i64 5, .int .i64 1, .string ⟨#[]⟩] 61 (0, 0))) := ⟨blk_below (pxp BB) hb⟩; have nVB_ : Aside0 (wa2.heap[gv]? = some (.cells #[.int .i64 5, .int .i64 1, .string ⟨#[]⟩] 61 (0, 0))) := ⟨blk_below (pxp VB) hb⟩; have nWB_ : Aside0 (wa2.heap[gw]? = some (.cells #[.int .i64 2, .int .i64 0, .string ⟨#[]⟩] 61 (0, 0))) := ⟨blk_below (pxp WB) hb⟩; have nHX_ := pxs HX hb; clear HB HX AB BB VB WB; have HB := n0_; clear n0_; have HX := nHX_; clear nHX_; have AB := nAB_; clear nAB_; have BB := nBB_; clear nBB_; have VB := nVB_; clear nVB_; have WB := nWB_; clear nWB_
  refine hK.out _ _ ⟨(pxf3 AB).1, (pxf3 AB).2.1, (pxf3 AB).2.2.1, (pxf3 BB).1, (pxf3 BB).2.1, (pxf3 BB).2.2.1, (pxf3 VB).1, (pxf3 VB).2.1, (pxf3 VB).2.2.1, (pxf3 WB).1, (pxf3 WB).2.1, (pxf3 WB).2.2.1⟩ (fun hHeld => ?_)
  clear hK K hb
  refine nS 81 ?_
  refine pS 32 82 HT_ ?_
  refine pS 33 83 HT_ ?_
  refine pS 34 84 HT_ ?_
  refine oS 35 HT_ (fun K hK => ?_)
  refine goes_ Try.func31 (by kernel_rfl) rfl #[.pointer (some ⟨g, 0, none⟩)] (by rfl) rfl rfl (by (try simp only [List.map_toArray, List.map_cons, List.map_nil]); first | done | rfl) ?_
  (with_reducible refine (k_objs _ (HP3.out.below (pxb HX))).mono ?_)
  rintro e wa3 ⟨rfl, hb⟩
  refine ⟨_, rfl, ?_⟩
  have n0_ := pxs HB hb; have nAB_ : Aside0 (wa3.heap[ga]? = some (.cells #[.int .i64 5, .int .i64 0, .string ⟨#[]⟩] 61 (0, 0))) := ⟨blk_below (pxp AB) hb⟩; have nBB_ : Aside0 (wa3.heap[gb]? = some (.cells #[.int .i64 5, .int .i64 1, .string ⟨#[]⟩] 61 (0, 0))) := ⟨blk_below (pxp BB) hb⟩; have nVB_ : Aside0 (wa3.heap[gv]? = some (.cells #[.int .i64 5, .int .i64 1, .string ⟨#[]⟩] 61 (0, 0))) := ⟨blk_below (pxp VB) hb⟩; have nWB_ : Aside0 (wa3.heap[gw]? = some (.cells #[.int .i64 2, .int .i64 0, .string ⟨#[]⟩] 61 (0, 0))) := ⟨blk_below (pxp WB) hb⟩; have nHX_ := pxs HX hb; clear HB HX AB BB VB WB; have HB := n0_; clear n0_; have HX := nHX_; clear nHX_; have AB := nAB_; clear nAB_; have BB := nBB_; clear nBB_; have VB := nVB_; clear nVB_; have WB := nWB_; clear nWB_
  refine hK.out _ _ ⟨(pxf3 AB).1, (pxf3 AB).2.1, (pxf3 AB).2.2.1, (pxf3 BB).1, (pxf3 BB).2.1, (pxf3 BB).2.2.1, (pxf3 VB).1, (pxf3 VB).2.1, (pxf3 VB).2.2.1, (pxf3 WB).1, (pxf3 WB).2.1, (pxf3 WB).2.2.1⟩ (fun hHeld => ?_)
  clear hK K hb
  refine nS 85 ?_
  refine pS 36 86 HT_ ?_
  refine pS 37 87 HT_ ?_
  refine pS 38 88 HT_ ?_
  refine oS 39 HT_ (fun K hK => ?_)
  refine goes_ Try.func32 (by kernel_rfl) rfl #[.pointer (some ⟨g, 0, none⟩)] (by rfl) rfl rfl (by (try simp only [List.map_toArray, List.map_cons, List.map_nil]); first | done | rfl) ?_
  (with_reducible refine (k_cells _ (HP3.out.below (pxb HX))).mono ?_)
  rintro e wa4 ⟨rfl, hb⟩
  refine ⟨_, rfl, ?_⟩
  have n0_ := pxs HB hb; have nAB_ : Aside0 (wa4.heap[ga]? = some (.cells #[.int .i64 5, .int .i64 0, .string ⟨#[]⟩] 61 (0, 0))) := ⟨blk_below (pxp AB) hb⟩; have nBB_ : Aside0 (wa4.heap[gb]? = some (.cells #[.int .i64 5, .int .i64 1, .string ⟨#[]⟩] 61 (0, 0))) := ⟨blk_below (pxp BB) hb⟩; have nVB_ : Aside0 (wa4.heap[gv]? = some (.cells #[.int .i64 5, .int .i64 1, .string ⟨#[]⟩] 61 (0, 0))) := ⟨blk_below (pxp VB) hb⟩; have nWB_ : Aside0 (wa4.heap[gw]? = some (.cells #[.int .i64 2, .int .i64 0, .string ⟨#[]⟩] 61 (0, 0))) := ⟨blk_below (pxp WB) hb⟩; have nHX_ := pxs HX hb; clear HB HX AB BB VB WB; have HB := n0_; clear n0_; have HX := nHX_; clear nHX_; have AB := nAB_; clear nAB_; have BB := nBB_; clear nBB_; have VB := nVB_; clear nVB_; have WB := nWB_; clear nWB_
  refine hK.out _ _ ⟨(pxf3 AB).1, (pxf3 AB).2.1, (pxf3 AB).2.2.1, (pxf3 BB).1, (pxf3 BB).2.1, (pxf3 BB).2.2.1, (pxf3 VB).1, (pxf3 VB).2.1, (pxf3 VB).2.2.1, (pxf3 WB).1, (pxf3 WB).2.1, (pxf3 WB).2.2.1⟩ (fun hHeld => ?_)
  clear hK K hb
  refine nS 89 ?_
  refine pS 40 90 HT_ ?_
  refine pS 41 91 HT_ ?_
  refine pS 42 92 HT_ ?_
  refine tT 43 93 HT_ hHeld ?_
  refine tT 46 96 HT_ hHeld ?_
  refine oS 44 HT_ (fun K hK => ?_)
  refine goes_ Try.func46 (by kernel_rfl) rfl #[.agg #[.int .i64 5, .int .i64 0, .string ⟨#[]⟩]] (by rfl) rfl rfl (by (try simp only [List.map_toArray, List.map_cons, List.map_nil]); first | done | rfl) ?_
  (with_reducible refine (heap_Wrap.calls 5 0 ⟨#[]⟩ 9 0 ⟨#[]⟩ _ rfl).mono ?_)
  rintro e wa5 ⟨rfl, hb⟩
  refine ⟨_, rfl, ?_⟩
  have n0_ := pxs HB hb; have nAB_ : Aside0 (wa5.heap[ga]? = some (.cells #[.int .i64 5, .int .i64 0, .string ⟨#[]⟩] 61 (0, 0))) := ⟨blk_below (pxp AB) hb⟩; have nBB_ : Aside0 (wa5.heap[gb]? = some (.cells #[.int .i64 5, .int .i64 1, .string ⟨#[]⟩] 61 (0, 0))) := ⟨blk_below (pxp BB) hb⟩; have nVB_ : Aside0 (wa5.heap[gv]? = some (.cells #[.int .i64 5, .int .i64 1, .string ⟨#[]⟩] 61 (0, 0))) := ⟨blk_below (pxp VB) hb⟩; have nWB_ : Aside0 (wa5.heap[gw]? = some (.cells #[.int .i64 2, .int .i64 0, .string ⟨#[]⟩] 61 (0, 0))) := ⟨blk_below (pxp WB) hb⟩; have nHX_ := pxs HX hb; clear HB HX AB BB VB WB; have HB := n0_; clear n0_; have HX := nHX_; clear nHX_; have AB := nAB_; clear nAB_; have BB := nBB_; clear nBB_; have VB := nVB_; clear nVB_; have WB := nWB_; clear nWB_
  refine hK.out _ _ ⟨(pxf3 AB).1, (pxf3 AB).2.1, (pxf3 AB).2.2.1, (pxf3 BB).1, (pxf3 BB).2.1, (pxf3 BB).2.2.1, (pxf3 VB).1, (pxf3 VB).2.1, (pxf3 VB).2.2.1, (pxf3 WB).1, (pxf3 WB).2.1, (pxf3 WB).2.2.1⟩ (fun hHeld => ?_)
  clear hK K hb
  refine nS 94 ?_
  refine oS 45 HT_ (fun K hK => ?_)
  refine goes_ Try.func45 (by kernel_rfl) rfl #[.agg #[.int .i64 9, .int .i64 0, .string ⟨#[]⟩]] (by rfl) rfl rfl (by (try simp only [List.map_toArray, List.map_cons, List.map_nil]); first | done | rfl) ?_
  (with_reducible refine (heap_Open.calls 9 0 ⟨#[]⟩ 5 0 ⟨#[]⟩ _ rfl).mono ?_)
  rintro e wa6 ⟨rfl, hb⟩
  refine ⟨_, rfl, ?_⟩
  have n0_ := pxs HB hb; have nAB_ : Aside0 (wa6.heap[ga]? = some (.cells #[.int .i64 5, .int .i64 0, .string ⟨#[]⟩] 61 (0, 0))) := ⟨blk_below (pxp AB) hb⟩; have nBB_ : Aside0 (wa6.heap[gb]? = some (.cells #[.int .i64 5, .int .i64 1, .string ⟨#[]⟩] 61 (0, 0))) := ⟨blk_below (pxp BB) hb⟩; have nVB_ : Aside0 (wa6.heap[gv]? = some (.cells #[.int .i64 5, .int .i64 1, .string ⟨#[]⟩] 61 (0, 0))) := ⟨blk_below (pxp VB) hb⟩; have nWB_ : Aside0 (wa6.heap[gw]? = some (.cells #[.int .i64 2, .int .i64 0, .string ⟨#[]⟩] 61 (0, 0))) := ⟨blk_below (pxp WB) hb⟩; have nHX_ := pxs HX hb; clear HB HX AB BB VB WB; have HB := n0_; clear n0_; have HX := nHX_; clear nHX_; have AB := nAB_; clear nAB_; have BB := nBB_; clear nBB_; have VB := nVB_; clear nVB_; have WB := nWB_; clear nWB_
  refine hK.out _ _ ⟨(pxf3 AB).1, (pxf3 AB).2.1, (pxf3 AB).2.2.1, (pxf3 BB).1, (pxf3 BB).2.1, (pxf3 BB).2.2.1, (pxf3 VB).1, (pxf3 VB).2.1, (pxf3 VB).2.2.1, (pxf3 WB).1, (pxf3 WB).2.1, (pxf3 WB).2.2.1⟩ (fun hHeld => ?_)
  clear hK K hb
  refine nS 95 ?_
  refine oS 47 HT_ (fun K hK => ?_)
  refine value_ (w1 := ?_) (v := ?_) (by rfl) rfl ?_ ?_
  rotate_left 2
  · go_simp
    constructor
    · rfl
    · rfl
  refine hK.out _ _ ⟨(pxf3 AB).1, (pxf3 AB).2.1, (pxf3 AB).2.2.1, (pxf3 BB).1, (pxf3 BB).2.1, (pxf3 BB).2.2.1, (pxf3 VB).1, (pxf3 VB).2.1, (pxf3 VB).2.2.1, (pxf3 WB).1, (pxf3 WB).2.1, (pxf3 WB).2.2.1⟩ (fun hHeld => ?_)
  clear hK K
  refine nS 97 ?_
  refine pS 48 98 HT_ ?_
  refine pS 49 99 HT_ ?_
  refine tT 50 100 HT_ hHeld ?_
  refine tT 52 102 HT_ hHeld ?_
  refine oS 51 HT_ (fun K hK => ?_)
  refine goes_ Try.func46 (by kernel_rfl) rfl #[.agg #[.int .i64 5, .int .i64 0, .string ⟨#[]⟩]] (by rfl) rfl rfl (by (try simp only [List.map_toArray, List.map_cons, List.map_nil]); first | done | rfl) ?_
  (with_reducible refine (heap_Wrap.calls 5 0 ⟨#[]⟩ 9 0 ⟨#[]⟩ _ rfl).mono ?_)
  rintro e wa7 ⟨rfl, hb⟩
  refine ⟨_, rfl, ?_⟩
  have n0_ := pxs HB hb; have nAB_ : Aside0 (wa7.heap[ga]? = some (.cells #[.int .i64 5, .int .i64 0, .string ⟨#[]⟩] 61 (0, 0))) := ⟨blk_below (pxp AB) hb⟩; have nBB_ : Aside0 (wa7.heap[gb]? = some (.cells #[.int .i64 5, .int .i64 1, .string ⟨#[]⟩] 61 (0, 0))) := ⟨blk_below (pxp BB) hb⟩; have nVB_ : Aside0 (wa7.heap[gv]? = some (.cells #[.int .i64 5, .int .i64 1, .string ⟨#[]⟩] 61 (0, 0))) := ⟨blk_below (pxp VB) hb⟩; have nWB_ : Aside0 (wa7.heap[gw]? = some (.cells #[.int .i64 2, .int .i64 0, .string ⟨#[]⟩] 61 (0, 0))) := ⟨blk_below (pxp WB) hb⟩; have nHX_ := pxs HX hb; clear HB HX AB BB VB WB; have HB := n0_; clear n0_; have HX := nHX_; clear nHX_; have AB := nAB_; clear nAB_; have BB := nBB_; clear nBB_; have VB := nVB_; clear nVB_; have WB := nWB_; clear nWB_
  refine hK.out _ _ ⟨(pxf3 AB).1, (pxf3 AB).2.1, (pxf3 AB).2.2.1, (pxf3 BB).1, (pxf3 BB).2.1, (pxf3 BB).2.2.1, (pxf3 VB).1, (pxf3 VB).2.1, (pxf3 VB).2.2.1, (pxf3 WB).1, (pxf3 WB).2.1, (pxf3 WB).2.2.1⟩ (fun hHeld => ?_)
  clear hK K hb
  refine nS 101 ?_
  refine oS 53 HT_ (fun K hK => ?_)
  refine value_ (w1 := ?_) (v := ?_) (by rfl) rfl ?_ ?_
  rotate_left 2
  · go_simp
    constructor
    · rfl
    · rfl
  refine hK.out _ _ ⟨(pxf3 AB).1, (pxf3 AB).2.1, (pxf3 AB).2.2.1, (pxf3 BB).1, (pxf3 BB).2.1, (pxf3 BB).2.2.1, (pxf3 VB).1, (pxf3 VB).2.1, (pxf3 VB).2.2.1, (pxf3 WB).1, (pxf3 WB).2.1, (pxf3 WB).2.2.1⟩ (fun hHeld => ?_)
  clear hK K
  refine nS 103 ?_
  refine pS 54 104 HT_ ?_
  refine pS 55 105 HT_ ?_
  refine tT 56 106 HT_ hHeld ?_
  refine oS 57 HT_ (fun K hK => ?_)
  refine goes_ Try.func27 (by kernel_rfl) rfl #[.int .i64 0] (by rfl) rfl rfl (by (try simp only [List.map_toArray, List.map_cons, List.map_nil]); first | done | rfl) ?_
  (with_reducible refine (heap_At.calls 0 5 0 ⟨#[]⟩ _ rfl).mono ?_)
  rintro e wa8 ⟨rfl, hb⟩
  refine ⟨_, rfl, ?_⟩
  have n0_ := pxs HB hb; have nAB_ : Aside0 (wa8.heap[ga]? = some (.cells #[.int .i64 5, .int .i64 0, .string ⟨#[]⟩] 61 (0, 0))) := ⟨blk_below (pxp AB) hb⟩; have nBB_ : Aside0 (wa8.heap[gb]? = some (.cells #[.int .i64 5, .int .i64 1, .string ⟨#[]⟩] 61 (0, 0))) := ⟨blk_below (pxp BB) hb⟩; have nVB_ : Aside0 (wa8.heap[gv]? = some (.cells #[.int .i64 5, .int .i64 1, .string ⟨#[]⟩] 61 (0, 0))) := ⟨blk_below (pxp VB) hb⟩; have nWB_ : Aside0 (wa8.heap[gw]? = some (.cells #[.int .i64 2, .int .i64 0, .string ⟨#[]⟩] 61 (0, 0))) := ⟨blk_below (pxp WB) hb⟩; have nHX_ := pxs HX hb; clear HB HX AB BB VB WB; have HB := n0_; clear n0_; have HX := nHX_; clear nHX_; have AB := nAB_; clear nAB_; have BB := nBB_; clear nBB_; have VB := nVB_; clear nVB_; have WB := nWB_; clear nWB_
  refine hK.out _ _ ⟨(pxf3 AB).1, (pxf3 AB).2.1, (pxf3 AB).2.2.1, (pxf3 BB).1, (pxf3 BB).2.1, (pxf3 BB).2.2.1, (pxf3 VB).1, (pxf3 VB).2.1, (pxf3 VB).2.2.1, (pxf3 WB).1, (pxf3 WB).2.1, (pxf3 WB).2.2.1⟩ (fun hHeld => ?_)
  clear hK K hb
  refine nS 107 ?_
  refine oS 58 HT_ (fun K hK => ?_)
  refine goes_ Try.func47 (by kernel_rfl) rfl #[.agg #[.int .i64 5, .int .i64 0, .string ⟨#[]⟩], .agg #[.int .i64 5, .int .i64 0, .string ⟨#[]⟩]] (by rfl) rfl rfl (by (try simp only [List.map_toArray, List.map_cons, List.map_nil]); first | done | rfl) ?_
  (with_reducible refine (heap_Same.calls 5 0 ⟨#[]⟩ 5 0 ⟨#[]⟩ true _ (by decide +kernel)).mono ?_)
  rintro e wa9 ⟨rfl, hb⟩
  refine ⟨_, rfl, ?_⟩
  have n0_ := pxs HB hb; have nAB_ : Aside0 (wa9.heap[ga]? = some (.cells #[.int .i64 5, .int .i64 0, .string ⟨#[]⟩] 61 (0, 0))) := ⟨blk_below (pxp AB) hb⟩; have nBB_ : Aside0 (wa9.heap[gb]? = some (.cells #[.int .i64 5, .int .i64 1, .string ⟨#[]⟩] 61 (0, 0))) := ⟨blk_below (pxp BB) hb⟩; have nVB_ : Aside0 (wa9.heap[gv]? = some (.cells #[.int .i64 5, .int .i64 1, .string ⟨#[]⟩] 61 (0, 0))) := ⟨blk_below (pxp VB) hb⟩; have nWB_ : Aside0 (wa9.heap[gw]? = some (.cells #[.int .i64 2, .int .i64 0, .string ⟨#[]⟩] 61 (0, 0))) := ⟨blk_below (pxp WB) hb⟩; have nHX_ := pxs HX hb; clear HB HX AB BB VB WB; have HB := n0_; clear n0_; have HX := nHX_; clear nHX_; have AB := nAB_; clear nAB_; have BB := nBB_; clear nBB_; have VB := nVB_; clear nVB_; have WB := nWB_; clear nWB_
  refine hK.out _ _ ⟨(pxf3 AB).1, (pxf3 AB).2.1, (pxf3 AB).2.2.1, (pxf3 BB).1, (pxf3 BB).2.1, (pxf3 BB).2.2.1, (pxf3 VB).1, (pxf3 VB).2.1, (pxf3 VB).2.2.1, (pxf3 WB).1, (pxf3 WB).2.1, (pxf3 WB).2.2.1⟩ (fun hHeld => ?_)
  clear hK K hb
  refine nS 108 ?_
  refine pS 59 109 HT_ ?_
  refine pS 60 110 HT_ ?_
  refine oS 61 HT_ (fun K hK => ?_)
  refine goes_ Try.func48 (by kernel_rfl) rfl #[.int .i64 7] (by rfl) rfl rfl (by (try simp only [List.map_toArray, List.map_cons, List.map_nil]); first | done | rfl) ?_
  (with_reducible refine (heap_Int.calls 7 1 7 ⟨#[]⟩ _ rfl).mono ?_)
  rintro e wa10 ⟨rfl, hb⟩
  refine ⟨_, rfl, ?_⟩
  have n0_ := pxs HB hb; have nAB_ : Aside0 (wa10.heap[ga]? = some (.cells #[.int .i64 5, .int .i64 0, .string ⟨#[]⟩] 61 (0, 0))) := ⟨blk_below (pxp AB) hb⟩; have nBB_ : Aside0 (wa10.heap[gb]? = some (.cells #[.int .i64 5, .int .i64 1, .string ⟨#[]⟩] 61 (0, 0))) := ⟨blk_below (pxp BB) hb⟩; have nVB_ : Aside0 (wa10.heap[gv]? = some (.cells #[.int .i64 5, .int .i64 1, .string ⟨#[]⟩] 61 (0, 0))) := ⟨blk_below (pxp VB) hb⟩; have nWB_ : Aside0 (wa10.heap[gw]? = some (.cells #[.int .i64 2, .int .i64 0, .string ⟨#[]⟩] 61 (0, 0))) := ⟨blk_below (pxp WB) hb⟩; have nHX_ := pxs HX hb; clear HB HX AB BB VB WB; have HB := n0_; clear n0_; have HX := nHX_; clear nHX_; have AB := nAB_; clear nAB_; have BB := nBB_; clear nBB_; have VB := nVB_; clear nVB_; have WB := nWB_; clear nWB_
  refine hK.out _ _ ⟨(pxf3 AB).1, (pxf3 AB).2.1, (pxf3 AB).2.2.1, (pxf3 BB).1, (pxf3 BB).2.1, (pxf3 BB).2.2.1, (pxf3 VB).1, (pxf3 VB).2.1, (pxf3 VB).2.2.1, (pxf3 WB).1, (pxf3 WB).2.1, (pxf3 WB).2.2.1⟩ (fun hHeld => ?_)
  clear hK K hb
  refine nS 111 ?_
  refine oS 62 HT_ (fun K hK => ?_)
  refine value_ (w1 := ?_) (v := ?_) (by rfl) rfl ?_ ?_
  rotate_left 2
  · go_simp
    constructor
    · rfl
    · rfl
  refine hK.out _ _ ⟨(pxf3 AB).1, (pxf3 AB).2.1, (pxf3 AB).2.2.1, (pxf3 BB).1, (pxf3 BB).2.1, (pxf3 BB).2.2.1, (pxf3 VB).1, (pxf3 VB).2.1, (pxf3 VB).2.2.1, (pxf3 WB).1, (pxf3 WB).2.1, (pxf3 WB).2.2.1⟩ (fun hHeld => ?_)
  clear hK K
  refine nS 112 ?_
  refine pS 63 113 HT_ ?_
  refine pS 64 114 HT_ ?_
  refine pS 65 115 HT_ ?_
  refine oS 66 HT_ (fun K hK => ?_)
  refine goes_ Try.func49 (by kernel_rfl) rfl #[.string ⟨#[120]⟩] (by rfl) rfl rfl (by (try simp only [List.map_toArray, List.map_cons, List.map_nil]); first | done | rfl) ?_
  (with_reducible refine (heap_Str.calls ⟨#[120]⟩ 4 0 ⟨#[120]⟩ _ rfl).mono ?_)
  rintro e wa11 ⟨rfl, hb⟩
  refine ⟨_, rfl, ?_⟩
  have n0_ := pxs HB hb; have nAB_ : Aside0 (wa11.heap[ga]? = some (.cells #[.int .i64 5, .int .i64 0, .string ⟨#[]⟩] 61 (0, 0))) := ⟨blk_below (pxp AB) hb⟩; have nBB_ : Aside0 (wa11.heap[gb]? = some (.cells #[.int .i64 5, .int .i64 1, .string ⟨#[]⟩] 61 (0, 0))) := ⟨blk_below (pxp BB) hb⟩; have nVB_ : Aside0 (wa11.heap[gv]? = some (.cells #[.int .i64 5, .int .i64 1, .string ⟨#[]⟩] 61 (0, 0))) := ⟨blk_below (pxp VB) hb⟩; have nWB_ : Aside0 (wa11.heap[gw]? = some (.cells #[.int .i64 2, .int .i64 0, .string ⟨#[]⟩] 61 (0, 0))) := ⟨blk_below (pxp WB) hb⟩; have nHX_ := pxs HX hb; clear HB HX AB BB VB WB; have HB := n0_; clear n0_; have HX := nHX_; clear nHX_; have AB := nAB_; clear nAB_; have BB := nBB_; clear nBB_; have VB := nVB_; clear nVB_; have WB := nWB_; clear nWB_
  refine hK.out _ _ ⟨(pxf3 AB).1, (pxf3 AB).2.1, (pxf3 AB).2.2.1, (pxf3 BB).1, (pxf3 BB).2.1, (pxf3 BB).2.2.1, (pxf3 VB).1, (pxf3 VB).2.1, (pxf3 VB).2.2.1, (pxf3 WB).1, (pxf3 WB).2.1, (pxf3 WB).2.2.1⟩ (fun hHeld => ?_)
  clear hK K hb
  refine nS 116 ?_
  refine oS 67 HT_ (fun K hK => ?_)
  refine value_ (w1 := ?_) (v := ?_) (by rfl) rfl ?_ ?_
  rotate_left 2
  · go_simp
    constructor
    · rfl
    · rfl
  refine hK.out _ _ ⟨(pxf3 AB).1, (pxf3 AB).2.1, (pxf3 AB).2.2.1, (pxf3 BB).1, (pxf3 BB).2.1, (pxf3 BB).2.2.1, (pxf3 VB).1, (pxf3 VB).2.1, (pxf3 VB).2.2.1, (pxf3 WB).1, (pxf3 WB).2.1, (pxf3 WB).2.2.1⟩ (fun hHeld => ?_)
  clear hK K
  refine nS 117 ?_
  refine pS 68 118 HT_ ?_
  refine pS 69 119 HT_ ?_
  refine pS 70 120 HT_ ?_
  refine oS 71 HT_ (fun K hK => ?_)
  refine goes_ Try.func50 (by kernel_rfl) rfl #[.int .u64 9] (by rfl) rfl rfl (by (try simp only [List.map_toArray, List.map_cons, List.map_nil]); first | done | rfl) ?_
  (with_reducible refine (heap_Double.calls 9 3 9 ⟨#[]⟩ _ (by decide +kernel)).mono ?_)
  rintro e wa12 ⟨rfl, hb⟩
  refine ⟨_, rfl, ?_⟩
  have n0_ := pxs HB hb; have nAB_ : Aside0 (wa12.heap[ga]? = some (.cells #[.int .i64 5, .int .i64 0, .string ⟨#[]⟩] 61 (0, 0))) := ⟨blk_below (pxp AB) hb⟩; have nBB_ : Aside0 (wa12.heap[gb]? = some (.cells #[.int .i64 5, .int .i64 1, .string ⟨#[]⟩] 61 (0, 0))) := ⟨blk_below (pxp BB) hb⟩; have nVB_ : Aside0 (wa12.heap[gv]? = some (.cells #[.int .i64 5, .int .i64 1, .string ⟨#[]⟩] 61 (0, 0))) := ⟨blk_below (pxp VB) hb⟩; have nWB_ : Aside0 (wa12.heap[gw]? = some (.cells #[.int .i64 2, .int .i64 0, .string ⟨#[]⟩] 61 (0, 0))) := ⟨blk_below (pxp WB) hb⟩; have nHX_ := pxs HX hb; clear HB HX AB BB VB WB; have HB := n0_; clear n0_; have HX := nHX_; clear nHX_; have AB := nAB_; clear nAB_; have BB := nBB_; clear nBB_; have VB := nVB_; clear nVB_; have WB := nWB_; clear nWB_
  refine hK.out _ _ ⟨(pxf3 AB).1, (pxf3 AB).2.1, (pxf3 AB).2.2.1, (pxf3 BB).1, (pxf3 BB).2.1, (pxf3 BB).2.2.1, (pxf3 VB).1, (pxf3 VB).2.1, (pxf3 VB).2.2.1, (pxf3 WB).1, (pxf3 WB).2.1, (pxf3 WB).2.2.1⟩ (fun hHeld => ?_)
  clear hK K hb
  refine nS 121 ?_
  refine oS 72 HT_ (fun K hK => ?_)
  refine value_ (w1 := ?_) (v := ?_) (by rfl) rfl ?_ ?_
  rotate_left 2
  · go_simp
    constructor
    · rfl
    · rfl
  refine hK.out _ _ ⟨(pxf3 AB).1, (pxf3 AB).2.1, (pxf3 AB).2.2.1, (pxf3 BB).1, (pxf3 BB).2.1, (pxf3 BB).2.2.1, (pxf3 VB).1, (pxf3 VB).2.1, (pxf3 VB).2.2.1, (pxf3 WB).1, (pxf3 WB).2.1, (pxf3 WB).2.2.1⟩ (fun hHeld => ?_)
  clear hK K
  refine nS 122 ?_
  refine pS 73 123 HT_ ?_
  refine pS 74 124 HT_ ?_
  refine pS 75 125 HT_ ?_
  refine pS 76 126 HT_ ?_
  refine pS 77 127 HT_ ?_
  refine pS 78 128 HT_ ?_
  refine pS 79 129 HT_ ?_
  refine pS 80 130 HT_ ?_
  refine pS 81 131 HT_ ?_
  refine pS 82 132 HT_ ?_
  refine pS 83 0 HT_ ?_
  refine done_ (done_of HT_.out (by kernel_rfl)) ?_
  clear HT_ hHeld
  go_wp2
  go_ret
  exact ⟨rfl, pxb HB⟩
end Go.Proofs.Ytefgfnhhoidbdaa.HpW
