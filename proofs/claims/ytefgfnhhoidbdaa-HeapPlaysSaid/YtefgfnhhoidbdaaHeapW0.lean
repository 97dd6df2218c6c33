/- A heap: its block, its list of cells, the number of cells; find. -/
import Derived.Test.YtefgfnhhoidbdaaH0
import Derived.Test.YtefgfnhhoidbdaaShort2
import Derived.Test.YtefgfnhhoidbdaaShort3
import Derived.Test.YtefgfnhhoidbdaaShort4
import Derived.Test.YtefgfnhhoidbdaaEvKit
import Derived.Lib.Hide
namespace Go.Proofs.Ytefgfnhhoidbdaa.HpW
open Go.RowKit Go.Proofs.YtefgfnhhoidbdaaW.PrintWords Go.Proofs.YtefgfnhhoidbdaaW.PrintLast Go.Proofs.Ytefgfnhhoidbdaa.H
set_option linter.unusedVariables false
set_option linter.unusedSimpArgs false
/-- A heap in memory: its block g, its list lv of cells cs, of n fields and elements in all; what lies below B is none of it; its blocks are O's. -/
structure HP (g B : Nat) (O : Nat → Prop) (lv : Value) (cs : List S105) (n : Int) (W : World) : Prop where
  bk : W.heap[g]? = some (.cells #[lv, .int .i64 n] 55 (0, 0))
  row : Kd.S k105 105 W B (fun k => O k ∧ k ≠ g) lv cs
  own : O g
  lt : ∀ k, O k → k < W.heap.size
  le : B ≤ g
theorem HP.below {g B : Nat} {O : Nat → Prop} {lv : Value} {cs : List S105} {n : Int} {W W' : World} (h : HP g B O lv cs n W) (hb : Below W.heap.size W W') : HP g B O lv cs n W' := ⟨blk_below h.bk hb, Kd.S_below h.row hb, h.own, fun k hk => Nat.lt_of_lt_of_le (h.lt k hk) hb.size, h.le⟩
theorem HP.form {g B : Nat} {O : Nat → Prop} {lv : Value} {cs : List S105} {n : Int} {W : World} (h : HP g B O lv cs n W) : ∃ A c, lv = .slice A cs.length c ∧ cs.length ≤ c ∧ Kd.C k105 W A cs.length cs := Kd.S_reads h.row
theorem HP.form2 {g B : Nat} {O : Nat → Prop} {lv : Value} {cs : List S105} {n : Int} {W : World} (h : HP g B O lv cs n W) (hp : 0 < cs.length) : ∃ b c, lv = .slice (some ⟨b, 0, none⟩) cs.length c ∧ B ≤ b ∧ b < W.heap.size ∧ b ≠ g := by
  obtain ⟨b, c, rfl, h1, h2, _⟩ := Kd.S_form h.row hp
  exact ⟨b, c, rfl, h1, h2, fun e => Kd.S_away h.row (fun k hk => hk.2) (by rw [e]; rfl)⟩
abbrev vV (v : S61) : Value := .agg #[.int .i64 v.f0, .int .i64 v.f1, .string v.f2]
set_option maxHeartbeats 16000000 in
set_option maxRecDepth 100000 in
theorem find_no {g B : Nat} {O : Nat → Prop} {lv : Value} {cs : List S105} {n : Int} (v : S61) (w : World) (h : HP g B O lv cs n w) (hn : v.f0 ≠ 5 ∨ v.f1 < 0 ∨ (cs.length : Int) ≤ v.f1) :
    Calls Try.prog 54 #[.pointer (some ⟨g, 0, none⟩), vV v] w fun e w' => e = .returned (.pointer none) ∧ Below w.heap.size w w' := by
  obtain ⟨A, c, rfl, hc, hC⟩ := h.form
  have HB := Aside0.mk (Below.refl w.heap.size w)
  have GB := Aside0.mk h.bk
  obtain ⟨xGB0, xGB1, yGB0, yGB1⟩ := pxf2 GB
  go_enter Try.func54, Try.ntmps54
  go_upto_region 1 with (first | ((with_reducible refine gate_dst (N := 3) rfl ?_); refine box_event ?hg (N := 3) ?hd (cs := #[.int .i64 v.f0, .int .i64 v.f1, .string v.f2]) (t := 61) ?hr ?_; (case hd => rfl); (case hg => rfl); (case hr => first | (go_simp; done) | (go_simp; rfl)); intro gv hg w1 hbox hb; have NWVB := Aside0.mk hbox; have GWVB := Aside0.mk ((by rw [hg]; exact (below_size (pxb HB)) : w.heap.size ≤ gv)); have NEGBVB := Aside0.mk (show g ≠ gv by rw [hg]; exact Nat.ne_of_lt (blk_lt (pxp (o := .cells #[.slice A cs.length c, .int .i64 n] 55 (0, 0)) GB))); have NEVBGB := Aside0.mk (Ne.symm NEGBVB.out); have eGBVB := NEGBVB.out; have eVBGB := NEVBGB.out; clear hg hbox; have n0_ := pxs HB hb; have nGB_ : Aside0 (w1.heap[g]? = some (.cells #[.slice A cs.length c, .int .i64 n] 55 (0, 0))) := ⟨blk_below (pxp GB) hb⟩; clear HB GB; have HB := n0_; clear n0_; have GB := nGB_; clear nGB_; have VB := NWVB; clear NWVB hb; obtain ⟨xGB0, xGB1, yGB0, yGB1⟩ := pxf2 GB; obtain ⟨xVB0, xVB1, xVB2, yVB0, yVB1, yVB2⟩ := pxf3 VB))
  have tail : True := trivial
  by_cases h5 : v.f0 = 5
  · have k1 : (v.f0 != 5) = false := bne_eq_false_iff_eq.2 h5
    by_cases h0 : v.f1 < 0
    · have k2 : decide (v.f1 < 0) = true := decide_eq_true h0
      go_quiet (fail)
      go_wp2
      go_ret
      exact ⟨rfl, pxb HB⟩
    · have k2 : decide (v.f1 < 0) = false := decide_eq_false h0
      have k3 : decide ((cs.length : Int) ≤ v.f1) = true := decide_eq_true (by rcases hn with e | e | e; exact absurd h5 e; exact absurd e h0; exact e)
      go_quiet (fail)
      go_wp2
      go_ret
      exact ⟨rfl, pxb HB⟩
  · have k1 : (v.f0 != 5) = true := bne_iff_ne.2 h5
    go_quiet (fail)
    go_wp2
    go_ret
    exact ⟨rfl, pxb HB⟩
set_option maxHeartbeats 16000000 in
set_option maxRecDepth 100000 in
theorem find_yes {g B : Nat} {O : Nat → Prop} {cs : List S105} {n : Int} (v : S61) (w : World) {b c0 : Nat} (h : HP g B O (.slice (some ⟨b, 0, none⟩) cs.length c0) cs n w) (h5 : v.f0 = 5) (h0 : 0 ≤ v.f1) (h1 : v.f1 < (cs.length : Int)) :
    Calls Try.prog 54 #[.pointer (some ⟨g, 0, none⟩), vV v] w fun e w' => e = .returned (.pointer (some ⟨b, v.f1.toNat * 7, none⟩)) ∧ Below w.heap.size w w' := by
  have HB := Aside0.mk (Below.refl w.heap.size w)
  have GB := Aside0.mk h.bk
  obtain ⟨xGB0, xGB1, yGB0, yGB1⟩ := pxf2 GB
  go_enter Try.func54, Try.ntmps54
  go_upto_region 1 with (first | ((with_reducible refine gate_dst (N := 3) rfl ?_); refine box_event ?hg (N := 3) ?hd (cs := #[.int .i64 v.f0, .int .i64 v.f1, .string v.f2]) (t := 61) ?hr ?_; (case hd => rfl); (case hg => rfl); (case hr => first | (go_simp; done) | (go_simp; rfl)); intro gv hg w1 hbox hb; have NWVB := Aside0.mk hbox; have GWVB := Aside0.mk ((by rw [hg]; exact (below_size (pxb HB)) : w.heap.size ≤ gv)); have NEGBVB := Aside0.mk (show g ≠ gv by rw [hg]; exact Nat.ne_of_lt (blk_lt (pxp (o := .cells #[.slice (some ⟨b, 0, none⟩) cs.length c0, .int .i64 n] 55 (0, 0)) GB))); have NEVBGB := Aside0.mk (Ne.symm NEGBVB.out); have eGBVB := NEGBVB.out; have eVBGB := NEVBGB.out; clear hg hbox; have n0_ := pxs HB hb; have nGB_ : Aside0 (w1.heap[g]? = some (.cells #[.slice (some ⟨b, 0, none⟩) cs.length c0, .int .i64 n] 55 (0, 0))) := ⟨blk_below (pxp GB) hb⟩; clear HB GB; have HB := n0_; clear n0_; have GB := nGB_; clear nGB_; have VB := NWVB; clear NWVB hb; obtain ⟨xGB0, xGB1, yGB0, yGB1⟩ := pxf2 GB; obtain ⟨xVB0, xVB1, xVB2, yVB0, yVB1, yVB2⟩ := pxf3 VB))
  have k1 : (v.f0 != 5) = false := bne_eq_false_iff_eq.2 h5
  have k2 : decide (v.f1 < 0) = false := decide_eq_false (by omega)
  have k3 : decide ((cs.length : Int) ≤ v.f1) = false := decide_eq_false (by omega)
  have p0 : (0 ≤ v.f1) = True := eq_true h0
  have p1 : (v.f1 < (cs.length : Int)) = True := eq_true h1
  go_quiet (fail)
  go_wp2
  go_quiet (fail)
  go_wp2
  go_ret
  exact ⟨rfl, pxb HB⟩
end Go.Proofs.Ytefgfnhhoidbdaa.HpW
