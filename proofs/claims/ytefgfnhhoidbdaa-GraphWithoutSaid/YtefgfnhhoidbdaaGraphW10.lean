/- GraphAdds: walked. -/
import Derived.Test.YtefgfnhhoidbdaaGraphW9
import Derived.Test.YtefgfnhhoidbdaaXE29
namespace Go.Proofs.Ytefgfnhhoidbdaa.GrW
open Go.RowKit Go.Proofs.YtefgfnhhoidbdaaW.PrintWords Go.Proofs.YtefgfnhhoidbdaaW.PrintLast Go.Proofs.Ytefgfnhhoidbdaa.X Go.Proofs.Ytefgfnhhoidbdaa.Gr
set_option linter.unusedVariables false
set_option linter.unusedSimpArgs false
attribute [local go_sem high] eqA29
theorem s29_ext {x y : S29} (a : x.f0 = y.f0) (b : x.f1 = y.f1) (c : x.f2 = y.f2) (d : x.f3 = y.f3) : x = y := by cases x; cases y; simp_all
theorem G.lower {g B B' n : Nat} {es : List S29} {O : Nat → Prop} {W : World} (h : G g B n es O W) (hb : B' ≤ B) : G g B' n es O W := by
  obtain ⟨mb, cnt, ev, f, h1, h2⟩ := h
  exact ⟨mb, cnt, ev, f, ⟨Nat.le_trans hb h1.le, Nat.le_trans hb h1.lem, h1.bk, Kd.R_lower h1.row hb, h1.map, fun v a b => Kd.R_lower (h1.rows v a b) hb, h1.apart, h1.cnt_le, h1.n_le, h1.m_le, h1.val⟩, h2⟩
theorem G.at0 {g B n : Nat} {es : List S29} {O : Nat → Prop} {W W' : World} (h : Aside0 (G g B n es O W)) (hs : Below W.heap.size W W' := by (with_reducible repeat (first | exact Below.refl _ _ | refine below_alloc ?_ _ | refine pw_below_drewN ?_ _ | refine below_drew1 ?_))) : Aside0 (G g B n es O W') := ⟨h.out.below hs⟩
theorem add_rng {g B n : Nat} {es : List S29} {O : Nat → Prop} (x : S29) (w : World) (h : G g B n es O w) (hr : x.f0 < -1 ∨ (n : Int) ≤ x.f0 ∨ x.f1 < 0 ∨ (n : Int) ≤ x.f1) : Calls Try.prog 12 #[.pointer (some ⟨g, 0, none⟩), .agg #[.int .i64 x.f0, .int .i64 x.f1, .int .i64 x.f2, .int .i64 x.f3]] w fun e w' => e = .returned (.int .i64 1) ∧ Below w.heap.size w w' := by
  by_cases h1 : x.f0 < -1
  · exact add_r1 x w h h1
  · by_cases h2 : (n : Int) ≤ x.f0
    · exact add_r2 x w h (by omega) h2
    · by_cases h3 : x.f1 < 0
      · exact add_r3 x w h (by omega) (by omega) h3
      · exact add_r4 x w h (by omega) (by omega) (by omega) (by omega)
theorem far8 {W : World} {ad : Addr} {k gx : Nat} {u v0 v1 v2 v3 : Value} (h : W.cell? (ad.add k) = some u) (hn : ad.block ≠ gx) : ((((W.setCell ⟨gx, 0, none⟩ v0).setCell ⟨gx, 1, none⟩ v1).setCell ⟨gx, 2, none⟩ v2).setCell ⟨gx, 3, none⟩ v3).cell? (ad.add k) = some u := far4 h hn
set_option maxHeartbeats 16000000 in
set_option maxRecDepth 100000 in
theorem adds_long (nodes : Int) (A1 : Option Addr) (c1 : Nat) (l : List S29) (w : World) (h1 : 150 < l.length) : Calls Try.prog 3 #[.int .i64 nodes, .slice A1 l.length c1] w fun e w' => e = .returned (.bool true) ∧ Below w.heap.size w w' := by
  have HB := Aside0.mk (Below.refl w.heap.size w)
  have tok_1 : True := trivial
  have tok_2 : True := trivial
  have k1 : decide ((150 : Int) < (l.length : Int)) = true := decide_eq_true (by omega)
  have k1' : decide (150 < l.length) = true := decide_eq_true h1
  clear h1
  go_enter Try.func3, Try.ntmps3
  go_wp2_with (first | (clear tok_1; go_at_call 10; (with_reducible refine (comes_any _).mono ?_); rintro e w1 ⟨rfl, hb⟩; have h1 := pxs HB hb; clear HB hb; have HB := h1; clear h1))
  go_ret
  exact ⟨rfl, pxb HB⟩
set_option maxHeartbeats 16000000 in
set_option maxRecDepth 100000 in
theorem adds_many (nodes : Int) (A1 : Option Addr) (c1 : Nat) (l : List S29) (w : World) (h1 : l.length ≤ 150) (h2 : 9000 < nodes) : Calls Try.prog 3 #[.int .i64 nodes, .slice A1 l.length c1] w fun e w' => e = .returned (.bool true) ∧ Below w.heap.size w w' := by
  have HB := Aside0.mk (Below.refl w.heap.size w)
  have tok_1 : True := trivial
  have tok_2 : True := trivial
  have k1 : decide ((150 : Int) < (l.length : Int)) = false := decide_eq_false (by omega)
  have k1' : decide (150 < l.length) = false := decide_eq_false (by omega)
  have k2 : decide (9000 < nodes) = true := decide_eq_true h2
  clear h1 h2
  go_enter Try.func3, Try.ntmps3
  go_wp2_with (first | (clear tok_1; go_at_call 10; (with_reducible refine (comes_any _).mono ?_); rintro e w1 ⟨rfl, hb⟩; have h1 := pxs HB hb; clear HB hb; have HB := h1; clear h1))
  go_ret
  exact ⟨rfl, pxb HB⟩
set_option maxHeartbeats 16000000 in
set_option maxRecDepth 100000 in
theorem adds_neg (nodes : Int) (A1 : Option Addr) (c1 : Nat) (l : List S29) (w : World) (h1 : l.length ≤ 150) (h2 : nodes ≤ 9000) (h3 : nodes < 0) : Calls Try.prog 3 #[.int .i64 nodes, .slice A1 l.length c1] w fun e w' => e = .returned (.bool true) ∧ Below w.heap.size w w' := by
  have HB := Aside0.mk (Below.refl w.heap.size w)
  have tok_1 : True := trivial
  have tok_2 : True := trivial
  have k1 : decide ((150 : Int) < (l.length : Int)) = false := decide_eq_false (by omega)
  have k1' : decide (150 < l.length) = false := decide_eq_false (by omega)
  have k2 : decide (9000 < nodes) = false := decide_eq_false (by omega)
  have k3 : decide (nodes < 0) = true := decide_eq_true h3
  have HNEW := Lib.hid (fun W => new_bad nodes W (by omega))
  clear h1 h2 h3
  go_enter Try.func3, Try.ntmps3
  go_wp2_with (first | (clear tok_1; go_at_call 10; (with_reducible refine (comes_any _).mono ?_); rintro e w1 ⟨rfl, hb⟩; have h1 := pxs HB hb; clear HB hb; have HB := h1; clear h1) | (clear tok_2; go_at_call 11; (with_reducible refine (HNEW.out _).mono ?_); rintro e w2 ⟨rfl, rfl⟩))
  go_ret
  exact ⟨rfl, pxb HB⟩
set_option maxHeartbeats 16000000 in
set_option maxRecDepth 100000 in
theorem adds_over (nodes : Int) (A1 : Option Addr) (c1 : Nat) (l : List S29) (w : World) (h1 : l.length ≤ 150) (h2 : nodes ≤ 9000) (h3 : 8192 < nodes) : Calls Try.prog 3 #[.int .i64 nodes, .slice A1 l.length c1] w fun e w' => e = .returned (.bool true) ∧ Below w.heap.size w w' := by
  have HB := Aside0.mk (Below.refl w.heap.size w)
  have tok_1 : True := trivial
  have tok_2 : True := trivial
  have k1 : decide ((150 : Int) < (l.length : Int)) = false := decide_eq_false (by omega)
  have k1' : decide (150 < l.length) = false := decide_eq_false (by omega)
  have k2 : decide (9000 < nodes) = false := decide_eq_false (by omega)
  have k3 : decide (nodes < 0) = false := decide_eq_false (by omega)
  have k4 : decide (8192 < nodes) = true := decide_eq_true h3
  have HNEW := Lib.hid (fun W => new_bad nodes W (by omega))
  clear h1 h2 h3
  go_enter Try.func3, Try.ntmps3
  go_wp2_with (first | (clear tok_1; go_at_call 10; (with_reducible refine (comes_any _).mono ?_); rintro e w1 ⟨rfl, hb⟩; have h1 := pxs HB hb; clear HB hb; have HB := h1; clear h1) | (clear tok_2; go_at_call 11; (with_reducible refine (HNEW.out _).mono ?_); rintro e w2 ⟨rfl, rfl⟩))
  go_ret
  exact ⟨rfl, pxb HB⟩
set_option maxHeartbeats 16000000 in
set_option maxRecDepth 100000 in
theorem adds_main (N : Nat) (A1 : Option Addr) (c1 : Nat) (l : List S29) (w : World) (h1 : l.length ≤ 150) (h2 : N ≤ 8192) (hC : Kd.C k29 w A1 l.length l) : Calls Try.prog 3 #[.int .i64 (N : Int), .slice A1 l.length c1] w fun e w' => e = .returned (.bool true) ∧ Below w.heap.size w w' := by
  have HB := Aside0.mk (Below.refl w.heap.size w)
  have tok_1 : True := trivial
  have tok_2 : True := trivial
  have k1 : decide ((150 : Int) < (l.length : Int)) = false := decide_eq_false (by omega)
  have k1' : decide (150 < l.length) = false := decide_eq_false (by omega)
  have k2 : decide (9000 < (N : Int)) = false := decide_eq_false (by omega)
  have k2' : decide (9000 < N) = false := decide_eq_false (by omega)
  have k3 : decide ((N : Int) < 0) = false := decide_eq_false (by omega)
  have k4 : decide (8192 < (N : Int)) = false := decide_eq_false (by omega)
  have k4' : decide (8192 < N) = false := decide_eq_false (by omega)
  have HH := Lib.hid (And.intro h1 h2)
  have HC := Aside0.mk hC
  clear h1 h2 hC
  go_enter Try.func3, Try.ntmps3
  go_wp2_with (first | (clear tok_1; go_at_call 10; (with_reducible refine (comes_any _).mono ?_); rintro e w1 ⟨rfl, hb⟩; have h1 := pxs HB hb; clear HB hb; have HB := h1; clear h1) | (clear tok_2; go_at_call 11; (with_reducible refine (new_any N _ HH.out.2).mono ?_); rintro e w2 ⟨g, O, rfl, hg, hb⟩; have h1 := pxs HB hb; have HG := Aside0.mk (G.lower hg (below_size (pxb HB))); clear HB hb hg; have HB := h1; clear h1))
  go_loopg [7, 49] l.length (fun kq v7 v49 w' => ∃ (av : Value) (i : Nat) (es : List S29) (O : Nat → Prop), av = v7 ∧ v49 = .int .i64 i ∧ Hid (i ≤ l.length ∧ kq = l.length - i ∧ es.length ≤ i) ∧ Aside0 (G g w.heap.size N es O w') ∧ Aside0 (Kd.R k29 29 w' w.heap.size (fun k => ¬ O k) av es) ∧ Aside0 (Below w.heap.size w w'))
  case atStart => exact ⟨_, 0, [], O, rfl, rfl, ⟨Nat.zero_le _, rfl, Nat.le_refl _⟩, G.at0 HG, ⟨Kd.R_nil _ _ _ _ _⟩, ⟨pxb HB⟩⟩
  case round =>
    clear HG HB
    obtain ⟨av, i, es, O1, rfl, rfl, HI, HG, HO, HB⟩ := hrel
    by_cases hi : i < l.length
    · obtain ⟨adE, hadE, he0, he1, he2, he3⟩ := at_T29 HC.out (i : Int) (by omega) (by omega)
      subst hadE
      replace he0 := (HB.out.cell (World.block_lt_of_cell? w _ he0)).trans he0
      replace he1 := (HB.out.cell (World.block_lt_of_cell? w _ he1)).trans he1
      replace he2 := (HB.out.cell (World.block_lt_of_cell? w _ he2)).trans he2
      replace he3 := (HB.out.cell (World.block_lt_of_cell? w _ he3)).trans he3
      rw [show rd_T29 l (i : Int) = l.getD i z29 from rfl, Int.toNat_natCast] at he0 he1 he2 he3
      generalize l.getD i z29 = x at *
      have p3 : (0 ≤ (i : Int)) = True := eq_true (by omega)
      have p4 : ((i : Int) < (l.length : Int)) = True := eq_true (by omega)
      have p4' : (i < l.length) = True := eq_true (by omega)
      have k5 : decide (i < l.length) = true := decide_eq_true hi
      have k6 : decide ((i : Int) < (l.length : Int)) = true := decide_eq_true (by omega)
      have HLT := Lib.hid hi
      obtain ⟨Aa, ca, hav⟩ := Kd.R_slice HO.out
      subst hav
      clear hi
      obtain ⟨wq, rfl⟩ : ∃ wq, wq = wr := ⟨_, rfl⟩
      have HB0 := HB
      clear HB
      have HB := Aside0.mk (Below.refl wq.heap.size wq)
      by_cases r0 : x.f0 < -1
      · have HRNG : Aside0 (x.f0 < -1 ∨ (N : Int) ≤ x.f0 ∨ x.f1 < 0 ∨ (N : Int) ≤ x.f1) := ⟨by omega⟩
        have kr0 : decide (x.f0 < -1) = true := decide_eq_true r0
        clear r0
        go_wp2_with (first | ((with_reducible refine gate_dst (N := 9) rfl ?_); refine box_event ?hg (N := 9) ?hd (cs := #[.int .i64 0, .int .i64 0, .int .i64 0, .int .i64 0]) (t := 29) ?hr ?_; (case hd => rfl); (case hg => rfl); (case hr => first | (go_simp; done) | (go_simp; rfl)); intro gx hg w3 hbox hb; have NWXB := Aside0.mk hbox; have GWXB := Aside0.mk ((by rw [hg]; exact (below_size (pxb HB)) : wq.heap.size ≤ gx)); clear hg hbox; have n0_ := pxs HB hb; clear HB ; have HB := n0_; clear n0_; have XB := NWXB; clear NWXB hb; obtain ⟨xXB0, xXB1, xXB2, xXB3, yXB0, yXB1, yXB2, yXB3⟩ := pxf4 XB))
        go_loopg [10, 75] es.length (fun kq v10 v75 w' => ∃ (wv : Int) (j : Nat), v10 = .int .i64 wv ∧ v75 = .int .i64 j ∧ Hid (j ≤ es.length ∧ kq = es.length - j ∧ wv = 1) ∧ Aside0 (w'.heap[gx]? = some (.cells #[.int .i64 x.f0, .int .i64 x.f1, .int .i64 x.f2, .int .i64 x.f3] 29 (0, 0))) ∧ Aside0 (Below wq.heap.size wq w'))
        case atStart => exact ⟨_, 0, rfl, rfl, ⟨Nat.zero_le _, rfl, rfl⟩, ⟨pxp XB⟩, ⟨pxb HB⟩⟩
        case round =>
          clear HB XB xXB0 xXB1 xXB2 xXB3 yXB0 yXB1 yXB2 yXB3 he0 he1 he2 he3
          obtain ⟨wv, j, rfl, rfl, HJ, XB, HB⟩ := hrel
          obtain ⟨xXB0, xXB1, xXB2, xXB3, yXB0, yXB1, yXB2, yXB3⟩ := pxf4 XB
          by_cases hj : j < es.length
          · have HO2 := Kd.R_below HO.out HB.out
            obtain ⟨adA, hadA, he0, he1, he2, he3⟩ := at_T29 (Kd.R_reads' HO2).2.2 (j : Int) (by omega) (by omega)
            subst hadA
            rw [show rd_T29 es (j : Int) = es.getD j z29 from rfl, Int.toNat_natCast] at he0 he1 he2 he3
            have htk : es.take (j + 1) = es.take j ++ [es.getD j z29] := by rw [List.take_succ_eq_append_getElem hj, List.getD_eq_getElem?_getD, List.getElem?_eq_getElem hj, Option.getD_some]
            have HTK := Aside0.mk htk
            clear htk HO2
            generalize es.getD j z29 = y at *
            have p5 : (0 ≤ (j : Int)) = True := eq_true (by omega)
            have p6 : ((j : Int) < (es.length : Int)) = True := eq_true (by omega)
            have p6' : (j < es.length) = True := eq_true hj
            have k7 : decide (j < es.length) = true := decide_eq_true hj
            have k8 : decide ((j : Int) < (es.length : Int)) = true := decide_eq_true (by omega)
            have HJT := Lib.hid hj
            clear hj
            by_cases hxy : x = y
            · obtain rfl : wv = 1 := HJ.out.2.2
              subst hxy
              have tok_y : True := trivial
              go_wp2_with (first | ((with_reducible refine gate_dst (N := 12) rfl ?_); refine box_event ?hg (N := 12) ?hd (cs := #[.int .i64 0, .int .i64 0, .int .i64 0, .int .i64 0]) (t := 29) ?hr ?_; (case hd => rfl); (case hg => rfl); (case hr => first | (go_simp; done) | (go_simp; rfl)); intro gy hg w5 hbox hb; have NWYB := Aside0.mk hbox; have GWYB := Aside0.mk ((by rw [hg]; exact (below_size (pxb HB)) : wq.heap.size ≤ gy)); have NEXBYB := Aside0.mk (show gx ≠ gy by rw [hg]; exact Nat.ne_of_lt (blk_lt (pxp (o := .cells #[.int .i64 x.f0, .int .i64 x.f1, .int .i64 x.f2, .int .i64 x.f3] 29 (0, 0)) XB))); have NEYBXB := Aside0.mk (Ne.symm NEXBYB.out); have eXBYB := NEXBYB.out; have eYBXB := NEYBXB.out; clear hg hbox; have n0_ := pxs HB hb; have nXB_ : Aside0 (w5.heap[gx]? = some (.cells #[.int .i64 x.f0, .int .i64 x.f1, .int .i64 x.f2, .int .i64 x.f3] 29 (0, 0))) := ⟨blk_below (pxp XB) hb⟩; clear HB XB; have HB := n0_; clear n0_; have XB := nXB_; clear nXB_; have YB := NWYB; clear NWYB hb; obtain ⟨xXB0, xXB1, xXB2, xXB3, yXB0, yXB1, yXB2, yXB3⟩ := pxf4 XB; obtain ⟨xYB0, xYB1, xYB2, xYB3, yYB0, yYB1, yYB2, yYB3⟩ := pxf4 YB))
              go_roundg (es.length - (j + 1))
              case measure => have := HJ.out; have := HJT.out; omega
              case rel => exact ⟨_, j + 1, rfl, by have := HJT.out; have := HI.out; have := HLT.out; have := HH.out.1; rw [wrap_id (by omega) (by omega)]; rfl, ⟨by have := HJT.out; omega, rfl, rfl⟩, ⟨pxp XB⟩, ⟨pxb HB⟩⟩
            · obtain rfl : wv = 1 := HJ.out.2.2
              have kq : ((x.f0 == y.f0) && ((x.f1 == y.f1) && ((x.f2 == y.f2) && (x.f3 == y.f3)))) = false := by
                rw [Bool.eq_false_iff]
                intro e
                simp only [Bool.and_eq_true, beq_iff_eq] at e
                obtain ⟨a, b, c, d⟩ := e
                exact hxy (s29_ext a b c d)
              clear hxy
              have tok_y : True := trivial
              go_wp2_with (first | ((with_reducible refine gate_dst (N := 12) rfl ?_); refine box_event ?hg (N := 12) ?hd (cs := #[.int .i64 0, .int .i64 0, .int .i64 0, .int .i64 0]) (t := 29) ?hr ?_; (case hd => rfl); (case hg => rfl); (case hr => first | (go_simp; done) | (go_simp; rfl)); intro gy hg w5 hbox hb; have NWYB := Aside0.mk hbox; have GWYB := Aside0.mk ((by rw [hg]; exact (below_size (pxb HB)) : wq.heap.size ≤ gy)); have NEXBYB := Aside0.mk (show gx ≠ gy by rw [hg]; exact Nat.ne_of_lt (blk_lt (pxp (o := .cells #[.int .i64 x.f0, .int .i64 x.f1, .int .i64 x.f2, .int .i64 x.f3] 29 (0, 0)) XB))); have NEYBXB := Aside0.mk (Ne.symm NEXBYB.out); have eXBYB := NEXBYB.out; have eYBXB := NEYBXB.out; clear hg hbox; have n0_ := pxs HB hb; have nXB_ : Aside0 (w5.heap[gx]? = some (.cells #[.int .i64 x.f0, .int .i64 x.f1, .int .i64 x.f2, .int .i64 x.f3] 29 (0, 0))) := ⟨blk_below (pxp XB) hb⟩; clear HB XB; have HB := n0_; clear n0_; have XB := nXB_; clear nXB_; have YB := NWYB; clear NWYB hb; obtain ⟨xXB0, xXB1, xXB2, xXB3, yXB0, yXB1, yXB2, yXB3⟩ := pxf4 XB; obtain ⟨xYB0, xYB1, xYB2, xYB3, yYB0, yYB1, yYB2, yYB3⟩ := pxf4 YB))
              go_roundg (es.length - (j + 1))
              case measure => have := HJ.out; have := HJT.out; omega
              case rel => exact ⟨_, j + 1, rfl, by have := HJT.out; have := HI.out; have := HLT.out; have := HH.out.1; rw [wrap_id (by omega) (by omega)]; rfl, ⟨by have := HJT.out; omega, rfl, rfl⟩, ⟨pxp XB⟩, ⟨pxb HB⟩⟩
          · obtain rfl : es.length = j := by have := HJ.out; omega
            have k7 : decide (es.length < es.length) = false := decide_eq_false (by omega)
            have k8 : decide ((es.length : Int) < (es.length : Int)) = false := decide_eq_false (by omega)
            have tok_3 : True := trivial
            clear hj
            obtain rfl : wv = 1 := HJ.out.2.2
            clear HJ
            go_wp2_with (first | (clear tok_3; go_at_call 12; (with_reducible refine (add_rng x _ (HG.out.below (pxb HB)) HRNG.out).mono ?_); rintro e w7 ⟨rfl, hb⟩; have h1 := pxs HB hb; clear HB hb; have HB := h1; clear h1))
            go_roundg (l.length - (i + 1))
            case measure => have := HI.out; have := HLT.out; omega
            case rel => exact ⟨_, i + 1, es, O1, rfl, by have := HLT.out; have := HH.out.1; rw [wrap_id (by omega) (by omega)]; rfl, ⟨by have := HLT.out; omega, rfl, by have := HI.out; omega⟩, ⟨HG.out.below (pxb HB)⟩, ⟨Kd.R_below HO.out (pxb HB)⟩, ⟨below_step HB0.out (pxb HB)⟩⟩
      · skip
        by_cases r1 : (N : Int) ≤ x.f0
        · have HRNG : Aside0 (x.f0 < -1 ∨ (N : Int) ≤ x.f0 ∨ x.f1 < 0 ∨ (N : Int) ≤ x.f1) := ⟨by omega⟩
          have kr0 : decide (x.f0 < -1) = false := decide_eq_false r0
          have kr1 : decide ((N : Int) ≤ x.f0) = true := decide_eq_true r1
          clear r0 r1
          go_wp2_with (first | ((with_reducible refine gate_dst (N := 9) rfl ?_); refine box_event ?hg (N := 9) ?hd (cs := #[.int .i64 0, .int .i64 0, .int .i64 0, .int .i64 0]) (t := 29) ?hr ?_; (case hd => rfl); (case hg => rfl); (case hr => first | (go_simp; done) | (go_simp; rfl)); intro gx hg w3 hbox hb; have NWXB := Aside0.mk hbox; have GWXB := Aside0.mk ((by rw [hg]; exact (below_size (pxb HB)) : wq.heap.size ≤ gx)); clear hg hbox; have n0_ := pxs HB hb; clear HB ; have HB := n0_; clear n0_; have XB := NWXB; clear NWXB hb; obtain ⟨xXB0, xXB1, xXB2, xXB3, yXB0, yXB1, yXB2, yXB3⟩ := pxf4 XB))
          go_loopg [10, 75] es.length (fun kq v10 v75 w' => ∃ (wv : Int) (j : Nat), v10 = .int .i64 wv ∧ v75 = .int .i64 j ∧ Hid (j ≤ es.length ∧ kq = es.length - j ∧ wv = 1) ∧ Aside0 (w'.heap[gx]? = some (.cells #[.int .i64 x.f0, .int .i64 x.f1, .int .i64 x.f2, .int .i64 x.f3] 29 (0, 0))) ∧ Aside0 (Below wq.heap.size wq w'))
          case atStart => exact ⟨_, 0, rfl, rfl, ⟨Nat.zero_le _, rfl, rfl⟩, ⟨pxp XB⟩, ⟨pxb HB⟩⟩
          case round =>
            clear HB XB xXB0 xXB1 xXB2 xXB3 yXB0 yXB1 yXB2 yXB3 he0 he1 he2 he3
            obtain ⟨wv, j, rfl, rfl, HJ, XB, HB⟩ := hrel
            obtain ⟨xXB0, xXB1, xXB2, xXB3, yXB0, yXB1, yXB2, yXB3⟩ := pxf4 XB
            by_cases hj : j < es.length
            · have HO2 := Kd.R_below HO.out HB.out
              obtain ⟨adA, hadA, he0, he1, he2, he3⟩ := at_T29 (Kd.R_reads' HO2).2.2 (j : Int) (by omega) (by omega)
              subst hadA
              rw [show rd_T29 es (j : Int) = es.getD j z29 from rfl, Int.toNat_natCast] at he0 he1 he2 he3
              have htk : es.take (j + 1) = es.take j ++ [es.getD j z29] := by rw [List.take_succ_eq_append_getElem hj, List.getD_eq_getElem?_getD, List.getElem?_eq_getElem hj, Option.getD_some]
              have HTK := Aside0.mk htk
              clear htk HO2
              generalize es.getD j z29 = y at *
              have p5 : (0 ≤ (j : Int)) = True := eq_true (by omega)
              have p6 : ((j : Int) < (es.length : Int)) = True := eq_true (by omega)
              have p6' : (j < es.length) = True := eq_true hj
              have k7 : decide (j < es.length) = true := decide_eq_true hj
              have k8 : decide ((j : Int) < (es.length : Int)) = true := decide_eq_true (by omega)
              have HJT := Lib.hid hj
              clear hj
              by_cases hxy : x = y
              · obtain rfl : wv = 1 := HJ.out.2.2
                subst hxy
                have tok_y : True := trivial
                go_wp2_with (first | ((with_reducible refine gate_dst (N := 12) rfl ?_); refine box_event ?hg (N := 12) ?hd (cs := #[.int .i64 0, .int .i64 0, .int .i64 0, .int .i64 0]) (t := 29) ?hr ?_; (case hd => rfl); (case hg => rfl); (case hr => first | (go_simp; done) | (go_simp; rfl)); intro gy hg w5 hbox hb; have NWYB := Aside0.mk hbox; have GWYB := Aside0.mk ((by rw [hg]; exact (below_size (pxb HB)) : wq.heap.size ≤ gy)); have NEXBYB := Aside0.mk (show gx ≠ gy by rw [hg]; exact Nat.ne_of_lt (blk_lt (pxp (o := .cells #[.int .i64 x.f0, .int .i64 x.f1, .int .i64 x.f2, .int .i64 x.f3] 29 (0, 0)) XB))); have NEYBXB := Aside0.mk (Ne.symm NEXBYB.out); have eXBYB := NEXBYB.out; have eYBXB := NEYBXB.out; clear hg hbox; have n0_ := pxs HB hb; have nXB_ : Aside0 (w5.heap[gx]? = some (.cells #[.int .i64 x.f0, .int .i64 x.f1, .int .i64 x.f2, .int .i64 x.f3] 29 (0, 0))) := ⟨blk_below (pxp XB) hb⟩; clear HB XB; have HB := n0_; clear n0_; have XB := nXB_; clear nXB_; have YB := NWYB; clear NWYB hb; obtain ⟨xXB0, xXB1, xXB2, xXB3, yXB0, yXB1, yXB2, yXB3⟩ := pxf4 XB; obtain ⟨xYB0, xYB1, xYB2, xYB3, yYB0, yYB1, yYB2, yYB3⟩ := pxf4 YB))
                go_roundg (es.length - (j + 1))
                case measure => have := HJ.out; have := HJT.out; omega
                case rel => exact ⟨_, j + 1, rfl, by have := HJT.out; have := HI.out; have := HLT.out; have := HH.out.1; rw [wrap_id (by omega) (by omega)]; rfl, ⟨by have := HJT.out; omega, rfl, rfl⟩, ⟨pxp XB⟩, ⟨pxb HB⟩⟩
              · obtain rfl : wv = 1 := HJ.out.2.2
                have kq : ((x.f0 == y.f0) && ((x.f1 == y.f1) && ((x.f2 == y.f2) && (x.f3 == y.f3)))) = false := by
                  rw [Bool.eq_false_iff]
                  intro e
                  simp only [Bool.and_eq_true, beq_iff_eq] at e
                  obtain ⟨a, b, c, d⟩ := e
                  exact hxy (s29_ext a b c d)
                clear hxy
                have tok_y : True := trivial
                go_wp2_with (first | ((with_reducible refine gate_dst (N := 12) rfl ?_); refine box_event ?hg (N := 12) ?hd (cs := #[.int .i64 0, .int .i64 0, .int .i64 0, .int .i64 0]) (t := 29) ?hr ?_; (case hd => rfl); (case hg => rfl); (case hr => first | (go_simp; done) | (go_simp; rfl)); intro gy hg w5 hbox hb; have NWYB := Aside0.mk hbox; have GWYB := Aside0.mk ((by rw [hg]; exact (below_size (pxb HB)) : wq.heap.size ≤ gy)); have NEXBYB := Aside0.mk (show gx ≠ gy by rw [hg]; exact Nat.ne_of_lt (blk_lt (pxp (o := .cells #[.int .i64 x.f0, .int .i64 x.f1, .int .i64 x.f2, .int .i64 x.f3] 29 (0, 0)) XB))); have NEYBXB := Aside0.mk (Ne.symm NEXBYB.out); have eXBYB := NEXBYB.out; have eYBXB := NEYBXB.out; clear hg hbox; have n0_ := pxs HB hb; have nXB_ : Aside0 (w5.heap[gx]? = some (.cells #[.int .i64 x.f0, .int .i64 x.f1, .int .i64 x.f2, .int .i64 x.f3] 29 (0, 0))) := ⟨blk_below (pxp XB) hb⟩; clear HB XB; have HB := n0_; clear n0_; have XB := nXB_; clear nXB_; have YB := NWYB; clear NWYB hb; obtain ⟨xXB0, xXB1, xXB2, xXB3, yXB0, yXB1, yXB2, yXB3⟩ := pxf4 XB; obtain ⟨xYB0, xYB1, xYB2, xYB3, yYB0, yYB1, yYB2, yYB3⟩ := pxf4 YB))
                go_roundg (es.length - (j + 1))
                case measure => have := HJ.out; have := HJT.out; omega
                case rel => exact ⟨_, j + 1, rfl, by have := HJT.out; have := HI.out; have := HLT.out; have := HH.out.1; rw [wrap_id (by omega) (by omega)]; rfl, ⟨by have := HJT.out; omega, rfl, rfl⟩, ⟨pxp XB⟩, ⟨pxb HB⟩⟩
            · obtain rfl : es.length = j := by have := HJ.out; omega
              have k7 : decide (es.length < es.length) = false := decide_eq_false (by omega)
              have k8 : decide ((es.length : Int) < (es.length : Int)) = false := decide_eq_false (by omega)
              have tok_3 : True := trivial
              clear hj
              obtain rfl : wv = 1 := HJ.out.2.2
              clear HJ
              go_wp2_with (first | (clear tok_3; go_at_call 12; (with_reducible refine (add_rng x _ (HG.out.below (pxb HB)) HRNG.out).mono ?_); rintro e w7 ⟨rfl, hb⟩; have h1 := pxs HB hb; clear HB hb; have HB := h1; clear h1))
              go_roundg (l.length - (i + 1))
              case measure => have := HI.out; have := HLT.out; omega
              case rel => exact ⟨_, i + 1, es, O1, rfl, by have := HLT.out; have := HH.out.1; rw [wrap_id (by omega) (by omega)]; rfl, ⟨by have := HLT.out; omega, rfl, by have := HI.out; omega⟩, ⟨HG.out.below (pxb HB)⟩, ⟨Kd.R_below HO.out (pxb HB)⟩, ⟨below_step HB0.out (pxb HB)⟩⟩
        · skip
          by_cases r2 : x.f1 < 0
          · have HRNG : Aside0 (x.f0 < -1 ∨ (N : Int) ≤ x.f0 ∨ x.f1 < 0 ∨ (N : Int) ≤ x.f1) := ⟨by omega⟩
            have kr0 : decide (x.f0 < -1) = false := decide_eq_false r0
            have kr1 : decide ((N : Int) ≤ x.f0) = false := decide_eq_false r1
            have kr2 : decide (x.f1 < 0) = true := decide_eq_true r2
            clear r0 r1 r2
            go_wp2_with (first | ((with_reducible refine gate_dst (N := 9) rfl ?_); refine box_event ?hg (N := 9) ?hd (cs := #[.int .i64 0, .int .i64 0, .int .i64 0, .int .i64 0]) (t := 29) ?hr ?_; (case hd => rfl); (case hg => rfl); (case hr => first | (go_simp; done) | (go_simp; rfl)); intro gx hg w3 hbox hb; have NWXB := Aside0.mk hbox; have GWXB := Aside0.mk ((by rw [hg]; exact (below_size (pxb HB)) : wq.heap.size ≤ gx)); clear hg hbox; have n0_ := pxs HB hb; clear HB ; have HB := n0_; clear n0_; have XB := NWXB; clear NWXB hb; obtain ⟨xXB0, xXB1, xXB2, xXB3, yXB0, yXB1, yXB2, yXB3⟩ := pxf4 XB))
            go_loopg [10, 75] es.length (fun kq v10 v75 w' => ∃ (wv : Int) (j : Nat), v10 = .int .i64 wv ∧ v75 = .int .i64 j ∧ Hid (j ≤ es.length ∧ kq = es.length - j ∧ wv = 1) ∧ Aside0 (w'.heap[gx]? = some (.cells #[.int .i64 x.f0, .int .i64 x.f1, .int .i64 x.f2, .int .i64 x.f3] 29 (0, 0))) ∧ Aside0 (Below wq.heap.size wq w'))
            case atStart => exact ⟨_, 0, rfl, rfl, ⟨Nat.zero_le _, rfl, rfl⟩, ⟨pxp XB⟩, ⟨pxb HB⟩⟩
            case round =>
              clear HB XB xXB0 xXB1 xXB2 xXB3 yXB0 yXB1 yXB2 yXB3 he0 he1 he2 he3
              obtain ⟨wv, j, rfl, rfl, HJ, XB, HB⟩ := hrel
              obtain ⟨xXB0, xXB1, xXB2, xXB3, yXB0, yXB1, yXB2, yXB3⟩ := pxf4 XB
              by_cases hj : j < es.length
              · have HO2 := Kd.R_below HO.out HB.out
                obtain ⟨adA, hadA, he0, he1, he2, he3⟩ := at_T29 (Kd.R_reads' HO2).2.2 (j : Int) (by omega) (by omega)
                subst hadA
                rw [show rd_T29 es (j : Int) = es.getD j z29 from rfl, Int.toNat_natCast] at he0 he1 he2 he3
                have htk : es.take (j + 1) = es.take j ++ [es.getD j z29] := by rw [List.take_succ_eq_append_getElem hj, List.getD_eq_getElem?_getD, List.getElem?_eq_getElem hj, Option.getD_some]
                have HTK := Aside0.mk htk
                clear htk HO2
                generalize es.getD j z29 = y at *
                have p5 : (0 ≤ (j : Int)) = True := eq_true (by omega)
                have p6 : ((j : Int) < (es.length : Int)) = True := eq_true (by omega)
                have p6' : (j < es.length) = True := eq_true hj
                have k7 : decide (j < es.length) = true := decide_eq_true hj
                have k8 : decide ((j : Int) < (es.length : Int)) = true := decide_eq_true (by omega)
                have HJT := Lib.hid hj
                clear hj
                by_cases hxy : x = y
                · obtain rfl : wv = 1 := HJ.out.2.2
                  subst hxy
                  have tok_y : True := trivial
                  go_wp2_with (first | ((with_reducible refine gate_dst (N := 12) rfl ?_); refine box_event ?hg (N := 12) ?hd (cs := #[.int .i64 0, .int .i64 0, .int .i64 0, .int .i64 0]) (t := 29) ?hr ?_; (case hd => rfl); (case hg => rfl); (case hr => first | (go_simp; done) | (go_simp; rfl)); intro gy hg w5 hbox hb; have NWYB := Aside0.mk hbox; have GWYB := Aside0.mk ((by rw [hg]; exact (below_size (pxb HB)) : wq.heap.size ≤ gy)); have NEXBYB := Aside0.mk (show gx ≠ gy by rw [hg]; exact Nat.ne_of_lt (blk_lt (pxp (o := .cells #[.int .i64 x.f0, .int .i64 x.f1, .int .i64 x.f2, .int .i64 x.f3] 29 (0, 0)) XB))); have NEYBXB := Aside0.mk (Ne.symm NEXBYB.out); have eXBYB := NEXBYB.out; have eYBXB := NEYBXB.out; clear hg hbox; have n0_ := pxs HB hb; have nXB_ : Aside0 (w5.heap[gx]? = some (.cells #[.int .i64 x.f0, .int .i64 x.f1, .int .i64 x.f2, .int .i64 x.f3] 29 (0, 0))) := ⟨blk_below (pxp XB) hb⟩; clear HB XB; have HB := n0_; clear n0_; have XB := nXB_; clear nXB_; have YB := NWYB; clear NWYB hb; obtain ⟨xXB0, xXB1, xXB2, xXB3, yXB0, yXB1, yXB2, yXB3⟩ := pxf4 XB; obtain ⟨xYB0, xYB1, xYB2, xYB3, yYB0, yYB1, yYB2, yYB3⟩ := pxf4 YB))
                  go_roundg (es.length - (j + 1))
                  case measure => have := HJ.out; have := HJT.out; omega
                  case rel => exact ⟨_, j + 1, rfl, by have := HJT.out; have := HI.out; have := HLT.out; have := HH.out.1; rw [wrap_id (by omega) (by omega)]; rfl, ⟨by have := HJT.out; omega, rfl, rfl⟩, ⟨pxp XB⟩, ⟨pxb HB⟩⟩
                · obtain rfl : wv = 1 := HJ.out.2.2
                  have kq : ((x.f0 == y.f0) && ((x.f1 == y.f1) && ((x.f2 == y.f2) && (x.f3 == y.f3)))) = false := by
                    rw [Bool.eq_false_iff]
                    intro e
                    simp only [Bool.and_eq_true, beq_iff_eq] at e
                    obtain ⟨a, b, c, d⟩ := e
                    exact hxy (s29_ext a b c d)
                  clear hxy
                  have tok_y : True := trivial
                  go_wp2_with (first | ((with_reducible refine gate_dst (N := 12) rfl ?_); refine box_event ?hg (N := 12) ?hd (cs := #[.int .i64 0, .int .i64 0, .int .i64 0, .int .i64 0]) (t := 29) ?hr ?_; (case hd => rfl); (case hg => rfl); (case hr => first | (go_simp; done) | (go_simp; rfl)); intro gy hg w5 hbox hb; have NWYB := Aside0.mk hbox; have GWYB := Aside0.mk ((by rw [hg]; exact (below_size (pxb HB)) : wq.heap.size ≤ gy)); have NEXBYB := Aside0.mk (show gx ≠ gy by rw [hg]; exact Nat.ne_of_lt (blk_lt (pxp (o := .cells #[.int .i64 x.f0, .int .i64 x.f1, .int .i64 x.f2, .int .i64 x.f3] 29 (0, 0)) XB))); have NEYBXB := Aside0.mk (Ne.symm NEXBYB.out); have eXBYB := NEXBYB.out; have eYBXB := NEYBXB.out; clear hg hbox; have n0_ := pxs HB hb; have nXB_ : Aside0 (w5.heap[gx]? = some (.cells #[.int .i64 x.f0, .int .i64 x.f1, .int .i64 x.f2, .int .i64 x.f3] 29 (0, 0))) := ⟨blk_below (pxp XB) hb⟩; clear HB XB; have HB := n0_; clear n0_; have XB := nXB_; clear nXB_; have YB := NWYB; clear NWYB hb; obtain ⟨xXB0, xXB1, xXB2, xXB3, yXB0, yXB1, yXB2, yXB3⟩ := pxf4 XB; obtain ⟨xYB0, xYB1, xYB2, xYB3, yYB0, yYB1, yYB2, yYB3⟩ := pxf4 YB))
                  go_roundg (es.length - (j + 1))
                  case measure => have := HJ.out; have := HJT.out; omega
                  case rel => exact ⟨_, j + 1, rfl, by have := HJT.out; have := HI.out; have := HLT.out; have := HH.out.1; rw [wrap_id (by omega) (by omega)]; rfl, ⟨by have := HJT.out; omega, rfl, rfl⟩, ⟨pxp XB⟩, ⟨pxb HB⟩⟩
              · obtain rfl : es.length = j := by have := HJ.out; omega
                have k7 : decide (es.length < es.length) = false := decide_eq_false (by omega)
                have k8 : decide ((es.length : Int) < (es.length : Int)) = false := decide_eq_false (by omega)
                have tok_3 : True := trivial
                clear hj
                obtain rfl : wv = 1 := HJ.out.2.2
                clear HJ
                go_wp2_with (first | (clear tok_3; go_at_call 12; (with_reducible refine (add_rng x _ (HG.out.below (pxb HB)) HRNG.out).mono ?_); rintro e w7 ⟨rfl, hb⟩; have h1 := pxs HB hb; clear HB hb; have HB := h1; clear h1))
                go_roundg (l.length - (i + 1))
                case measure => have := HI.out; have := HLT.out; omega
                case rel => exact ⟨_, i + 1, es, O1, rfl, by have := HLT.out; have := HH.out.1; rw [wrap_id (by omega) (by omega)]; rfl, ⟨by have := HLT.out; omega, rfl, by have := HI.out; omega⟩, ⟨HG.out.below (pxb HB)⟩, ⟨Kd.R_below HO.out (pxb HB)⟩, ⟨below_step HB0.out (pxb HB)⟩⟩
          · skip
            by_cases r3 : (N : Int) ≤ x.f1
            · have HRNG : Aside0 (x.f0 < -1 ∨ (N : Int) ≤ x.f0 ∨ x.f1 < 0 ∨ (N : Int) ≤ x.f1) := ⟨by omega⟩
              have kr0 : decide (x.f0 < -1) = false := decide_eq_false r0
              have kr1 : decide ((N : Int) ≤ x.f0) = false := decide_eq_false r1
              have kr2 : decide (x.f1 < 0) = false := decide_eq_false r2
              have kr3 : decide ((N : Int) ≤ x.f1) = true := decide_eq_true r3
              clear r0 r1 r2 r3
              go_wp2_with (first | ((with_reducible refine gate_dst (N := 9) rfl ?_); refine box_event ?hg (N := 9) ?hd (cs := #[.int .i64 0, .int .i64 0, .int .i64 0, .int .i64 0]) (t := 29) ?hr ?_; (case hd => rfl); (case hg => rfl); (case hr => first | (go_simp; done) | (go_simp; rfl)); intro gx hg w3 hbox hb; have NWXB := Aside0.mk hbox; have GWXB := Aside0.mk ((by rw [hg]; exact (below_size (pxb HB)) : wq.heap.size ≤ gx)); clear hg hbox; have n0_ := pxs HB hb; clear HB ; have HB := n0_; clear n0_; have XB := NWXB; clear NWXB hb; obtain ⟨xXB0, xXB1, xXB2, xXB3, yXB0, yXB1, yXB2, yXB3⟩ := pxf4 XB))
              go_loopg [10, 75] es.length (fun kq v10 v75 w' => ∃ (wv : Int) (j : Nat), v10 = .int .i64 wv ∧ v75 = .int .i64 j ∧ Hid (j ≤ es.length ∧ kq = es.length - j ∧ wv = 1) ∧ Aside0 (w'.heap[gx]? = some (.cells #[.int .i64 x.f0, .int .i64 x.f1, .int .i64 x.f2, .int .i64 x.f3] 29 (0, 0))) ∧ Aside0 (Below wq.heap.size wq w'))
              case atStart => exact ⟨_, 0, rfl, rfl, ⟨Nat.zero_le _, rfl, rfl⟩, ⟨pxp XB⟩, ⟨pxb HB⟩⟩
              case round =>
                clear HB XB xXB0 xXB1 xXB2 xXB3 yXB0 yXB1 yXB2 yXB3 he0 he1 he2 he3
                obtain ⟨wv, j, rfl, rfl, HJ, XB, HB⟩ := hrel
                obtain ⟨xXB0, xXB1, xXB2, xXB3, yXB0, yXB1, yXB2, yXB3⟩ := pxf4 XB
                by_cases hj : j < es.length
                · have HO2 := Kd.R_below HO.out HB.out
                  obtain ⟨adA, hadA, he0, he1, he2, he3⟩ := at_T29 (Kd.R_reads' HO2).2.2 (j : Int) (by omega) (by omega)
                  subst hadA
                  rw [show rd_T29 es (j : Int) = es.getD j z29 from rfl, Int.toNat_natCast] at he0 he1 he2 he3
                  have htk : es.take (j + 1) = es.take j ++ [es.getD j z29] := by rw [List.take_succ_eq_append_getElem hj, List.getD_eq_getElem?_getD, List.getElem?_eq_getElem hj, Option.getD_some]
                  have HTK := Aside0.mk htk
                  clear htk HO2
                  generalize es.getD j z29 = y at *
                  have p5 : (0 ≤ (j : Int)) = True := eq_true (by omega)
                  have p6 : ((j : Int) < (es.length : Int)) = True := eq_true (by omega)
                  have p6' : (j < es.length) = True := eq_true hj
                  have k7 : decide (j < es.length) = true := decide_eq_true hj
                  have k8 : decide ((j : Int) < (es.length : Int)) = true := decide_eq_true (by omega)
                  have HJT := Lib.hid hj
                  clear hj
                  by_cases hxy : x = y
                  · obtain rfl : wv = 1 := HJ.out.2.2
                    subst hxy
                    have tok_y : True := trivial
                    go_wp2_with (first | ((with_reducible refine gate_dst (N := 12) rfl ?_); refine box_event ?hg (N := 12) ?hd (cs := #[.int .i64 0, .int .i64 0, .int .i64 0, .int .i64 0]) (t := 29) ?hr ?_; (case hd => rfl); (case hg => rfl); (case hr => first | (go_simp; done) | (go_simp; rfl)); intro gy hg w5 hbox hb; have NWYB := Aside0.mk hbox; have GWYB := Aside0.mk ((by rw [hg]; exact (below_size (pxb HB)) : wq.heap.size ≤ gy)); have NEXBYB := Aside0.mk (show gx ≠ gy by rw [hg]; exact Nat.ne_of_lt (blk_lt (pxp (o := .cells #[.int .i64 x.f0, .int .i64 x.f1, .int .i64 x.f2, .int .i64 x.f3] 29 (0, 0)) XB))); have NEYBXB := Aside0.mk (Ne.symm NEXBYB.out); have eXBYB := NEXBYB.out; have eYBXB := NEYBXB.out; clear hg hbox; have n0_ := pxs HB hb; have nXB_ : Aside0 (w5.heap[gx]? = some (.cells #[.int .i64 x.f0, .int .i64 x.f1, .int .i64 x.f2, .int .i64 x.f3] 29 (0, 0))) := ⟨blk_below (pxp XB) hb⟩; clear HB XB; have HB := n0_; clear n0_; have XB := nXB_; clear nXB_; have YB := NWYB; clear NWYB hb; obtain ⟨xXB0, xXB1, xXB2, xXB3, yXB0, yXB1, yXB2, yXB3⟩ := pxf4 XB; obtain ⟨xYB0, xYB1, xYB2, xYB3, yYB0, yYB1, yYB2, yYB3⟩ := pxf4 YB))
                    go_roundg (es.length - (j + 1))
                    case measure => have := HJ.out; have := HJT.out; omega
                    case rel => exact ⟨_, j + 1, rfl, by have := HJT.out; have := HI.out; have := HLT.out; have := HH.out.1; rw [wrap_id (by omega) (by omega)]; rfl, ⟨by have := HJT.out; omega, rfl, rfl⟩, ⟨pxp XB⟩, ⟨pxb HB⟩⟩
                  · obtain rfl : wv = 1 := HJ.out.2.2
                    have kq : ((x.f0 == y.f0) && ((x.f1 == y.f1) && ((x.f2 == y.f2) && (x.f3 == y.f3)))) = false := by
                      rw [Bool.eq_false_iff]
                      intro e
                      simp only [Bool.and_eq_true, beq_iff_eq] at e
                      obtain ⟨a, b, c, d⟩ := e
                      exact hxy (s29_ext a b c d)
                    clear hxy
                    have tok_y : True := trivial
                    go_wp2_with (first | ((with_reducible refine gate_dst (N := 12) rfl ?_); refine box_event ?hg (N := 12) ?hd (cs := #[.int .i64 0, .int .i64 0, .int .i64 0, .int .i64 0]) (t := 29) ?hr ?_; (case hd => rfl); (case hg => rfl); (case hr => first | (go_simp; done) | (go_simp; rfl)); intro gy hg w5 hbox hb; have NWYB := Aside0.mk hbox; have GWYB := Aside0.mk ((by rw [hg]; exact (below_size (pxb HB)) : wq.heap.size ≤ gy)); have NEXBYB := Aside0.mk (show gx ≠ gy by rw [hg]; exact Nat.ne_of_lt (blk_lt (pxp (o := .cells #[.int .i64 x.f0, .int .i64 x.f1, .int .i64 x.f2, .int .i64 x.f3] 29 (0, 0)) XB))); have NEYBXB := Aside0.mk (Ne.symm NEXBYB.out); have eXBYB := NEXBYB.out; have eYBXB := NEYBXB.out; clear hg hbox; have n0_ := pxs HB hb; have nXB_ : Aside0 (w5.heap[gx]? = some (.cells #[.int .i64 x.f0, .int .i64 x.f1, .int .i64 x.f2, .int .i64 x.f3] 29 (0, 0))) := ⟨blk_below (pxp XB) hb⟩; clear HB XB; have HB := n0_; clear n0_; have XB := nXB_; clear nXB_; have YB := NWYB; clear NWYB hb; obtain ⟨xXB0, xXB1, xXB2, xXB3, yXB0, yXB1, yXB2, yXB3⟩ := pxf4 XB; obtain ⟨xYB0, xYB1, xYB2, xYB3, yYB0, yYB1, yYB2, yYB3⟩ := pxf4 YB))
                    go_roundg (es.length - (j + 1))
                    case measure => have := HJ.out; have := HJT.out; omega
                    case rel => exact ⟨_, j + 1, rfl, by have := HJT.out; have := HI.out; have := HLT.out; have := HH.out.1; rw [wrap_id (by omega) (by omega)]; rfl, ⟨by have := HJT.out; omega, rfl, rfl⟩, ⟨pxp XB⟩, ⟨pxb HB⟩⟩
                · obtain rfl : es.length = j := by have := HJ.out; omega
                  have k7 : decide (es.length < es.length) = false := decide_eq_false (by omega)
                  have k8 : decide ((es.length : Int) < (es.length : Int)) = false := decide_eq_false (by omega)
                  have tok_3 : True := trivial
                  clear hj
                  obtain rfl : wv = 1 := HJ.out.2.2
                  clear HJ
                  go_wp2_with (first | (clear tok_3; go_at_call 12; (with_reducible refine (add_rng x _ (HG.out.below (pxb HB)) HRNG.out).mono ?_); rintro e w7 ⟨rfl, hb⟩; have h1 := pxs HB hb; clear HB hb; have HB := h1; clear h1))
                  go_roundg (l.length - (i + 1))
                  case measure => have := HI.out; have := HLT.out; omega
                  case rel => exact ⟨_, i + 1, es, O1, rfl, by have := HLT.out; have := HH.out.1; rw [wrap_id (by omega) (by omega)]; rfl, ⟨by have := HLT.out; omega, rfl, by have := HI.out; omega⟩, ⟨HG.out.below (pxb HB)⟩, ⟨Kd.R_below HO.out (pxb HB)⟩, ⟨below_step HB0.out (pxb HB)⟩⟩
            · skip
              have HRNG : Aside0 (-1 ≤ x.f0 ∧ x.f0 < (N : Int) ∧ 0 ≤ x.f1 ∧ x.f1 < (N : Int)) := ⟨by omega⟩
              have kr0 : decide (x.f0 < -1) = false := decide_eq_false r0
              have kr1 : decide ((N : Int) ≤ x.f0) = false := decide_eq_false r1
              have kr2 : decide (x.f1 < 0) = false := decide_eq_false r2
              have kr3 : decide ((N : Int) ≤ x.f1) = false := decide_eq_false r3
              clear r0 r1 r2 r3
              go_wp2_with (first | ((with_reducible refine gate_dst (N := 9) rfl ?_); refine box_event ?hg (N := 9) ?hd (cs := #[.int .i64 0, .int .i64 0, .int .i64 0, .int .i64 0]) (t := 29) ?hr ?_; (case hd => rfl); (case hg => rfl); (case hr => first | (go_simp; done) | (go_simp; rfl)); intro gx hg w3 hbox hb; have NWXB := Aside0.mk hbox; have GWXB := Aside0.mk ((by rw [hg]; exact (below_size (pxb HB)) : wq.heap.size ≤ gx)); clear hg hbox; have n0_ := pxs HB hb; clear HB ; have HB := n0_; clear n0_; have XB := NWXB; clear NWXB hb; obtain ⟨xXB0, xXB1, xXB2, xXB3, yXB0, yXB1, yXB2, yXB3⟩ := pxf4 XB))
              go_loopg [10, 75] es.length (fun kq v10 v75 w' => ∃ (wv : Int) (j : Nat), v10 = .int .i64 wv ∧ v75 = .int .i64 j ∧ Hid (j ≤ es.length ∧ kq = es.length - j ∧ ((wv = 4 ∧ x ∈ es.take j) ∨ (wv = 0 ∧ ¬ x ∈ es.take j))) ∧ Aside0 (w'.heap[gx]? = some (.cells #[.int .i64 x.f0, .int .i64 x.f1, .int .i64 x.f2, .int .i64 x.f3] 29 (0, 0))) ∧ Aside0 (Below wq.heap.size wq w'))
              case atStart => exact ⟨_, 0, rfl, rfl, ⟨Nat.zero_le _, rfl, .inr ⟨rfl, by simp⟩⟩, ⟨pxp XB⟩, ⟨pxb HB⟩⟩
              case round =>
                clear HB XB xXB0 xXB1 xXB2 xXB3 yXB0 yXB1 yXB2 yXB3 he0 he1 he2 he3
                obtain ⟨wv, j, rfl, rfl, HJ, XB, HB⟩ := hrel
                obtain ⟨xXB0, xXB1, xXB2, xXB3, yXB0, yXB1, yXB2, yXB3⟩ := pxf4 XB
                by_cases hj : j < es.length
                · have HO2 := Kd.R_below HO.out HB.out
                  obtain ⟨adA, hadA, he0, he1, he2, he3⟩ := at_T29 (Kd.R_reads' HO2).2.2 (j : Int) (by omega) (by omega)
                  subst hadA
                  rw [show rd_T29 es (j : Int) = es.getD j z29 from rfl, Int.toNat_natCast] at he0 he1 he2 he3
                  have htk : es.take (j + 1) = es.take j ++ [es.getD j z29] := by rw [List.take_succ_eq_append_getElem hj, List.getD_eq_getElem?_getD, List.getElem?_eq_getElem hj, Option.getD_some]
                  have HTK := Aside0.mk htk
                  clear htk HO2
                  generalize es.getD j z29 = y at *
                  have p5 : (0 ≤ (j : Int)) = True := eq_true (by omega)
                  have p6 : ((j : Int) < (es.length : Int)) = True := eq_true (by omega)
                  have p6' : (j < es.length) = True := eq_true hj
                  have k7 : decide (j < es.length) = true := decide_eq_true hj
                  have k8 : decide ((j : Int) < (es.length : Int)) = true := decide_eq_true (by omega)
                  have HJT := Lib.hid hj
                  clear hj
                  by_cases hxy : x = y
                  · subst hxy
                    rcases HJ.out.2.2 with ⟨rfl, hm⟩ | ⟨rfl, hm⟩
                    · clear hm
                      have tok_y : True := trivial
                      go_wp2_with (first | ((with_reducible refine gate_dst (N := 12) rfl ?_); refine box_event ?hg (N := 12) ?hd (cs := #[.int .i64 0, .int .i64 0, .int .i64 0, .int .i64 0]) (t := 29) ?hr ?_; (case hd => rfl); (case hg => rfl); (case hr => first | (go_simp; done) | (go_simp; rfl)); intro gy hg w5 hbox hb; have NWYB := Aside0.mk hbox; have GWYB := Aside0.mk ((by rw [hg]; exact (below_size (pxb HB)) : wq.heap.size ≤ gy)); have NEXBYB := Aside0.mk (show gx ≠ gy by rw [hg]; exact Nat.ne_of_lt (blk_lt (pxp (o := .cells #[.int .i64 x.f0, .int .i64 x.f1, .int .i64 x.f2, .int .i64 x.f3] 29 (0, 0)) XB))); have NEYBXB := Aside0.mk (Ne.symm NEXBYB.out); have eXBYB := NEXBYB.out; have eYBXB := NEYBXB.out; clear hg hbox; have n0_ := pxs HB hb; have nXB_ : Aside0 (w5.heap[gx]? = some (.cells #[.int .i64 x.f0, .int .i64 x.f1, .int .i64 x.f2, .int .i64 x.f3] 29 (0, 0))) := ⟨blk_below (pxp XB) hb⟩; clear HB XB; have HB := n0_; clear n0_; have XB := nXB_; clear nXB_; have YB := NWYB; clear NWYB hb; obtain ⟨xXB0, xXB1, xXB2, xXB3, yXB0, yXB1, yXB2, yXB3⟩ := pxf4 XB; obtain ⟨xYB0, xYB1, xYB2, xYB3, yYB0, yYB1, yYB2, yYB3⟩ := pxf4 YB))
                      go_roundg (es.length - (j + 1))
                      case measure => have := HJ.out; have := HJT.out; omega
                      case rel => exact ⟨_, j + 1, rfl, by have := HJT.out; have := HI.out; have := HLT.out; have := HH.out.1; rw [wrap_id (by omega) (by omega)]; rfl, ⟨by have := HJT.out; omega, rfl, .inl ⟨rfl, by rw [HTK.out]; exact List.mem_append_right _ (List.mem_singleton.2 rfl)⟩⟩, ⟨pxp XB⟩, ⟨pxb HB⟩⟩
                    · clear hm
                      have tok_y : True := trivial
                      go_wp2_with (first | ((with_reducible refine gate_dst (N := 12) rfl ?_); refine box_event ?hg (N := 12) ?hd (cs := #[.int .i64 0, .int .i64 0, .int .i64 0, .int .i64 0]) (t := 29) ?hr ?_; (case hd => rfl); (case hg => rfl); (case hr => first | (go_simp; done) | (go_simp; rfl)); intro gy hg w5 hbox hb; have NWYB := Aside0.mk hbox; have GWYB := Aside0.mk ((by rw [hg]; exact (below_size (pxb HB)) : wq.heap.size ≤ gy)); have NEXBYB := Aside0.mk (show gx ≠ gy by rw [hg]; exact Nat.ne_of_lt (blk_lt (pxp (o := .cells #[.int .i64 x.f0, .int .i64 x.f1, .int .i64 x.f2, .int .i64 x.f3] 29 (0, 0)) XB))); have NEYBXB := Aside0.mk (Ne.symm NEXBYB.out); have eXBYB := NEXBYB.out; have eYBXB := NEYBXB.out; clear hg hbox; have n0_ := pxs HB hb; have nXB_ : Aside0 (w5.heap[gx]? = some (.cells #[.int .i64 x.f0, .int .i64 x.f1, .int .i64 x.f2, .int .i64 x.f3] 29 (0, 0))) := ⟨blk_below (pxp XB) hb⟩; clear HB XB; have HB := n0_; clear n0_; have XB := nXB_; clear nXB_; have YB := NWYB; clear NWYB hb; obtain ⟨xXB0, xXB1, xXB2, xXB3, yXB0, yXB1, yXB2, yXB3⟩ := pxf4 XB; obtain ⟨xYB0, xYB1, xYB2, xYB3, yYB0, yYB1, yYB2, yYB3⟩ := pxf4 YB))
                      go_roundg (es.length - (j + 1))
                      case measure => have := HJ.out; have := HJT.out; omega
                      case rel => exact ⟨_, j + 1, rfl, by have := HJT.out; have := HI.out; have := HLT.out; have := HH.out.1; rw [wrap_id (by omega) (by omega)]; rfl, ⟨by have := HJT.out; omega, rfl, .inl ⟨rfl, by rw [HTK.out]; exact List.mem_append_right _ (List.mem_singleton.2 rfl)⟩⟩, ⟨pxp XB⟩, ⟨pxb HB⟩⟩
                  · have HXY := Aside0.mk hxy
                    have kq : ((x.f0 == y.f0) && ((x.f1 == y.f1) && ((x.f2 == y.f2) && (x.f3 == y.f3)))) = false := by
                      rw [Bool.eq_false_iff]
                      intro e
                      simp only [Bool.and_eq_true, beq_iff_eq] at e
                      obtain ⟨a, b, c, d⟩ := e
                      exact hxy (s29_ext a b c d)
                    clear hxy
                    rcases HJ.out.2.2 with ⟨rfl, hm⟩ | ⟨rfl, hm⟩
                    · have HM := Aside0.mk hm
                      clear hm
                      have tok_y : True := trivial
                      go_wp2_with (first | ((with_reducible refine gate_dst (N := 12) rfl ?_); refine box_event ?hg (N := 12) ?hd (cs := #[.int .i64 0, .int .i64 0, .int .i64 0, .int .i64 0]) (t := 29) ?hr ?_; (case hd => rfl); (case hg => rfl); (case hr => first | (go_simp; done) | (go_simp; rfl)); intro gy hg w5 hbox hb; have NWYB := Aside0.mk hbox; have GWYB := Aside0.mk ((by rw [hg]; exact (below_size (pxb HB)) : wq.heap.size ≤ gy)); have NEXBYB := Aside0.mk (show gx ≠ gy by rw [hg]; exact Nat.ne_of_lt (blk_lt (pxp (o := .cells #[.int .i64 x.f0, .int .i64 x.f1, .int .i64 x.f2, .int .i64 x.f3] 29 (0, 0)) XB))); have NEYBXB := Aside0.mk (Ne.symm NEXBYB.out); have eXBYB := NEXBYB.out; have eYBXB := NEYBXB.out; clear hg hbox; have n0_ := pxs HB hb; have nXB_ : Aside0 (w5.heap[gx]? = some (.cells #[.int .i64 x.f0, .int .i64 x.f1, .int .i64 x.f2, .int .i64 x.f3] 29 (0, 0))) := ⟨blk_below (pxp XB) hb⟩; clear HB XB; have HB := n0_; clear n0_; have XB := nXB_; clear nXB_; have YB := NWYB; clear NWYB hb; obtain ⟨xXB0, xXB1, xXB2, xXB3, yXB0, yXB1, yXB2, yXB3⟩ := pxf4 XB; obtain ⟨xYB0, xYB1, xYB2, xYB3, yYB0, yYB1, yYB2, yYB3⟩ := pxf4 YB))
                      go_roundg (es.length - (j + 1))
                      case measure => have := HJ.out; have := HJT.out; omega
                      case rel => exact ⟨_, j + 1, rfl, by have := HJT.out; have := HI.out; have := HLT.out; have := HH.out.1; rw [wrap_id (by omega) (by omega)]; rfl, ⟨by have := HJT.out; omega, rfl, .inl ⟨rfl, by rw [HTK.out]; exact List.mem_append_left _ HM.out⟩⟩, ⟨pxp XB⟩, ⟨pxb HB⟩⟩
                    · have HM := Aside0.mk hm
                      clear hm
                      have tok_y : True := trivial
                      go_wp2_with (first | ((with_reducible refine gate_dst (N := 12) rfl ?_); refine box_event ?hg (N := 12) ?hd (cs := #[.int .i64 0, .int .i64 0, .int .i64 0, .int .i64 0]) (t := 29) ?hr ?_; (case hd => rfl); (case hg => rfl); (case hr => first | (go_simp; done) | (go_simp; rfl)); intro gy hg w5 hbox hb; have NWYB := Aside0.mk hbox; have GWYB := Aside0.mk ((by rw [hg]; exact (below_size (pxb HB)) : wq.heap.size ≤ gy)); have NEXBYB := Aside0.mk (show gx ≠ gy by rw [hg]; exact Nat.ne_of_lt (blk_lt (pxp (o := .cells #[.int .i64 x.f0, .int .i64 x.f1, .int .i64 x.f2, .int .i64 x.f3] 29 (0, 0)) XB))); have NEYBXB := Aside0.mk (Ne.symm NEXBYB.out); have eXBYB := NEXBYB.out; have eYBXB := NEYBXB.out; clear hg hbox; have n0_ := pxs HB hb; have nXB_ : Aside0 (w5.heap[gx]? = some (.cells #[.int .i64 x.f0, .int .i64 x.f1, .int .i64 x.f2, .int .i64 x.f3] 29 (0, 0))) := ⟨blk_below (pxp XB) hb⟩; clear HB XB; have HB := n0_; clear n0_; have XB := nXB_; clear nXB_; have YB := NWYB; clear NWYB hb; obtain ⟨xXB0, xXB1, xXB2, xXB3, yXB0, yXB1, yXB2, yXB3⟩ := pxf4 XB; obtain ⟨xYB0, xYB1, xYB2, xYB3, yYB0, yYB1, yYB2, yYB3⟩ := pxf4 YB))
                      go_roundg (es.length - (j + 1))
                      case measure => have := HJ.out; have := HJT.out; omega
                      case rel => exact ⟨_, j + 1, rfl, by have := HJT.out; have := HI.out; have := HLT.out; have := HH.out.1; rw [wrap_id (by omega) (by omega)]; rfl, ⟨by have := HJT.out; omega, rfl, .inr ⟨rfl, by rw [HTK.out]; intro h; rcases List.mem_append.1 h with h | h; exact HM.out h; exact HXY.out (List.mem_singleton.1 h)⟩⟩, ⟨pxp XB⟩, ⟨pxb HB⟩⟩
                · obtain rfl : es.length = j := by have := HJ.out; omega
                  have k7 : decide (es.length < es.length) = false := decide_eq_false (by omega)
                  have k8 : decide ((es.length : Int) < (es.length : Int)) = false := decide_eq_false (by omega)
                  have tok_3 : True := trivial
                  clear hj
                  rw [List.take_length] at HJ
                  rcases HJ.out.2.2 with ⟨rfl, hm⟩ | ⟨rfl, hm⟩
                  · have HM := Aside0.mk hm
                    clear hm HJ
                    go_wp2_with (first | (clear tok_3; go_at_call 12; (with_reducible refine (add_twice x _ (HG.out.below (pxb HB)) HRNG.out.1 HRNG.out.2.1 HRNG.out.2.2.1 HRNG.out.2.2.2 HM.out).mono ?_); rintro e w7 ⟨rfl, hb⟩; have h1 := pxs HB hb; clear HB hb; have HB := h1; clear h1))
                    go_roundg (l.length - (i + 1))
                    case measure => have := HI.out; have := HLT.out; omega
                    case rel => exact ⟨_, i + 1, es, O1, rfl, by have := HLT.out; have := HH.out.1; rw [wrap_id (by omega) (by omega)]; rfl, ⟨by have := HLT.out; omega, rfl, by have := HI.out; omega⟩, ⟨HG.out.below (pxb HB)⟩, ⟨Kd.R_below HO.out (pxb HB)⟩, ⟨below_step HB0.out (pxb HB)⟩⟩
                  · have HM := Aside0.mk hm
                    clear hm HJ
                    go_wp2_with (first | (clear tok_3; go_at_call 12; (with_reducible refine (add_ok x _ (HG.out.below (pxb HB)) HRNG.out.1 HRNG.out.2.1 HRNG.out.2.2.1 HRNG.out.2.2.2 HM.out (by have := HI.out.2.2; have := HI.out.1; have := HH.out.1; omega) (below_step HB0.out (pxb HB)).size).mono ?_); rintro e w7 ⟨rfl, O7, hg, hgr, hO'⟩; have hbq := pxb HB; have hG7 := Aside0.mk hg; have hxb := (hgr.block gx (blk_lt XB.out) (fun ho => by have := (HG.out.own_lt ho).2; have := GWXB.out; omega)).trans XB.out; have ho7 := Aside0.mk (Kd.R_mono (Kd.R_move (Kd.R_bound (Kd.R_below HO.out hbq)) (fun k' hk' => hgr.block k' hk'.2.2.1 hk'.1)) (fun k' hk' ho' => (hO' k' ho').elim hk'.1 (fun h => by have := hk'.2.2.1; omega))); have hB7 := Aside0.mk (Below.trans (below_step HB0.out hbq) hgr.below); clear XB xXB0 xXB1 xXB2 xXB3 yXB0 yXB1 yXB2 yXB3; have XB := Aside0.mk hxb; obtain ⟨xXB0, xXB1, xXB2, xXB3, yXB0, yXB1, yXB2, yXB3⟩ := pxf4 XB; clear hbq hg hgr hO' hxb HB) | ((with_reducible refine gate_builtin (b := .append) (xs := #[.tmp 94, .tmp 96]) rfl ?_); at_builtin; refine Kd.R_append k29 (w0 := w) w.heap.size rfl (.tmp 94) (.tmp 96) 22 29 (.agg #[.int .i64 0, .int .i64 0, .int .i64 0, .int .i64 0]) 32 rfl Try.underlying22 info29 rfl (by decide) (by omega) (.slice Aa es.length ca) es x [.int .i64 x.f0, .int .i64 x.f1, .int .i64 x.f2, .int .i64 x.f3] (fun k => ¬ O7 k) (fun _ => False) rfl (by first | (go_simp; done) | (go_simp; rfl)) ?aP (fun _ hk => hk.elim) ?aF ?aO ?aB ?aS ?aL ?_; (case aP => exact k29_mkM _ _ _ _); (case aF => exact fun k' hk' ho' => by have := (hG7.out.own_lt ho').2; omega); (case aO => exact ho7.out); (case aB => exact hB7.out); (case aS => exact hB7.out.size); (case aL => have := HI.out.2.2; have := HI.out.1; have := HH.out.1; omega); intro v1 w8 ho hb hg hat; have hG8 := Aside0.mk (hG7.out.step (fun k' hk' => hg.block k' (hG7.out.own_lt hk').2 (fun e => ho7.out.1 k' e.symm hk'))); have hO8 := Aside0.mk ho; have hB8 := Aside0.mk hb; clear hG7 ho7 hB7 ho hb hg hat))
                    go_roundg (l.length - (i + 1))
                    case measure => have := HI.out; have := HLT.out; omega
                    case rel => exact ⟨_, i + 1, es ++ [x], O7, rfl, by have := HLT.out; have := HH.out.1; rw [wrap_id (by omega) (by omega)]; rfl, ⟨by have := HLT.out; omega, rfl, by rw [List.length_append, List.length_singleton]; have := HI.out; omega⟩, G.at0 hG8, ⟨pxr hO8⟩, ⟨pxb hB8⟩⟩
    · obtain rfl : l.length = i := by have := HI.out; omega
      obtain ⟨Aa, ca, hav⟩ := Kd.R_slice HO.out
      subst hav
      have k5 : decide (l.length < l.length) = false := decide_eq_false (by omega)
      have k6 : decide ((l.length : Int) < (l.length : Int)) = false := decide_eq_false (by omega)
      have hesl : es.length ≤ 150 := by have := HI.out; have := HH.out.1; omega
      have HES := Lib.hid hesl
      clear hi hesl HI
      have tok_3 : True := trivial
      have tok_4 : True := trivial
      go_wp2_with (first | (clear tok_3; go_at_call 13; (with_reducible refine (edges_any _ HG.out).mono ?_); rintro e w8 ⟨ev, rfl, hr, hb⟩; obtain ⟨Ag, cg, hev⟩ := Kd.R_slice hr; subst hev; have HGOT := Aside0.mk hr; have HAL := Aside0.mk (Kd.R_below HO.out hb); have HG8 := Aside0.mk (HG.out.below hb); have h1 := pxs HB hb; clear HB HG HO hb hr; have HB := h1; clear h1) | (clear tok_4; go_at_call 14; (with_reducible refine (len_any _ HG8.out).mono ?_); rintro e w9 ⟨rfl, rfl⟩))
      go_loopg [114] es.length (fun kq v114 w' => ∃ j : Nat, v114 = .int .i64 j ∧ Hid (j ≤ es.length ∧ kq = es.length - j) ∧ Aside0 (Below w8.heap.size w8 w'))
      case atStart => exact ⟨0, rfl, ⟨Nat.zero_le _, rfl⟩, ⟨Below.refl _ _⟩⟩
      case round =>
        obtain ⟨j, rfl, HJ, HBJ⟩ := hrel
        by_cases hj : j < es.length
        · obtain ⟨adG, hG, g0, g1, g2, g3⟩ := at_T29 (Kd.R_reads' HGOT.out).2.2 (j : Int) (by omega) (by omega)
          subst hG
          obtain ⟨adA, hA, a0, a1, a2, a3⟩ := at_T29 (Kd.R_reads' HAL.out).2.2 (j : Int) (by omega) (by omega)
          subst hA
          replace g0 := (HBJ.out.cell (World.block_lt_of_cell? w8 _ g0)).trans g0
          replace g1 := (HBJ.out.cell (World.block_lt_of_cell? w8 _ g1)).trans g1
          replace g2 := (HBJ.out.cell (World.block_lt_of_cell? w8 _ g2)).trans g2
          replace g3 := (HBJ.out.cell (World.block_lt_of_cell? w8 _ g3)).trans g3
          replace a0 := (HBJ.out.cell (World.block_lt_of_cell? w8 _ a0)).trans a0
          replace a1 := (HBJ.out.cell (World.block_lt_of_cell? w8 _ a1)).trans a1
          replace a2 := (HBJ.out.cell (World.block_lt_of_cell? w8 _ a2)).trans a2
          replace a3 := (HBJ.out.cell (World.block_lt_of_cell? w8 _ a3)).trans a3
          rw [show rd_T29 es (j : Int) = es.getD j z29 from rfl, Int.toNat_natCast] at g0 g1 g2 g3 a0 a1 a2 a3
          generalize es.getD j z29 = y at *
          have p5 : (0 ≤ (j : Int)) = True := eq_true (by omega)
          have p6 : ((j : Int) < (es.length : Int)) = True := eq_true (by omega)
          have p6' : (j < es.length) = True := eq_true hj
          have k7 : decide (j < es.length) = true := decide_eq_true hj
          have k8 : decide ((j : Int) < (es.length : Int)) = true := decide_eq_true (by omega)
          have HJT := Lib.hid hj
          clear hj
          go_wp2
          go_quiet (fail)
          go_wp2
          go_roundg (es.length - (j + 1))
          case measure => have := HJ.out; have := HJT.out; omega
          case rel => exact ⟨j + 1, by have := HJT.out; have := HES.out; rw [wrap_id (by omega) (by omega)]; rfl, ⟨by have := HJT.out; omega, rfl⟩, ⟨pxb HBJ⟩⟩
        · obtain rfl : es.length = j := by have := HJ.out; omega
          have k7 : decide (es.length < es.length) = false := decide_eq_false (by omega)
          have k8 : decide ((es.length : Int) < (es.length : Int)) = false := decide_eq_false (by omega)
          go_wp2
          go_ret
          exact ⟨rfl, below_step HB.out HBJ.out⟩

end Go.Proofs.Ytefgfnhhoidbdaa.GrW
