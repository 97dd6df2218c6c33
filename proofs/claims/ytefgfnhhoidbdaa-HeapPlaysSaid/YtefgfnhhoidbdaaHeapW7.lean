/- An array more: Array. -/
import Derived.Test.YtefgfnhhoidbdaaHeapW6
namespace Go.Proofs.Ytefgfnhhoidbdaa.HpW
open Go.RowKit Go.Proofs.YtefgfnhhoidbdaaW.PrintWords Go.Proofs.YtefgfnhhoidbdaaW.PrintLast Go.Proofs.Ytefgfnhhoidbdaa.H
set_option linter.unusedVariables false
set_option linter.unusedSimpArgs false
set_option maxHeartbeats 16000000 in
set_option maxRecDepth 100000 in
theorem array_neg {g B : Nat} {O : Nat → Prop} {lv : Value} {cs : List S105} {n : Int} (t : S59) (q : Int) (w : World) (h : HP g B O lv cs n w) (hm : t.f3.size ≤ 1000000000) (hn : -1000000 ≤ n ∧ n ≤ 1000000) (hl : cs.length < 5000) (hq : q < 0) :
    Calls Try.prog 28 #[.pointer (some ⟨g, 0, none⟩), .agg #[.int .i64 t.f0, .string t.f1, .int .i64 t.f2, .string t.f3], .int .i64 q] w fun e w' => e = .returned (.tuple #[.agg #[.int .i64 0, .int .i64 0, .string ⟨#[]⟩], .int .i64 1]) ∧ Below w.heap.size w w' := by
  have HB := Aside0.mk (Below.refl w.heap.size w)
  have HH := Aside0.mk h
  have HM := Aside0.mk hm
  have HN := Lib.hid hn
  have HL := Lib.hid hl
  clear h hm hn hl
  have k1 : decide (q < 0) = true := decide_eq_true hq
  go_enter Try.func28, Try.ntmps28
  go_wp2_with (first | ((with_reducible refine gate_dst (N := 4) rfl ?_); refine box_event ?hg (N := 4) ?hd (cs := #[.int .i64 t.f0, .string t.f1, .int .i64 t.f2, .string t.f3]) (t := 59) ?hr ?_; (case hd => rfl); (case hg => rfl); (case hr => first | (go_simp; done) | (go_simp; rfl)); intro gt hg w1 hbox hb; have NWTB := Aside0.mk hbox; have GWTB := Aside0.mk ((by rw [hg]; exact (below_size (pxb HB)) : w.heap.size ≤ gt)); clear hg hbox; have n0_ := pxs HB hb; clear HB ; have HB := n0_; clear n0_; have TB := NWTB; clear NWTB hb; obtain ⟨xTB0, xTB1, xTB2, xTB3, yTB0, yTB1, yTB2, yTB3⟩ := pxf4 TB) | ((with_reducible refine gate_dst (N := 6) rfl ?_); refine box_event ?hg (N := 6) ?hd (cs := #[.int .i64 0, .int .i64 0, .string ⟨#[]⟩]) (t := 61) ?hr ?_; (case hd => rfl); (case hg => rfl); (case hr => first | (go_simp; done) | (go_simp; rfl)); intro gr hg w2 hbox hb; have NWRB := Aside0.mk hbox; have GWRB := Aside0.mk ((by rw [hg]; exact (below_size (pxb HB)) : w.heap.size ≤ gr)); have NETBRB := Aside0.mk (show gt ≠ gr by rw [hg]; exact Nat.ne_of_lt (blk_lt (pxp (o := .cells #[.int .i64 t.f0, .string t.f1, .int .i64 t.f2, .string t.f3] 59 (0, 0)) TB))); have NERBTB := Aside0.mk (Ne.symm NETBRB.out); have eTBRB := NETBRB.out; have eRBTB := NERBTB.out; clear hg hbox; have n0_ := pxs HB hb; have nTB_ : Aside0 (w2.heap[gt]? = some (.cells #[.int .i64 t.f0, .string t.f1, .int .i64 t.f2, .string t.f3] 59 (0, 0))) := ⟨blk_below (pxp TB) hb⟩; clear HB TB; have HB := n0_; clear n0_; have TB := nTB_; clear nTB_; have RB := NWRB; clear NWRB hb; obtain ⟨xTB0, xTB1, xTB2, xTB3, yTB0, yTB1, yTB2, yTB3⟩ := pxf4 TB; obtain ⟨xRB0, xRB1, xRB2, yRB0, yRB1, yRB2⟩ := pxf3 RB))
  have hgr := GWRB.out
  refine bodyPost_ret (results_ct rfl _ _ gr 61 #[.int .i64 0, .int .i64 0, .string ⟨#[]⟩] (0, 0) _ rfl (pxp RB) Try.underlying61 rfl (by kernel_rfl)) rfl ?_
  exact ⟨rfl, pxb HB⟩
set_option maxHeartbeats 16000000 in
set_option maxRecDepth 100000 in
theorem array_big {g B : Nat} {O : Nat → Prop} {lv : Value} {cs : List S105} {n : Int} (t : S59) (q : Int) (w : World) (h : HP g B O lv cs n w) (hm : t.f3.size ≤ 1000000000) (hn : -1000000 ≤ n ∧ n ≤ 1000000) (hl : cs.length < 5000) (hq : 65536 < q) :
    Calls Try.prog 28 #[.pointer (some ⟨g, 0, none⟩), .agg #[.int .i64 t.f0, .string t.f1, .int .i64 t.f2, .string t.f3], .int .i64 q] w fun e w' => e = .returned (.tuple #[.agg #[.int .i64 0, .int .i64 0, .string ⟨#[]⟩], .int .i64 2]) ∧ Below w.heap.size w w' := by
  have HB := Aside0.mk (Below.refl w.heap.size w)
  have HH := Aside0.mk h
  have HM := Aside0.mk hm
  have HN := Lib.hid hn
  have HL := Lib.hid hl
  clear h hm hn hl
  have k1 : decide (q < 0) = false := decide_eq_false (by omega)
  have k2 : decide (65536 < q) = true := decide_eq_true hq
  go_enter Try.func28, Try.ntmps28
  go_wp2_with (first | ((with_reducible refine gate_dst (N := 4) rfl ?_); refine box_event ?hg (N := 4) ?hd (cs := #[.int .i64 t.f0, .string t.f1, .int .i64 t.f2, .string t.f3]) (t := 59) ?hr ?_; (case hd => rfl); (case hg => rfl); (case hr => first | (go_simp; done) | (go_simp; rfl)); intro gt hg w1 hbox hb; have NWTB := Aside0.mk hbox; have GWTB := Aside0.mk ((by rw [hg]; exact (below_size (pxb HB)) : w.heap.size ≤ gt)); clear hg hbox; have n0_ := pxs HB hb; clear HB ; have HB := n0_; clear n0_; have TB := NWTB; clear NWTB hb; obtain ⟨xTB0, xTB1, xTB2, xTB3, yTB0, yTB1, yTB2, yTB3⟩ := pxf4 TB) | ((with_reducible refine gate_dst (N := 6) rfl ?_); refine box_event ?hg (N := 6) ?hd (cs := #[.int .i64 0, .int .i64 0, .string ⟨#[]⟩]) (t := 61) ?hr ?_; (case hd => rfl); (case hg => rfl); (case hr => first | (go_simp; done) | (go_simp; rfl)); intro gr hg w2 hbox hb; have NWRB := Aside0.mk hbox; have GWRB := Aside0.mk ((by rw [hg]; exact (below_size (pxb HB)) : w.heap.size ≤ gr)); have NETBRB := Aside0.mk (show gt ≠ gr by rw [hg]; exact Nat.ne_of_lt (blk_lt (pxp (o := .cells #[.int .i64 t.f0, .string t.f1, .int .i64 t.f2, .string t.f3] 59 (0, 0)) TB))); have NERBTB := Aside0.mk (Ne.symm NETBRB.out); have eTBRB := NETBRB.out; have eRBTB := NERBTB.out; clear hg hbox; have n0_ := pxs HB hb; have nTB_ : Aside0 (w2.heap[gt]? = some (.cells #[.int .i64 t.f0, .string t.f1, .int .i64 t.f2, .string t.f3] 59 (0, 0))) := ⟨blk_below (pxp TB) hb⟩; clear HB TB; have HB := n0_; clear n0_; have TB := nTB_; clear nTB_; have RB := NWRB; clear NWRB hb; obtain ⟨xTB0, xTB1, xTB2, xTB3, yTB0, yTB1, yTB2, yTB3⟩ := pxf4 TB; obtain ⟨xRB0, xRB1, xRB2, yRB0, yRB1, yRB2⟩ := pxf3 RB))
  have hgr := GWRB.out
  refine bodyPost_ret (results_ct rfl _ _ gr 61 #[.int .i64 0, .int .i64 0, .string ⟨#[]⟩] (0, 0) _ rfl (pxp RB) Try.underlying61 rfl (by kernel_rfl)) rfl ?_
  exact ⟨rfl, pxb HB⟩
set_option maxHeartbeats 16000000 in
set_option maxRecDepth 100000 in
theorem array_no {g B : Nat} {O : Nat → Prop} {lv : Value} {cs : List S105} {n : Int} (t : S59) (q : Int) (w : World) (h : HP g B O lv cs n w) (hm : t.f3.size ≤ 1000000000) (hn : -1000000 ≤ n ∧ n ≤ 1000000) (hl : cs.length < 5000) (h0 : 0 ≤ q) (hq : q ≤ 65536) (hr : roomB cs n q = false) :
    Calls Try.prog 28 #[.pointer (some ⟨g, 0, none⟩), .agg #[.int .i64 t.f0, .string t.f1, .int .i64 t.f2, .string t.f3], .int .i64 q] w fun e w' => e = .returned (.tuple #[.agg #[.int .i64 0, .int .i64 0, .string ⟨#[]⟩], .int .i64 2]) ∧ Below w.heap.size w w' := by
  have HB := Aside0.mk (Below.refl w.heap.size w)
  have HH := Aside0.mk h
  have HM := Aside0.mk hm
  have HN := Lib.hid hn
  have HL := Lib.hid hl
  clear h hm hn hl
  have HR := Aside0.mk hr
  clear hr
  have tok_r : True := trivial
  have k1 : decide (q < 0) = false := decide_eq_false (by omega)
  have k2 : decide (65536 < q) = false := decide_eq_false (by omega)
  go_enter Try.func28, Try.ntmps28
  go_wp2_with (first | ((with_reducible refine gate_dst (N := 4) rfl ?_); refine box_event ?hg (N := 4) ?hd (cs := #[.int .i64 t.f0, .string t.f1, .int .i64 t.f2, .string t.f3]) (t := 59) ?hr ?_; (case hd => rfl); (case hg => rfl); (case hr => first | (go_simp; done) | (go_simp; rfl)); intro gt hg w1 hbox hb; have NWTB := Aside0.mk hbox; have GWTB := Aside0.mk ((by rw [hg]; exact (below_size (pxb HB)) : w.heap.size ≤ gt)); clear hg hbox; have n0_ := pxs HB hb; clear HB ; have HB := n0_; clear n0_; have TB := NWTB; clear NWTB hb; obtain ⟨xTB0, xTB1, xTB2, xTB3, yTB0, yTB1, yTB2, yTB3⟩ := pxf4 TB) | ((with_reducible refine gate_dst (N := 6) rfl ?_); refine box_event ?hg (N := 6) ?hd (cs := #[.int .i64 0, .int .i64 0, .string ⟨#[]⟩]) (t := 61) ?hr ?_; (case hd => rfl); (case hg => rfl); (case hr => first | (go_simp; done) | (go_simp; rfl)); intro gr hg w2 hbox hb; have NWRB := Aside0.mk hbox; have GWRB := Aside0.mk ((by rw [hg]; exact (below_size (pxb HB)) : w.heap.size ≤ gr)); have NETBRB := Aside0.mk (show gt ≠ gr by rw [hg]; exact Nat.ne_of_lt (blk_lt (pxp (o := .cells #[.int .i64 t.f0, .string t.f1, .int .i64 t.f2, .string t.f3] 59 (0, 0)) TB))); have NERBTB := Aside0.mk (Ne.symm NETBRB.out); have eTBRB := NETBRB.out; have eRBTB := NERBTB.out; clear hg hbox; have n0_ := pxs HB hb; have nTB_ : Aside0 (w2.heap[gt]? = some (.cells #[.int .i64 t.f0, .string t.f1, .int .i64 t.f2, .string t.f3] 59 (0, 0))) := ⟨blk_below (pxp TB) hb⟩; clear HB TB; have HB := n0_; clear n0_; have TB := nTB_; clear nTB_; have RB := NWRB; clear NWRB hb; obtain ⟨xTB0, xTB1, xTB2, xTB3, yTB0, yTB1, yTB2, yTB3⟩ := pxf4 TB; obtain ⟨xRB0, xRB1, xRB2, yRB0, yRB1, yRB2⟩ := pxf3 RB) | (clear tok_r; go_at_call 51; (with_reducible refine (room_yes _ (HH.out.below (pxb HB)) HN.out false HR.out).mono ?_); rintro e w3 ⟨rfl, hb⟩; have n0_ := pxs HB hb; have nTB_ : Aside0 (w3.heap[gt]? = some (.cells #[.int .i64 t.f0, .string t.f1, .int .i64 t.f2, .string t.f3] 59 (0, 0))) := ⟨blk_below (pxp TB) hb⟩; have nRB_ : Aside0 (w3.heap[gr]? = some (.cells #[.int .i64 0, .int .i64 0, .string ⟨#[]⟩] 61 (0, 0))) := ⟨blk_below (pxp RB) hb⟩; clear HB TB RB; have HB := n0_; clear n0_; have TB := nTB_; clear nTB_; have RB := nRB_; clear nRB_; clear hb; obtain ⟨xTB0, xTB1, xTB2, xTB3, yTB0, yTB1, yTB2, yTB3⟩ := pxf4 TB; obtain ⟨xRB0, xRB1, xRB2, yRB0, yRB1, yRB2⟩ := pxf3 RB))
  have hgr := GWRB.out
  refine bodyPost_ret (results_ct rfl _ _ gr 61 #[.int .i64 0, .int .i64 0, .string ⟨#[]⟩] (0, 0) _ rfl (pxp RB) Try.underlying61 rfl (by kernel_rfl)) rfl ?_
  exact ⟨rfl, pxb HB⟩
set_option maxHeartbeats 16000000 in
set_option maxRecDepth 100000 in
theorem array_ok {g B : Nat} {O : Nat → Prop} {lv : Value} {cs : List S105} {n : Int} (t : S59) (q : Int) (w : World) (h : HP g B O lv cs n w) (hm : t.f3.size ≤ 1000000000) (hn : -1000000 ≤ n ∧ n ≤ 1000000) (hl : cs.length < 5000) (h0 : 0 ≤ q) (hq : q ≤ 65536) (hr : roomB cs n q = true) :
    Calls Try.prog 28 #[.pointer (some ⟨g, 0, none⟩), .agg #[.int .i64 t.f0, .string t.f1, .int .i64 t.f2, .string t.f3], .int .i64 q] w fun e w' => e = .returned (.tuple #[.agg #[.int .i64 5, .int .i64 cs.length, .string ⟨#[]⟩], .int .i64 0]) ∧ ∃ lv' O', HP g B O' lv' (cs ++ [⟨⟨#[]⟩, t, true, List.replicate q.toNat (emV t)⟩]) (n + q) w' ∧ Keeps B O w w' ∧ ∀ k, O' k → O k ∨ w.heap.size ≤ k := by
  have HB := Aside0.mk (Below.refl w.heap.size w)
  have HH := Aside0.mk h
  have HM := Aside0.mk hm
  have HN := Lib.hid hn
  have HL := Lib.hid hl
  clear h hm hn hl
  have HR := Aside0.mk hr
  clear hr
  obtain ⟨N, rfl⟩ : ∃ N : Nat, q = (N : Int) := ⟨q.toNat, by omega⟩
  rw [Int.toNat_natCast]
  have HNN := Lib.hid (show N ≤ 65536 by omega)
  have tok_r : True := trivial
  have k1 : decide ((N : Int) < 0) = false := decide_eq_false (by omega)
  have k2 : decide (65536 < (N : Int)) = false := decide_eq_false (by omega)
  go_enter Try.func28, Try.ntmps28
  go_upto_region 7 with (first | ((with_reducible refine gate_dst (N := 4) rfl ?_); refine box_event ?hg (N := 4) ?hd (cs := #[.int .i64 t.f0, .string t.f1, .int .i64 t.f2, .string t.f3]) (t := 59) ?hr ?_; (case hd => rfl); (case hg => rfl); (case hr => first | (go_simp; done) | (go_simp; rfl)); intro gt hg w1 hbox hb; have NWTB := Aside0.mk hbox; have GWTB := Aside0.mk ((by rw [hg]; exact (below_size (pxb HB)) : w.heap.size ≤ gt)); clear hg hbox; have n0_ := pxs HB hb; clear HB ; have HB := n0_; clear n0_; have TB := NWTB; clear NWTB hb; obtain ⟨xTB0, xTB1, xTB2, xTB3, yTB0, yTB1, yTB2, yTB3⟩ := pxf4 TB) | ((with_reducible refine gate_dst (N := 6) rfl ?_); refine box_event ?hg (N := 6) ?hd (cs := #[.int .i64 0, .int .i64 0, .string ⟨#[]⟩]) (t := 61) ?hr ?_; (case hd => rfl); (case hg => rfl); (case hr => first | (go_simp; done) | (go_simp; rfl)); intro gr hg w2 hbox hb; have NWRB := Aside0.mk hbox; have GWRB := Aside0.mk ((by rw [hg]; exact (below_size (pxb HB)) : w.heap.size ≤ gr)); have NETBRB := Aside0.mk (show gt ≠ gr by rw [hg]; exact Nat.ne_of_lt (blk_lt (pxp (o := .cells #[.int .i64 t.f0, .string t.f1, .int .i64 t.f2, .string t.f3] 59 (0, 0)) TB))); have NERBTB := Aside0.mk (Ne.symm NETBRB.out); have eTBRB := NETBRB.out; have eRBTB := NERBTB.out; clear hg hbox; have n0_ := pxs HB hb; have nTB_ : Aside0 (w2.heap[gt]? = some (.cells #[.int .i64 t.f0, .string t.f1, .int .i64 t.f2, .string t.f3] 59 (0, 0))) := ⟨blk_below (pxp TB) hb⟩; clear HB TB; have HB := n0_; clear n0_; have TB := nTB_; clear nTB_; have RB := NWRB; clear NWRB hb; obtain ⟨xTB0, xTB1, xTB2, xTB3, yTB0, yTB1, yTB2, yTB3⟩ := pxf4 TB; obtain ⟨xRB0, xRB1, xRB2, yRB0, yRB1, yRB2⟩ := pxf3 RB) | (clear tok_r; go_at_call 51; (with_reducible refine (room_yes _ (HH.out.below (pxb HB)) HN.out true HR.out).mono ?_); rintro e w3 ⟨rfl, hb⟩; have n0_ := pxs HB hb; have nTB_ : Aside0 (w3.heap[gt]? = some (.cells #[.int .i64 t.f0, .string t.f1, .int .i64 t.f2, .string t.f3] 59 (0, 0))) := ⟨blk_below (pxp TB) hb⟩; have nRB_ : Aside0 (w3.heap[gr]? = some (.cells #[.int .i64 0, .int .i64 0, .string ⟨#[]⟩] 61 (0, 0))) := ⟨blk_below (pxp RB) hb⟩; clear HB TB RB; have HB := n0_; clear n0_; have TB := nTB_; clear nTB_; have RB := nRB_; clear nRB_; clear hb; obtain ⟨xTB0, xTB1, xTB2, xTB3, yTB0, yTB1, yTB2, yTB3⟩ := pxf4 TB; obtain ⟨xRB0, xRB1, xRB2, yRB0, yRB1, yRB2⟩ := pxf3 RB) | ((with_reducible refine gate_dst (N := 8) rfl ?_); refine box_event ?hg (N := 8) ?hd (cs := #[.string ⟨#[]⟩, .int .i64 0, .string ⟨#[]⟩, .int .i64 0, .string ⟨#[]⟩, .bool false, .slice none 0 0]) (t := 105) ?hr ?_; (case hd => rfl); (case hg => rfl); (case hr => first | (go_simp; done) | (go_simp; rfl)); intro gc hg w4 hbox hb; have NWCB := Aside0.mk hbox; have GWCB := Aside0.mk ((by rw [hg]; exact (below_size (pxb HB)) : w.heap.size ≤ gc)); have NETBCB := Aside0.mk (show gt ≠ gc by rw [hg]; exact Nat.ne_of_lt (blk_lt (pxp (o := .cells #[.int .i64 t.f0, .string t.f1, .int .i64 t.f2, .string t.f3] 59 (0, 0)) TB))); have NECBTB := Aside0.mk (Ne.symm NETBCB.out); have eTBCB := NETBCB.out; have eCBTB := NECBTB.out; have NERBCB := Aside0.mk (show gr ≠ gc by rw [hg]; exact Nat.ne_of_lt (blk_lt (pxp (o := .cells #[.int .i64 0, .int .i64 0, .string ⟨#[]⟩] 61 (0, 0)) RB))); have NECBRB := Aside0.mk (Ne.symm NERBCB.out); have eRBCB := NERBCB.out; have eCBRB := NECBRB.out; clear hg hbox; have n0_ := pxs HB hb; have nTB_ : Aside0 (w4.heap[gt]? = some (.cells #[.int .i64 t.f0, .string t.f1, .int .i64 t.f2, .string t.f3] 59 (0, 0))) := ⟨blk_below (pxp TB) hb⟩; have nRB_ : Aside0 (w4.heap[gr]? = some (.cells #[.int .i64 0, .int .i64 0, .string ⟨#[]⟩] 61 (0, 0))) := ⟨blk_below (pxp RB) hb⟩; clear HB TB RB; have HB := n0_; clear n0_; have TB := nTB_; clear nTB_; have RB := nRB_; clear nRB_; have CB := NWCB; clear NWCB hb; obtain ⟨xTB0, xTB1, xTB2, xTB3, yTB0, yTB1, yTB2, yTB3⟩ := pxf4 TB; obtain ⟨xRB0, xRB1, xRB2, yRB0, yRB1, yRB2⟩ := pxf3 RB; obtain ⟨xCB0, xCB1, xCB2, xCB3, xCB4, xCB5, xCB6, yCB0, yCB1, yCB2, yCB3, yCB4, yCB5, yCB6⟩ := pxf7 CB))
  have hgc := GWCB.out
  have hgr := GWRB.out
  have hgt := GWTB.out
  go_loopg [24] N (fun kq v24 w' => ∃ (i : Nat) (vv : Value), v24 = .int .i64 i ∧ Hid (i ≤ N ∧ kq = N - i) ∧ Aside0 (Below w.heap.size w w') ∧ Aside0 (w'.heap[gc]? = some (.cells #[.string ⟨#[]⟩, .int .i64 t.f0, .string t.f1, .int .i64 t.f2, .string t.f3, .bool true, vv] 105 (0, 0))) ∧ Aside0 (w'.heap[gr]? = some (.cells #[.int .i64 0, .int .i64 0, .string ⟨#[]⟩] 61 (0, 0))) ∧ Aside0 (w'.heap[gt]? = some (.cells #[.int .i64 t.f0, .string t.f1, .int .i64 t.f2, .string t.f3] 59 (0, 0))) ∧ Aside0 (Kd.R k61 61 w' w.heap.size (fun k => k ≠ gc ∧ k ≠ gr ∧ k ≠ gt) vv (List.replicate i (emV t))))
  case atStart => exact ⟨0, _, rfl, ⟨Nat.zero_le _, rfl⟩, ⟨pxb HB⟩, ⟨pxp CB⟩, ⟨pxp RB⟩, ⟨pxp TB⟩, ⟨Kd.R_nil _ _ _ _ _⟩⟩
  case round =>
    clear HB CB RB TB xTB0 xTB1 xTB2 xTB3 yTB0 yTB1 yTB2 yTB3 xRB0 xRB1 xRB2 yRB0 yRB1 yRB2 xCB0 xCB1 xCB2 xCB3 xCB4 xCB5 xCB6 yCB0 yCB1 yCB2 yCB3 yCB4 yCB5 yCB6
    obtain ⟨i, vv, rfl, HI, HB, CB, RB, TB, HRV⟩ := hrel
    have hll : (List.replicate i (emV t)).length = i := List.length_replicate
    obtain ⟨L0, hL0⟩ : ∃ L0, List.replicate i (emV t) = L0 := ⟨_, rfl⟩
    rw [hL0] at HRV hll
    have HL0 := Aside0.mk hL0
    have HLL := Lib.hid hll
    clear hL0 hll
    obtain ⟨A6, c6, rfl⟩ := Kd.R_slice HRV.out
    obtain ⟨xCB0, xCB1, xCB2, xCB3, xCB4, xCB5, xCB6, yCB0, yCB1, yCB2, yCB3, yCB4, yCB5, yCB6⟩ := pxf7 CB
    obtain ⟨xRB0, xRB1, xRB2, yRB0, yRB1, yRB2⟩ := pxf3 RB
    obtain ⟨xTB0, xTB1, xTB2, xTB3, yTB0, yTB1, yTB2, yTB3⟩ := pxf4 TB
    by_cases hi : i < N
    · have HLT := Lib.hid hi
      have k4 : decide ((i : Int) < (N : Int)) = true := decide_eq_true (by omega)
      have k5 : decide (i < N) = true := decide_eq_true (by omega)
      clear hi
      go_upto_region 8 with (fail)
      refine start_ (n := 8) (S := fun w' => w'.cell? ⟨gc, 0, none⟩ = some (.string ⟨#[]⟩) ∧ w'.cell? ⟨gc, 1, none⟩ = some (.int .i64 t.f0) ∧ w'.cell? ⟨gc, 2, none⟩ = some (.string t.f1) ∧ w'.cell? ⟨gc, 3, none⟩ = some (.int .i64 t.f2) ∧ w'.cell? ⟨gc, 4, none⟩ = some (.string t.f3) ∧ w'.cell? ⟨gc, 5, none⟩ = some (.bool true) ∧ w'.cell? ⟨gc, 6, none⟩ = some (.slice A6 L0.length c6) ∧ w'.cell? ⟨gr, 0, none⟩ = some (.int .i64 0) ∧ w'.cell? ⟨gr, 1, none⟩ = some (.int .i64 0) ∧ w'.cell? ⟨gr, 2, none⟩ = some (.string ⟨#[]⟩) ∧ w'.cell? ⟨gt, 0, none⟩ = some (.int .i64 t.f0) ∧ w'.cell? ⟨gt, 1, none⟩ = some (.string t.f1) ∧ w'.cell? ⟨gt, 2, none⟩ = some (.int .i64 t.f2) ∧ w'.cell? ⟨gt, 3, none⟩ = some (.string t.f3)) (ds := [7]) #[false, false, false, false, false, false, false, false] (by kernel_rfl) rfl rfl ⟨(pxf7 ⟨blk_drew (pxp (o := .cells #[.string ⟨#[]⟩, .int .i64 t.f0, .string t.f1, .int .i64 t.f2, .string t.f3, .bool true, .slice A6 L0.length c6] 105 (0, 0)) CB)⟩).1, (pxf7 ⟨blk_drew (pxp (o := .cells #[.string ⟨#[]⟩, .int .i64 t.f0, .string t.f1, .int .i64 t.f2, .string t.f3, .bool true, .slice A6 L0.length c6] 105 (0, 0)) CB)⟩).2.1, (pxf7 ⟨blk_drew (pxp (o := .cells #[.string ⟨#[]⟩, .int .i64 t.f0, .string t.f1, .int .i64 t.f2, .string t.f3, .bool true, .slice A6 L0.length c6] 105 (0, 0)) CB)⟩).2.2.1, (pxf7 ⟨blk_drew (pxp (o := .cells #[.string ⟨#[]⟩, .int .i64 t.f0, .string t.f1, .int .i64 t.f2, .string t.f3, .bool true, .slice A6 L0.length c6] 105 (0, 0)) CB)⟩).2.2.2.1, (pxf7 ⟨blk_drew (pxp (o := .cells #[.string ⟨#[]⟩, .int .i64 t.f0, .string t.f1, .int .i64 t.f2, .string t.f3, .bool true, .slice A6 L0.length c6] 105 (0, 0)) CB)⟩).2.2.2.2.1, (pxf7 ⟨blk_drew (pxp (o := .cells #[.string ⟨#[]⟩, .int .i64 t.f0, .string t.f1, .int .i64 t.f2, .string t.f3, .bool true, .slice A6 L0.length c6] 105 (0, 0)) CB)⟩).2.2.2.2.2.1, (pxf7 ⟨blk_drew (pxp (o := .cells #[.string ⟨#[]⟩, .int .i64 t.f0, .string t.f1, .int .i64 t.f2, .string t.f3, .bool true, .slice A6 L0.length c6] 105 (0, 0)) CB)⟩).2.2.2.2.2.2.1, (pxf3 ⟨blk_drew (pxp (o := .cells #[.int .i64 0, .int .i64 0, .string ⟨#[]⟩] 61 (0, 0)) RB)⟩).1, (pxf3 ⟨blk_drew (pxp (o := .cells #[.int .i64 0, .int .i64 0, .string ⟨#[]⟩] 61 (0, 0)) RB)⟩).2.1, (pxf3 ⟨blk_drew (pxp (o := .cells #[.int .i64 0, .int .i64 0, .string ⟨#[]⟩] 61 (0, 0)) RB)⟩).2.2.1, (pxf4 ⟨blk_drew (pxp (o := .cells #[.int .i64 t.f0, .string t.f1, .int .i64 t.f2, .string t.f3] 59 (0, 0)) TB)⟩).1, (pxf4 ⟨blk_drew (pxp (o := .cells #[.int .i64 t.f0, .string t.f1, .int .i64 t.f2, .string t.f3] 59 (0, 0)) TB)⟩).2.1, (pxf4 ⟨blk_drew (pxp (o := .cells #[.int .i64 t.f0, .string t.f1, .int .i64 t.f2, .string t.f3] 59 (0, 0)) TB)⟩).2.2.1, (pxf4 ⟨blk_drew (pxp (o := .cells #[.int .i64 t.f0, .string t.f1, .int .i64 t.f2, .string t.f3] 59 (0, 0)) TB)⟩).2.2.2.1⟩ (fun hHeld => ?_); refine with_tab rfl (fun HT_ => ?_)
      generalize hW_ : World.drew _ = w6 at hHeld ⊢
      have n0_ : Aside0 (Below w.heap.size w w6) := ⟨by rw [← hW_]; exact below_drew1 (pxb HB)⟩
      have HX : Aside0 (Below wr.heap.size wr w6) := ⟨by rw [← hW_]; exact below_drew1 (Below.refl _ _)⟩
      have nCB_ : Aside0 (w6.heap[gc]? = some (.cells #[.string ⟨#[]⟩, .int .i64 t.f0, .string t.f1, .int .i64 t.f2, .string t.f3, .bool true, .slice A6 L0.length c6] 105 (0, 0))) := ⟨by rw [← hW_]; exact blk_drew (pxp CB)⟩
      have nRB_ : Aside0 (w6.heap[gr]? = some (.cells #[.int .i64 0, .int .i64 0, .string ⟨#[]⟩] 61 (0, 0))) := ⟨by rw [← hW_]; exact blk_drew (pxp RB)⟩
      have nTB_ : Aside0 (w6.heap[gt]? = some (.cells #[.int .i64 t.f0, .string t.f1, .int .i64 t.f2, .string t.f3] 59 (0, 0))) := ⟨by rw [← hW_]; exact blk_drew (pxp TB)⟩
      clear hW_ HB CB RB TB
      have HB := n0_
      have CB := nCB_
      have RB := nRB_
      have TB := nTB_
      clear n0_ nCB_ nRB_ nTB_
      refine pS 0 26 HT_ ?_
      refine tT 1 27 HT_ hHeld ?_
      refine tT 2 28 HT_ hHeld ?_
      refine oS 3 HT_ (fun K hK => ?_)
      refine goes_ Try.func52 (by kernel_rfl) rfl #[.agg #[.int .i64 t.f0, .string t.f1, .int .i64 t.f2, .string t.f3]] (by rfl) rfl rfl (by (try simp only [List.map_toArray, List.map_cons, List.map_nil]); first | done | rfl) ?_
      (with_reducible refine (empty_any t _ HM.out).mono ?_)
      rintro e w7 ⟨rfl, hb⟩
      refine ⟨_, rfl, ?_⟩
      have n0_ := pxs HB hb; have nCB_ : Aside0 (w7.heap[gc]? = some (.cells #[.string ⟨#[]⟩, .int .i64 t.f0, .string t.f1, .int .i64 t.f2, .string t.f3, .bool true, .slice A6 L0.length c6] 105 (0, 0))) := ⟨blk_below (pxp CB) hb⟩; have nRB_ : Aside0 (w7.heap[gr]? = some (.cells #[.int .i64 0, .int .i64 0, .string ⟨#[]⟩] 61 (0, 0))) := ⟨blk_below (pxp RB) hb⟩; have nTB_ : Aside0 (w7.heap[gt]? = some (.cells #[.int .i64 t.f0, .string t.f1, .int .i64 t.f2, .string t.f3] 59 (0, 0))) := ⟨blk_below (pxp TB) hb⟩; have nHX_ := pxs HX hb; clear HB HX CB RB TB; have HB := n0_; clear n0_; have HX := nHX_; clear nHX_; have CB := nCB_; clear nCB_; have RB := nRB_; clear nRB_; have TB := nTB_; clear nTB_
      refine hK.out _ _ ⟨(pxf7 CB).1, (pxf7 CB).2.1, (pxf7 CB).2.2.1, (pxf7 CB).2.2.2.1, (pxf7 CB).2.2.2.2.1, (pxf7 CB).2.2.2.2.2.1, (pxf7 CB).2.2.2.2.2.2.1, (pxf3 RB).1, (pxf3 RB).2.1, (pxf3 RB).2.2.1, (pxf4 TB).1, (pxf4 TB).2.1, (pxf4 TB).2.2.1, (pxf4 TB).2.2.2.1⟩ (fun hHeld => ?_)
      clear hK K hb
      refine nS 29 ?_
      refine oS 4 HT_ (fun K hK => ?_)
      refine value_ (w1 := ?_) (v := ?_) (by rfl) rfl ?_ ?_
      rotate_left 2
      · go_simp
        constructor
        · rfl
        · rfl
      refine hK.out _ _ ⟨(blk_cell (blk_below CB.out (below_alloc (Below.refl _ _) _)) 0).trans rfl, (blk_cell (blk_below CB.out (below_alloc (Below.refl _ _) _)) 1).trans rfl, (blk_cell (blk_below CB.out (below_alloc (Below.refl _ _) _)) 2).trans rfl, (blk_cell (blk_below CB.out (below_alloc (Below.refl _ _) _)) 3).trans rfl, (blk_cell (blk_below CB.out (below_alloc (Below.refl _ _) _)) 4).trans rfl, (blk_cell (blk_below CB.out (below_alloc (Below.refl _ _) _)) 5).trans rfl, (blk_cell (blk_below CB.out (below_alloc (Below.refl _ _) _)) 6).trans rfl, (blk_cell (blk_below RB.out (below_alloc (Below.refl _ _) _)) 0).trans rfl, (blk_cell (blk_below RB.out (below_alloc (Below.refl _ _) _)) 1).trans rfl, (blk_cell (blk_below RB.out (below_alloc (Below.refl _ _) _)) 2).trans rfl, (blk_cell (blk_below TB.out (below_alloc (Below.refl _ _) _)) 0).trans rfl, (blk_cell (blk_below TB.out (below_alloc (Below.refl _ _) _)) 1).trans rfl, (blk_cell (blk_below TB.out (below_alloc (Below.refl _ _) _)) 2).trans rfl, (blk_cell (blk_below TB.out (below_alloc (Below.refl _ _) _)) 3).trans rfl⟩ (fun hHeld => ?_)
      clear hK K
      refine nS 30 ?_
      refine oS 5 HT_ (fun K hK => ?_)
      have HRV7 := Aside0.mk (Kd.R_below HRV.out HX.out)
      refine Kd.R_append_step k61 (w0 := w) w.heap.size (by rfl) (.tmp 27) (.tmp 30) 66 61 z61c 32 rfl Try.underlying66 info61 rfl (by decide) (by omega) (.slice A6 L0.length c6) L0 (emV t) [.int .i64 (emV t).f0, .int .i64 (emV t).f1, .string (emV t).f2] (fun k => k ≠ gc ∧ k ≠ gr ∧ k ≠ gt) (fun _ => False) rfl rfl ?aP (fun _ hk => hk.elim) ?aF ?aO ?aB ?aS ?aL ?_
      (case aP => exact k61_mkM _ _ _ _)
      (case aF => exact fun k hk => ⟨fun e => by have := blk_lt CB.out; omega, fun e => by have := blk_lt RB.out; omega, fun e => by have := blk_lt TB.out; omega⟩)
      (case aO => exact HRV7.out)
      (case aB => exact HB.out)
      (case aS => exact HB.out.size)
      (case aL => have := HLL.out; have := HNN.out; have := HLT.out; omega)
      intro v2 w8 ho hb hg hat
      clear hat
      obtain ⟨A7, c7, rfl⟩ := Kd.R_slice ho
      generalize hq1 : (L0 ++ [emV t]).length = q1 at ho ⊢
      have gcb := (hg.block gc (blk_lt CB.out) (fun e => (HRV7.out.1 gc e.symm).1 rfl)).trans CB.out
      have grb := (hg.block gr (blk_lt RB.out) (fun e => (HRV7.out.1 gr e.symm).2.1 rfl)).trans RB.out
      have gtb := (hg.block gt (blk_lt TB.out) (fun e => (HRV7.out.1 gt e.symm).2.2 rfl)).trans TB.out
      have HO8 := Aside0.mk ho
      have HB8 := Aside0.mk hb
      clear ho hb hg CB RB TB HB
      have CB := Aside0.mk gcb
      have RB := Aside0.mk grb
      have TB := Aside0.mk gtb
      clear gcb grb gtb
      refine hK.out _ _ ⟨(blk_cell (CB.out) 0).trans rfl, (blk_cell (CB.out) 1).trans rfl, (blk_cell (CB.out) 2).trans rfl, (blk_cell (CB.out) 3).trans rfl, (blk_cell (CB.out) 4).trans rfl, (blk_cell (CB.out) 5).trans rfl, (blk_cell (CB.out) 6).trans rfl, (blk_cell (RB.out) 0).trans rfl, (blk_cell (RB.out) 1).trans rfl, (blk_cell (RB.out) 2).trans rfl, (blk_cell (TB.out) 0).trans rfl, (blk_cell (TB.out) 1).trans rfl, (blk_cell (TB.out) 2).trans rfl, (blk_cell (TB.out) 3).trans rfl⟩ (fun hHeld => ?_)
      clear hK K
      refine nS 31 ?_
      refine pS 6 32 HT_ ?_
      obtain ⟨xCB0, xCB1, xCB2, xCB3, xCB4, xCB5, xCB6, yCB0, yCB1, yCB2, yCB3, yCB4, yCB5, yCB6⟩ := pxf7 CB
      refine lS 7 HT_ (fun K hK => ?_)
      refine skip_ (w1 := ?_) (by rfl) rfl ?_ ?_
      rotate_left 1
      · go_simp
        rfl
      refine hK.out _ _ ?_
      clear hK K
      refine done_ (done_of HT_.out (by kernel_rfl)) ?_
      clear HT_ hHeld
      generalize hW_ : World.setCell w8 _ _ = w9
      have HB9 : Aside0 (Below w.heap.size w w9) := ⟨by rw [← hW_]; exact HB8.out.setCell hgc _⟩
      have CB9 : Aside0 (w9.heap[gc]? = some (.cells #[.string ⟨#[]⟩, .int .i64 t.f0, .string t.f1, .int .i64 t.f2, .string t.f3, .bool true, .slice A7 q1 c7] 105 (0, 0))) := ⟨by rw [← hW_]; exact blk_put CB.out 6 _ rfl⟩
      have RB9 : Aside0 (w9.heap[gr]? = some (.cells #[.int .i64 0, .int .i64 0, .string ⟨#[]⟩] 61 (0, 0))) := ⟨by rw [← hW_]; exact (Below.heap_setCell w8 ⟨gc, 6, none⟩ _ gr eRBCB).trans RB.out⟩
      have TB9 : Aside0 (w9.heap[gt]? = some (.cells #[.int .i64 t.f0, .string t.f1, .int .i64 t.f2, .string t.f3] 59 (0, 0))) := ⟨by rw [← hW_]; exact (Below.heap_setCell w8 ⟨gc, 6, none⟩ _ gt eTBCB).trans TB.out⟩
      have HO9 : Aside0 (Kd.R k61 61 w9 w.heap.size (fun k => k ≠ gc ∧ k ≠ gr ∧ k ≠ gt) (.slice A7 q1 c7) (List.replicate (i + 1) (emV t))) := ⟨by
        rw [← hW_, List.replicate_succ', HL0.out]
        exact Kd.R_far HO8.out (p := ⟨gc, 6, none⟩) (fun k hk => hk.1) _⟩
      clear hW_
      go_wp2
      go_roundg (N - (i + 1))
      case measure => have := HI.out; have := HLT.out; omega
      case rel => exact ⟨i + 1, _, by rw [wrap_id (by omega) (by have := HLT.out; have := HNN.out; omega)]; rfl, ⟨by have := HLT.out; omega, rfl⟩, HB9, CB9, RB9, TB9, HO9⟩
    · have k4 : decide ((i : Int) < (N : Int)) = false := decide_eq_false (by omega)
      have k5 : decide (i < N) = false := decide_eq_false (by omega)
      have hit : i = N := by have := HI.out; omega
      have hLt : List.replicate N (emV t) = L0 := by rw [← HL0.out, hit]
      have hlen : L0.length = N := by rw [← hLt, List.length_replicate]
      have hBw : B ≤ w.heap.size := Nat.le_trans HH.out.le (Nat.le_of_lt (blk_lt HH.out.bk))
      have HV6 : Aside0 (Kd.R k61 61 wr B (fun k => (k ≠ gc ∧ k ≠ gr ∧ k ≠ gt) ∧ w.heap.size ≤ k ∧ k < wr.heap.size) (.slice A6 L0.length c6) L0) := ⟨Kd.R_lower (Kd.R_mono (Kd.R_bound HRV.out) (fun k hk => ⟨hk.1, hk.2.1, hk.2.2.1⟩)) hBw⟩
      have hnog : ¬ O gr := fun h => by have := HH.out.lt gr h; omega
      have HNOG := Aside0.mk hnog
      have HXL := Lib.hid (show L0.length ≤ 1000000 by rw [hlen]; have := HNN.out; omega)
      have HLT2 := Aside0.mk hLt
      have HLE2 := Aside0.mk hlen
      clear hLt hlen hnog
      have tok_a : True := trivial
      go_wp2_with (first | (clear tok_a; go_at_call 53; (with_reducible refine (add_any ⟨⟨#[]⟩, t, true, L0⟩ (.slice A6 L0.length c6) wr (HH.out.below HB.out) HV6.out (fun k hk ho => by have := HH.out.lt k ho; have := hk.2.1; omega) (fun k hk => hk.2.2) HL.out HN.out HXL.out).mono ?_); rintro e w7 ⟨rfl, lv', O', hp, hkp, hso⟩; have HP7 := Aside0.mk hp; have HK7 := Aside0.mk hkp; have HS7 := Aside0.mk hso; have rb7 := (hkp.2 gr (blk_lt RB.out) HNOG.out).trans RB.out; have LR := Aside0.mk (blk_lt RB.out); clear RB hp hkp hso xRB0 xRB1 xRB2 yRB0 yRB1 yRB2; have RB := Aside0.mk rb7; clear rb7; obtain ⟨xRB0, xRB1, xRB2, yRB0, yRB1, yRB2⟩ := pxf3 RB))
      generalize hW_ : World.setCell (World.setCell (World.setCell w7 _ _) _ _) _ _ = w8
      have hk8 : ∀ k, k ≠ gr → w8.heap[k]? = w7.heap[k]? := fun k hk => by rw [← hW_]; exact (Below.heap_setCell _ ⟨gr, 2, none⟩ _ k hk).trans ((Below.heap_setCell _ ⟨gr, 1, none⟩ _ k hk).trans (Below.heap_setCell _ ⟨gr, 0, none⟩ _ k hk))
      have hb8 : Below w.heap.size w7 w8 := by rw [← hW_]; exact ((((Below.refl _ _).setCell hgr _).setCell hgr _).setCell hgr _)
      have hr8 : w8.heap[gr]? = some (.cells #[.int .i64 5, .int .i64 (cs.length : Int), .string ⟨#[]⟩] 61 (0, 0)) := by rw [← hW_]; exact blk_put (blk_put (blk_put RB.out 0 _ rfl) 1 _ rfl) 2 _ rfl
      clear hW_
      have hno : ∀ k, O' k → k ≠ gr := fun k hk e => by subst e; rcases HS7.out _ hk with h1 | h1 | h1; exact HNOG.out h1; exact h1.1.2.1 rfl; exact absurd LR.out (by omega)
      refine bodyPost_ret (results_ct rfl _ _ gr 61 #[.int .i64 5, .int .i64 (cs.length : Int), .string ⟨#[]⟩] (0, 0) _ rfl hr8 Try.underlying61 rfl (by kernel_rfl)) rfl ?_
      have hhp := HP7.out.away hb8.size (fun k hk => hk8 k (hno k hk))
      refine ⟨rfl, lv', O', ?_, ⟨((Keeps.of_below (O := O) HB.out hBw).1.trans HK7.out.1).trans ⟨hb8.os, hb8.tape, hb8.output, hb8.size, fun k hk => hb8.block k (by omega)⟩, fun k hk hn => ?_⟩, fun k hk => ?_⟩
      · rw [HLT2.out]
        have e : n + (N : Int) = n + (L0.length : Int) := by rw [HLE2.out]
        rw [e]
        exact hhp
      · exact (hk8 k (by omega)).trans ((HK7.out.2 k (Nat.lt_of_lt_of_le hk HB.out.size) hn).trans (HB.out.block k hk))
      · rcases HS7.out k hk with h1 | h1 | h1
        · exact .inl h1
        · exact .inr h1.2.1
        · exact .inr (Nat.le_trans HB.out.size h1)
end Go.Proofs.Ytefgfnhhoidbdaa.HpW
