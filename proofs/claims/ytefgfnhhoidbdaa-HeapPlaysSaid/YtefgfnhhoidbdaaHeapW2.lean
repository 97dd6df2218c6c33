/- Reading a heap: Len, Class, Elem. -/
import Derived.Test.YtefgfnhhoidbdaaHeapW1
namespace Go.Proofs.Ytefgfnhhoidbdaa.HpW
open Go.RowKit Go.Proofs.YtefgfnhhoidbdaaW.PrintWords Go.Proofs.YtefgfnhhoidbdaaW.PrintLast Go.Proofs.Ytefgfnhhoidbdaa.H
set_option linter.unusedVariables false
set_option linter.unusedSimpArgs false
abbrev tV (t : S59) : Value := .agg #[.int .i64 t.f0, .string t.f1, .int .i64 t.f2, .string t.f3]
set_option maxHeartbeats 16000000 in
set_option maxRecDepth 100000 in
theorem len_no {g B : Nat} {O : Nat → Prop} {cs : List S105} {n : Int} {lv : Value} (v : S61) (w : World) (h : HP g B O lv cs n w) (hn : v.f0 ≠ 5 ∨ v.f1 < 0 ∨ (cs.length : Int) ≤ v.f1) :
    Calls Try.prog 35 #[.pointer (some ⟨g, 0, none⟩), vV v] w fun e w' => e = .returned (.int .i64 (-1)) ∧ Below w.heap.size w w' := by
  have HB := Aside0.mk (Below.refl w.heap.size w)
  have HH := Aside0.mk h
  have GB := Aside0.mk h.bk
  obtain ⟨xGB0, xGB1, yGB0, yGB1⟩ := pxf2 GB
  clear h
  have HN := Aside0.mk hn
  clear hn
  have tok_f : True := trivial
  go_enter Try.func35, Try.ntmps35
  go_wp2_with (first | ((with_reducible refine gate_dst (N := 3) rfl ?_); refine box_event ?hg (N := 3) ?hd (cs := #[.int .i64 v.f0, .int .i64 v.f1, .string v.f2]) (t := 61) ?hr ?_; (case hd => rfl); (case hg => rfl); (case hr => first | (go_simp; done) | (go_simp; rfl)); intro gv hg w1 hbox hb; have NWVB := Aside0.mk hbox; have GWVB := Aside0.mk ((by rw [hg]; exact (below_size (pxb HB)) : w.heap.size ≤ gv)); have NEGBVB := Aside0.mk (show g ≠ gv by rw [hg]; exact Nat.ne_of_lt (blk_lt (pxp (o := .cells #[lv, .int .i64 n] 55 (0, 0)) GB))); have NEVBGB := Aside0.mk (Ne.symm NEGBVB.out); have eGBVB := NEGBVB.out; have eVBGB := NEVBGB.out; clear hg hbox; have n0_ := pxs HB hb; have nGB_ : Aside0 (w1.heap[g]? = some (.cells #[lv, .int .i64 n] 55 (0, 0))) := ⟨blk_below (pxp GB) hb⟩; clear HB GB; have HB := n0_; clear n0_; have GB := nGB_; clear nGB_; have VB := NWVB; clear NWVB hb; obtain ⟨xGB0, xGB1, yGB0, yGB1⟩ := pxf2 GB; obtain ⟨xVB0, xVB1, xVB2, yVB0, yVB1, yVB2⟩ := pxf3 VB) | (clear tok_f; go_at_call 54; (with_reducible refine (find_no v _ (HH.out.below (pxb HB)) HN.out).mono ?_); rintro e w5 ⟨rfl, hb⟩; have n0_ := pxs HB hb; have nGB_ : Aside0 (w5.heap[g]? = some (.cells #[lv, .int .i64 n] 55 (0, 0))) := ⟨blk_below (pxp GB) hb⟩; have nVB_ : Aside0 (w5.heap[gv]? = some (.cells #[.int .i64 v.f0, .int .i64 v.f1, .string v.f2] 61 (0, 0))) := ⟨blk_below (pxp VB) hb⟩; clear HB GB VB; have HB := n0_; clear n0_; have GB := nGB_; clear nGB_; have VB := nVB_; clear nVB_; clear hb; obtain ⟨xGB0, xGB1, yGB0, yGB1⟩ := pxf2 GB; obtain ⟨xVB0, xVB1, xVB2, yVB0, yVB1, yVB2⟩ := pxf3 VB))
  go_ret
  exact ⟨rfl, pxb HB⟩
set_option maxHeartbeats 16000000 in
set_option maxRecDepth 100000 in
theorem len_yes {g B : Nat} {O : Nat → Prop} {cs : List S105} {n : Int} {b c0 : Nat} (v : S61) (w : World) (h : HP g B O (.slice (some ⟨b, 0, none⟩) cs.length c0) cs n w) (hn : isAt cs v) :
    Calls Try.prog 35 #[.pointer (some ⟨g, 0, none⟩), vV v] w fun e w' => e = .returned (.int .i64 ((rd_T105 cs v.f1).f3.length : Int)) ∧ Below w.heap.size w w' := by
  have HB := Aside0.mk (Below.refl w.heap.size w)
  have HH := Aside0.mk h
  have GB := Aside0.mk h.bk
  obtain ⟨xGB0, xGB1, yGB0, yGB1⟩ := pxf2 GB
  clear h
  have HN := Aside0.mk hn
  clear hn
  have tok_f : True := trivial
  go_enter Try.func35, Try.ntmps35
  go_wp2_with (first | ((with_reducible refine gate_dst (N := 3) rfl ?_); refine box_event ?hg (N := 3) ?hd (cs := #[.int .i64 v.f0, .int .i64 v.f1, .string v.f2]) (t := 61) ?hr ?_; (case hd => rfl); (case hg => rfl); (case hr => first | (go_simp; done) | (go_simp; rfl)); intro gv hg w1 hbox hb; have NWVB := Aside0.mk hbox; have GWVB := Aside0.mk ((by rw [hg]; exact (below_size (pxb HB)) : w.heap.size ≤ gv)); have NEGBVB := Aside0.mk (show g ≠ gv by rw [hg]; exact Nat.ne_of_lt (blk_lt (pxp (o := .cells #[.slice (some ⟨b, 0, none⟩) cs.length c0, .int .i64 n] 55 (0, 0)) GB))); have NEVBGB := Aside0.mk (Ne.symm NEGBVB.out); have eGBVB := NEGBVB.out; have eVBGB := NEVBGB.out; clear hg hbox; have n0_ := pxs HB hb; have nGB_ : Aside0 (w1.heap[g]? = some (.cells #[.slice (some ⟨b, 0, none⟩) cs.length c0, .int .i64 n] 55 (0, 0))) := ⟨blk_below (pxp GB) hb⟩; clear HB GB; have HB := n0_; clear n0_; have GB := nGB_; clear nGB_; have VB := NWVB; clear NWVB hb; obtain ⟨xGB0, xGB1, yGB0, yGB1⟩ := pxf2 GB; obtain ⟨xVB0, xVB1, xVB2, yVB0, yVB1, yVB2⟩ := pxf3 VB) | (clear tok_f; go_at_call 54; (with_reducible refine (find_yes v _ (HH.out.below (pxb HB)) HN.out.1 HN.out.2.1 HN.out.2.2).mono ?_); rintro e w5 ⟨rfl, hb⟩; have n0_ := pxs HB hb; have nGB_ : Aside0 (w5.heap[g]? = some (.cells #[.slice (some ⟨b, 0, none⟩) cs.length c0, .int .i64 n] 55 (0, 0))) := ⟨blk_below (pxp GB) hb⟩; have nVB_ : Aside0 (w5.heap[gv]? = some (.cells #[.int .i64 v.f0, .int .i64 v.f1, .string v.f2] 61 (0, 0))) := ⟨blk_below (pxp VB) hb⟩; clear HB GB VB; have HB := n0_; clear n0_; have GB := nGB_; clear nGB_; have VB := nVB_; clear nVB_; clear hb; obtain ⟨xGB0, xGB1, yGB0, yGB1⟩ := pxf2 GB; obtain ⟨xVB0, xVB1, xVB2, yVB0, yVB1, yVB2⟩ := pxf3 VB; have HC5 := Aside0.mk (HH.out.below (pxb HB)).form; obtain ⟨A6, c6, s0, s1, s2, s3, s4, s5, s6, s7, s8⟩ := cell_at (CF HC5.out) v.f1 HN.out.2.1 HN.out.2.2; clear HC5))
  go_ret
  exact ⟨rfl, pxb HB⟩
set_option maxHeartbeats 16000000 in
set_option maxRecDepth 100000 in
theorem class_no {g B : Nat} {O : Nat → Prop} {cs : List S105} {n : Int} {lv : Value} (v : S61) (w : World) (h : HP g B O lv cs n w) (hn : v.f0 ≠ 5 ∨ v.f1 < 0 ∨ (cs.length : Int) ≤ v.f1) :
    Calls Try.prog 33 #[.pointer (some ⟨g, 0, none⟩), vV v] w fun e w' => e = .returned (.tuple #[.string ⟨#[]⟩, .bool false]) ∧ Below w.heap.size w w' := by
  have HB := Aside0.mk (Below.refl w.heap.size w)
  have HH := Aside0.mk h
  have GB := Aside0.mk h.bk
  obtain ⟨xGB0, xGB1, yGB0, yGB1⟩ := pxf2 GB
  clear h
  have HN := Aside0.mk hn
  clear hn
  have tok_f : True := trivial
  go_enter Try.func33, Try.ntmps33
  go_wp2_with (first | ((with_reducible refine gate_dst (N := 3) rfl ?_); refine box_event ?hg (N := 3) ?hd (cs := #[.int .i64 v.f0, .int .i64 v.f1, .string v.f2]) (t := 61) ?hr ?_; (case hd => rfl); (case hg => rfl); (case hr => first | (go_simp; done) | (go_simp; rfl)); intro gv hg w1 hbox hb; have NWVB := Aside0.mk hbox; have GWVB := Aside0.mk ((by rw [hg]; exact (below_size (pxb HB)) : w.heap.size ≤ gv)); have NEGBVB := Aside0.mk (show g ≠ gv by rw [hg]; exact Nat.ne_of_lt (blk_lt (pxp (o := .cells #[lv, .int .i64 n] 55 (0, 0)) GB))); have NEVBGB := Aside0.mk (Ne.symm NEGBVB.out); have eGBVB := NEGBVB.out; have eVBGB := NEVBGB.out; clear hg hbox; have n0_ := pxs HB hb; have nGB_ : Aside0 (w1.heap[g]? = some (.cells #[lv, .int .i64 n] 55 (0, 0))) := ⟨blk_below (pxp GB) hb⟩; clear HB GB; have HB := n0_; clear n0_; have GB := nGB_; clear nGB_; have VB := NWVB; clear NWVB hb; obtain ⟨xGB0, xGB1, yGB0, yGB1⟩ := pxf2 GB; obtain ⟨xVB0, xVB1, xVB2, yVB0, yVB1, yVB2⟩ := pxf3 VB) | (clear tok_f; go_at_call 54; (with_reducible refine (find_no v _ (HH.out.below (pxb HB)) HN.out).mono ?_); rintro e w5 ⟨rfl, hb⟩; have n0_ := pxs HB hb; have nGB_ : Aside0 (w5.heap[g]? = some (.cells #[lv, .int .i64 n] 55 (0, 0))) := ⟨blk_below (pxp GB) hb⟩; have nVB_ : Aside0 (w5.heap[gv]? = some (.cells #[.int .i64 v.f0, .int .i64 v.f1, .string v.f2] 61 (0, 0))) := ⟨blk_below (pxp VB) hb⟩; clear HB GB VB; have HB := n0_; clear n0_; have GB := nGB_; clear nGB_; have VB := nVB_; clear nVB_; clear hb; obtain ⟨xGB0, xGB1, yGB0, yGB1⟩ := pxf2 GB; obtain ⟨xVB0, xVB1, xVB2, yVB0, yVB1, yVB2⟩ := pxf3 VB))
  go_ret2
  exact ⟨rfl, pxb HB⟩
set_option maxHeartbeats 16000000 in
set_option maxRecDepth 100000 in
theorem class_obj {g B : Nat} {O : Nat → Prop} {cs : List S105} {n : Int} {b c0 : Nat} (v : S61) (w : World) (h : HP g B O (.slice (some ⟨b, 0, none⟩) cs.length c0) cs n w) (hn : isAt cs v) (hb2 : (rd_T105 cs v.f1).f2 = false) :
    Calls Try.prog 33 #[.pointer (some ⟨g, 0, none⟩), vV v] w fun e w' => e = .returned (.tuple #[.string (rd_T105 cs v.f1).f0, .bool true]) ∧ Below w.heap.size w w' := by
  have HB := Aside0.mk (Below.refl w.heap.size w)
  have HH := Aside0.mk h
  have GB := Aside0.mk h.bk
  obtain ⟨xGB0, xGB1, yGB0, yGB1⟩ := pxf2 GB
  clear h
  have HN := Aside0.mk hn
  clear hn
  have tok_f : True := trivial
  go_enter Try.func33, Try.ntmps33
  go_wp2_with (first | ((with_reducible refine gate_dst (N := 3) rfl ?_); refine box_event ?hg (N := 3) ?hd (cs := #[.int .i64 v.f0, .int .i64 v.f1, .string v.f2]) (t := 61) ?hr ?_; (case hd => rfl); (case hg => rfl); (case hr => first | (go_simp; done) | (go_simp; rfl)); intro gv hg w1 hbox hb; have NWVB := Aside0.mk hbox; have GWVB := Aside0.mk ((by rw [hg]; exact (below_size (pxb HB)) : w.heap.size ≤ gv)); have NEGBVB := Aside0.mk (show g ≠ gv by rw [hg]; exact Nat.ne_of_lt (blk_lt (pxp (o := .cells #[.slice (some ⟨b, 0, none⟩) cs.length c0, .int .i64 n] 55 (0, 0)) GB))); have NEVBGB := Aside0.mk (Ne.symm NEGBVB.out); have eGBVB := NEGBVB.out; have eVBGB := NEVBGB.out; clear hg hbox; have n0_ := pxs HB hb; have nGB_ : Aside0 (w1.heap[g]? = some (.cells #[.slice (some ⟨b, 0, none⟩) cs.length c0, .int .i64 n] 55 (0, 0))) := ⟨blk_below (pxp GB) hb⟩; clear HB GB; have HB := n0_; clear n0_; have GB := nGB_; clear nGB_; have VB := NWVB; clear NWVB hb; obtain ⟨xGB0, xGB1, yGB0, yGB1⟩ := pxf2 GB; obtain ⟨xVB0, xVB1, xVB2, yVB0, yVB1, yVB2⟩ := pxf3 VB) | (clear tok_f; go_at_call 54; (with_reducible refine (find_yes v _ (HH.out.below (pxb HB)) HN.out.1 HN.out.2.1 HN.out.2.2).mono ?_); rintro e w5 ⟨rfl, hb⟩; have n0_ := pxs HB hb; have nGB_ : Aside0 (w5.heap[g]? = some (.cells #[.slice (some ⟨b, 0, none⟩) cs.length c0, .int .i64 n] 55 (0, 0))) := ⟨blk_below (pxp GB) hb⟩; have nVB_ : Aside0 (w5.heap[gv]? = some (.cells #[.int .i64 v.f0, .int .i64 v.f1, .string v.f2] 61 (0, 0))) := ⟨blk_below (pxp VB) hb⟩; clear HB GB VB; have HB := n0_; clear n0_; have GB := nGB_; clear nGB_; have VB := nVB_; clear nVB_; clear hb; obtain ⟨xGB0, xGB1, yGB0, yGB1⟩ := pxf2 GB; obtain ⟨xVB0, xVB1, xVB2, yVB0, yVB1, yVB2⟩ := pxf3 VB; have HC5 := Aside0.mk (HH.out.below (pxb HB)).form; obtain ⟨A6, c6, s0, s1, s2, s3, s4, s5, s6, s7, s8⟩ := cell_at (CF HC5.out) v.f1 HN.out.2.1 HN.out.2.2; clear HC5; rw [hb2] at s5))
  go_ret2
  exact ⟨rfl, pxb HB⟩
set_option maxHeartbeats 16000000 in
set_option maxRecDepth 100000 in
theorem class_arr {g B : Nat} {O : Nat → Prop} {cs : List S105} {n : Int} {b c0 : Nat} (v : S61) (w : World) (h : HP g B O (.slice (some ⟨b, 0, none⟩) cs.length c0) cs n w) (hn : isAt cs v) (hb2 : (rd_T105 cs v.f1).f2 = true) :
    Calls Try.prog 33 #[.pointer (some ⟨g, 0, none⟩), vV v] w fun e w' => e = .returned (.tuple #[.string ⟨#[]⟩, .bool false]) ∧ Below w.heap.size w w' := by
  have HB := Aside0.mk (Below.refl w.heap.size w)
  have HH := Aside0.mk h
  have GB := Aside0.mk h.bk
  obtain ⟨xGB0, xGB1, yGB0, yGB1⟩ := pxf2 GB
  clear h
  have HN := Aside0.mk hn
  clear hn
  have tok_f : True := trivial
  go_enter Try.func33, Try.ntmps33
  go_wp2_with (first | ((with_reducible refine gate_dst (N := 3) rfl ?_); refine box_event ?hg (N := 3) ?hd (cs := #[.int .i64 v.f0, .int .i64 v.f1, .string v.f2]) (t := 61) ?hr ?_; (case hd => rfl); (case hg => rfl); (case hr => first | (go_simp; done) | (go_simp; rfl)); intro gv hg w1 hbox hb; have NWVB := Aside0.mk hbox; have GWVB := Aside0.mk ((by rw [hg]; exact (below_size (pxb HB)) : w.heap.size ≤ gv)); have NEGBVB := Aside0.mk (show g ≠ gv by rw [hg]; exact Nat.ne_of_lt (blk_lt (pxp (o := .cells #[.slice (some ⟨b, 0, none⟩) cs.length c0, .int .i64 n] 55 (0, 0)) GB))); have NEVBGB := Aside0.mk (Ne.symm NEGBVB.out); have eGBVB := NEGBVB.out; have eVBGB := NEVBGB.out; clear hg hbox; have n0_ := pxs HB hb; have nGB_ : Aside0 (w1.heap[g]? = some (.cells #[.slice (some ⟨b, 0, none⟩) cs.length c0, .int .i64 n] 55 (0, 0))) := ⟨blk_below (pxp GB) hb⟩; clear HB GB; have HB := n0_; clear n0_; have GB := nGB_; clear nGB_; have VB := NWVB; clear NWVB hb; obtain ⟨xGB0, xGB1, yGB0, yGB1⟩ := pxf2 GB; obtain ⟨xVB0, xVB1, xVB2, yVB0, yVB1, yVB2⟩ := pxf3 VB) | (clear tok_f; go_at_call 54; (with_reducible refine (find_yes v _ (HH.out.below (pxb HB)) HN.out.1 HN.out.2.1 HN.out.2.2).mono ?_); rintro e w5 ⟨rfl, hb⟩; have n0_ := pxs HB hb; have nGB_ : Aside0 (w5.heap[g]? = some (.cells #[.slice (some ⟨b, 0, none⟩) cs.length c0, .int .i64 n] 55 (0, 0))) := ⟨blk_below (pxp GB) hb⟩; have nVB_ : Aside0 (w5.heap[gv]? = some (.cells #[.int .i64 v.f0, .int .i64 v.f1, .string v.f2] 61 (0, 0))) := ⟨blk_below (pxp VB) hb⟩; clear HB GB VB; have HB := n0_; clear n0_; have GB := nGB_; clear nGB_; have VB := nVB_; clear nVB_; clear hb; obtain ⟨xGB0, xGB1, yGB0, yGB1⟩ := pxf2 GB; obtain ⟨xVB0, xVB1, xVB2, yVB0, yVB1, yVB2⟩ := pxf3 VB; have HC5 := Aside0.mk (HH.out.below (pxb HB)).form; obtain ⟨A6, c6, s0, s1, s2, s3, s4, s5, s6, s7, s8⟩ := cell_at (CF HC5.out) v.f1 HN.out.2.1 HN.out.2.2; clear HC5; rw [hb2] at s5))
  go_ret2
  exact ⟨rfl, pxb HB⟩
set_option maxHeartbeats 16000000 in
set_option maxRecDepth 100000 in
theorem elem_no {g B : Nat} {O : Nat → Prop} {cs : List S105} {n : Int} {lv : Value} (v : S61) (w : World) (h : HP g B O lv cs n w) (hn : v.f0 ≠ 5 ∨ v.f1 < 0 ∨ (cs.length : Int) ≤ v.f1) :
    Calls Try.prog 34 #[.pointer (some ⟨g, 0, none⟩), vV v] w fun e w' => e = .returned (.tuple #[.agg #[.int .i64 0, .string ⟨#[]⟩, .int .i64 0, .string ⟨#[]⟩], .bool false]) ∧ Below w.heap.size w w' := by
  have HB := Aside0.mk (Below.refl w.heap.size w)
  have HH := Aside0.mk h
  have GB := Aside0.mk h.bk
  obtain ⟨xGB0, xGB1, yGB0, yGB1⟩ := pxf2 GB
  clear h
  have HN := Aside0.mk hn
  clear hn
  have tok_f : True := trivial
  go_enter Try.func34, Try.ntmps34
  go_wp2_with (first | ((with_reducible refine gate_dst (N := 3) rfl ?_); refine box_event ?hg (N := 3) ?hd (cs := #[.int .i64 v.f0, .int .i64 v.f1, .string v.f2]) (t := 61) ?hr ?_; (case hd => rfl); (case hg => rfl); (case hr => first | (go_simp; done) | (go_simp; rfl)); intro gv hg w1 hbox hb; have NWVB := Aside0.mk hbox; have GWVB := Aside0.mk ((by rw [hg]; exact (below_size (pxb HB)) : w.heap.size ≤ gv)); have NEGBVB := Aside0.mk (show g ≠ gv by rw [hg]; exact Nat.ne_of_lt (blk_lt (pxp (o := .cells #[lv, .int .i64 n] 55 (0, 0)) GB))); have NEVBGB := Aside0.mk (Ne.symm NEGBVB.out); have eGBVB := NEGBVB.out; have eVBGB := NEVBGB.out; clear hg hbox; have n0_ := pxs HB hb; have nGB_ : Aside0 (w1.heap[g]? = some (.cells #[lv, .int .i64 n] 55 (0, 0))) := ⟨blk_below (pxp GB) hb⟩; clear HB GB; have HB := n0_; clear n0_; have GB := nGB_; clear nGB_; have VB := NWVB; clear NWVB hb; obtain ⟨xGB0, xGB1, yGB0, yGB1⟩ := pxf2 GB; obtain ⟨xVB0, xVB1, xVB2, yVB0, yVB1, yVB2⟩ := pxf3 VB) | ((with_reducible refine gate_dst (N := 4) rfl ?_); refine box_event ?hg (N := 4) ?hd (cs := #[.int .i64 0, .string ⟨#[]⟩, .int .i64 0, .string ⟨#[]⟩]) (t := 59) ?hr ?_; (case hd => rfl); (case hg => rfl); (case hr => first | (go_simp; done) | (go_simp; rfl)); intro gr hg w2 hbox hb; have NWRB := Aside0.mk hbox; have GWRB := Aside0.mk ((by rw [hg]; exact (below_size (pxb HB)) : w.heap.size ≤ gr)); have NEGBRB := Aside0.mk (show g ≠ gr by rw [hg]; exact Nat.ne_of_lt (blk_lt (pxp (o := .cells #[lv, .int .i64 n] 55 (0, 0)) GB))); have NERBGB := Aside0.mk (Ne.symm NEGBRB.out); have eGBRB := NEGBRB.out; have eRBGB := NERBGB.out; have NEVBRB := Aside0.mk (show gv ≠ gr by rw [hg]; exact Nat.ne_of_lt (blk_lt (pxp (o := .cells #[.int .i64 v.f0, .int .i64 v.f1, .string v.f2] 61 (0, 0)) VB))); have NERBVB := Aside0.mk (Ne.symm NEVBRB.out); have eVBRB := NEVBRB.out; have eRBVB := NERBVB.out; clear hg hbox; have n0_ := pxs HB hb; have nGB_ : Aside0 (w2.heap[g]? = some (.cells #[lv, .int .i64 n] 55 (0, 0))) := ⟨blk_below (pxp GB) hb⟩; have nVB_ : Aside0 (w2.heap[gv]? = some (.cells #[.int .i64 v.f0, .int .i64 v.f1, .string v.f2] 61 (0, 0))) := ⟨blk_below (pxp VB) hb⟩; clear HB GB VB; have HB := n0_; clear n0_; have GB := nGB_; clear nGB_; have VB := nVB_; clear nVB_; have RB := NWRB; clear NWRB hb; obtain ⟨xGB0, xGB1, yGB0, yGB1⟩ := pxf2 GB; obtain ⟨xVB0, xVB1, xVB2, yVB0, yVB1, yVB2⟩ := pxf3 VB; obtain ⟨xRB0, xRB1, xRB2, xRB3, yRB0, yRB1, yRB2, yRB3⟩ := pxf4 RB) | (clear tok_f; go_at_call 54; (with_reducible refine (find_no v _ (HH.out.below (pxb HB)) HN.out).mono ?_); rintro e w5 ⟨rfl, hb⟩; have n0_ := pxs HB hb; have nGB_ : Aside0 (w5.heap[g]? = some (.cells #[lv, .int .i64 n] 55 (0, 0))) := ⟨blk_below (pxp GB) hb⟩; have nVB_ : Aside0 (w5.heap[gv]? = some (.cells #[.int .i64 v.f0, .int .i64 v.f1, .string v.f2] 61 (0, 0))) := ⟨blk_below (pxp VB) hb⟩; have nRB_ : Aside0 (w5.heap[gr]? = some (.cells #[.int .i64 0, .string ⟨#[]⟩, .int .i64 0, .string ⟨#[]⟩] 59 (0, 0))) := ⟨blk_below (pxp RB) hb⟩; clear HB GB VB RB; have HB := n0_; clear n0_; have GB := nGB_; clear nGB_; have VB := nVB_; clear nVB_; have RB := nRB_; clear nRB_; clear hb; obtain ⟨xGB0, xGB1, yGB0, yGB1⟩ := pxf2 GB; obtain ⟨xVB0, xVB1, xVB2, yVB0, yVB1, yVB2⟩ := pxf3 VB; obtain ⟨xRB0, xRB1, xRB2, xRB3, yRB0, yRB1, yRB2, yRB3⟩ := pxf4 RB))
  have hgr := GWRB.out
  refine bodyPost_ret (results_ct rfl _ _ gr 59 #[.int .i64 0, .string ⟨#[]⟩, .int .i64 0, .string ⟨#[]⟩] (0, 0) _ rfl (pxp RB) Try.underlying59 rfl (by kernel_rfl)) rfl ?_
  exact ⟨rfl, pxb HB⟩
set_option maxHeartbeats 16000000 in
set_option maxRecDepth 100000 in
theorem elem_arr {g B : Nat} {O : Nat → Prop} {cs : List S105} {n : Int} {b c0 : Nat} (v : S61) (w : World) (h : HP g B O (.slice (some ⟨b, 0, none⟩) cs.length c0) cs n w) (hn : isAt cs v) (hb2 : (rd_T105 cs v.f1).f2 = true) :
    Calls Try.prog 34 #[.pointer (some ⟨g, 0, none⟩), vV v] w fun e w' => e = .returned (.tuple #[.agg #[.int .i64 (rd_T105 cs v.f1).f1.f0, .string (rd_T105 cs v.f1).f1.f1, .int .i64 (rd_T105 cs v.f1).f1.f2, .string (rd_T105 cs v.f1).f1.f3], .bool true]) ∧ Below w.heap.size w w' := by
  have HB := Aside0.mk (Below.refl w.heap.size w)
  have HH := Aside0.mk h
  have GB := Aside0.mk h.bk
  obtain ⟨xGB0, xGB1, yGB0, yGB1⟩ := pxf2 GB
  clear h
  have HN := Aside0.mk hn
  clear hn
  have tok_f : True := trivial
  go_enter Try.func34, Try.ntmps34
  go_wp2_with (first | ((with_reducible refine gate_dst (N := 3) rfl ?_); refine box_event ?hg (N := 3) ?hd (cs := #[.int .i64 v.f0, .int .i64 v.f1, .string v.f2]) (t := 61) ?hr ?_; (case hd => rfl); (case hg => rfl); (case hr => first | (go_simp; done) | (go_simp; rfl)); intro gv hg w1 hbox hb; have NWVB := Aside0.mk hbox; have GWVB := Aside0.mk ((by rw [hg]; exact (below_size (pxb HB)) : w.heap.size ≤ gv)); have NEGBVB := Aside0.mk (show g ≠ gv by rw [hg]; exact Nat.ne_of_lt (blk_lt (pxp (o := .cells #[.slice (some ⟨b, 0, none⟩) cs.length c0, .int .i64 n] 55 (0, 0)) GB))); have NEVBGB := Aside0.mk (Ne.symm NEGBVB.out); have eGBVB := NEGBVB.out; have eVBGB := NEVBGB.out; clear hg hbox; have n0_ := pxs HB hb; have nGB_ : Aside0 (w1.heap[g]? = some (.cells #[.slice (some ⟨b, 0, none⟩) cs.length c0, .int .i64 n] 55 (0, 0))) := ⟨blk_below (pxp GB) hb⟩; clear HB GB; have HB := n0_; clear n0_; have GB := nGB_; clear nGB_; have VB := NWVB; clear NWVB hb; obtain ⟨xGB0, xGB1, yGB0, yGB1⟩ := pxf2 GB; obtain ⟨xVB0, xVB1, xVB2, yVB0, yVB1, yVB2⟩ := pxf3 VB) | ((with_reducible refine gate_dst (N := 4) rfl ?_); refine box_event ?hg (N := 4) ?hd (cs := #[.int .i64 0, .string ⟨#[]⟩, .int .i64 0, .string ⟨#[]⟩]) (t := 59) ?hr ?_; (case hd => rfl); (case hg => rfl); (case hr => first | (go_simp; done) | (go_simp; rfl)); intro gr hg w2 hbox hb; have NWRB := Aside0.mk hbox; have GWRB := Aside0.mk ((by rw [hg]; exact (below_size (pxb HB)) : w.heap.size ≤ gr)); have NEGBRB := Aside0.mk (show g ≠ gr by rw [hg]; exact Nat.ne_of_lt (blk_lt (pxp (o := .cells #[.slice (some ⟨b, 0, none⟩) cs.length c0, .int .i64 n] 55 (0, 0)) GB))); have NERBGB := Aside0.mk (Ne.symm NEGBRB.out); have eGBRB := NEGBRB.out; have eRBGB := NERBGB.out; have NEVBRB := Aside0.mk (show gv ≠ gr by rw [hg]; exact Nat.ne_of_lt (blk_lt (pxp (o := .cells #[.int .i64 v.f0, .int .i64 v.f1, .string v.f2] 61 (0, 0)) VB))); have NERBVB := Aside0.mk (Ne.symm NEVBRB.out); have eVBRB := NEVBRB.out; have eRBVB := NERBVB.out; clear hg hbox; have n0_ := pxs HB hb; have nGB_ : Aside0 (w2.heap[g]? = some (.cells #[.slice (some ⟨b, 0, none⟩) cs.length c0, .int .i64 n] 55 (0, 0))) := ⟨blk_below (pxp GB) hb⟩; have nVB_ : Aside0 (w2.heap[gv]? = some (.cells #[.int .i64 v.f0, .int .i64 v.f1, .string v.f2] 61 (0, 0))) := ⟨blk_below (pxp VB) hb⟩; clear HB GB VB; have HB := n0_; clear n0_; have GB := nGB_; clear nGB_; have VB := nVB_; clear nVB_; have RB := NWRB; clear NWRB hb; obtain ⟨xGB0, xGB1, yGB0, yGB1⟩ := pxf2 GB; obtain ⟨xVB0, xVB1, xVB2, yVB0, yVB1, yVB2⟩ := pxf3 VB; obtain ⟨xRB0, xRB1, xRB2, xRB3, yRB0, yRB1, yRB2, yRB3⟩ := pxf4 RB) | (clear tok_f; go_at_call 54; (with_reducible refine (find_yes v _ (HH.out.below (pxb HB)) HN.out.1 HN.out.2.1 HN.out.2.2).mono ?_); rintro e w5 ⟨rfl, hb⟩; have n0_ := pxs HB hb; have nGB_ : Aside0 (w5.heap[g]? = some (.cells #[.slice (some ⟨b, 0, none⟩) cs.length c0, .int .i64 n] 55 (0, 0))) := ⟨blk_below (pxp GB) hb⟩; have nVB_ : Aside0 (w5.heap[gv]? = some (.cells #[.int .i64 v.f0, .int .i64 v.f1, .string v.f2] 61 (0, 0))) := ⟨blk_below (pxp VB) hb⟩; have nRB_ : Aside0 (w5.heap[gr]? = some (.cells #[.int .i64 0, .string ⟨#[]⟩, .int .i64 0, .string ⟨#[]⟩] 59 (0, 0))) := ⟨blk_below (pxp RB) hb⟩; clear HB GB VB RB; have HB := n0_; clear n0_; have GB := nGB_; clear nGB_; have VB := nVB_; clear nVB_; have RB := nRB_; clear nRB_; clear hb; obtain ⟨xGB0, xGB1, yGB0, yGB1⟩ := pxf2 GB; obtain ⟨xVB0, xVB1, xVB2, yVB0, yVB1, yVB2⟩ := pxf3 VB; obtain ⟨xRB0, xRB1, xRB2, xRB3, yRB0, yRB1, yRB2, yRB3⟩ := pxf4 RB; have HC5 := Aside0.mk (HH.out.below (pxb HB)).form; obtain ⟨A6, c6, s0, s1, s2, s3, s4, s5, s6, s7, s8⟩ := cell_at (CF HC5.out) v.f1 HN.out.2.1 HN.out.2.2; clear HC5; rw [hb2] at s5))
  have hgr := GWRB.out
  refine bodyPost_ret (results_ct rfl _ _ gr 59 #[.int .i64 (rd_T105 cs v.f1).f1.f0, .string (rd_T105 cs v.f1).f1.f1, .int .i64 (rd_T105 cs v.f1).f1.f2, .string (rd_T105 cs v.f1).f1.f3] (0, 0) _ rfl (pxp RB) Try.underlying59 rfl (by kernel_rfl)) rfl ?_
  exact ⟨rfl, pxb HB⟩
set_option maxHeartbeats 16000000 in
set_option maxRecDepth 100000 in
theorem elem_obj {g B : Nat} {O : Nat → Prop} {cs : List S105} {n : Int} {b c0 : Nat} (v : S61) (w : World) (h : HP g B O (.slice (some ⟨b, 0, none⟩) cs.length c0) cs n w) (hn : isAt cs v) (hb2 : (rd_T105 cs v.f1).f2 = false) :
    Calls Try.prog 34 #[.pointer (some ⟨g, 0, none⟩), vV v] w fun e w' => e = .returned (.tuple #[.agg #[.int .i64 0, .string ⟨#[]⟩, .int .i64 0, .string ⟨#[]⟩], .bool false]) ∧ Below w.heap.size w w' := by
  have HB := Aside0.mk (Below.refl w.heap.size w)
  have HH := Aside0.mk h
  have GB := Aside0.mk h.bk
  obtain ⟨xGB0, xGB1, yGB0, yGB1⟩ := pxf2 GB
  clear h
  have HN := Aside0.mk hn
  clear hn
  have tok_f : True := trivial
  go_enter Try.func34, Try.ntmps34
  go_wp2_with (first | ((with_reducible refine gate_dst (N := 3) rfl ?_); refine box_event ?hg (N := 3) ?hd (cs := #[.int .i64 v.f0, .int .i64 v.f1, .string v.f2]) (t := 61) ?hr ?_; (case hd => rfl); (case hg => rfl); (case hr => first | (go_simp; done) | (go_simp; rfl)); intro gv hg w1 hbox hb; have NWVB := Aside0.mk hbox; have GWVB := Aside0.mk ((by rw [hg]; exact (below_size (pxb HB)) : w.heap.size ≤ gv)); have NEGBVB := Aside0.mk (show g ≠ gv by rw [hg]; exact Nat.ne_of_lt (blk_lt (pxp (o := .cells #[.slice (some ⟨b, 0, none⟩) cs.length c0, .int .i64 n] 55 (0, 0)) GB))); have NEVBGB := Aside0.mk (Ne.symm NEGBVB.out); have eGBVB := NEGBVB.out; have eVBGB := NEVBGB.out; clear hg hbox; have n0_ := pxs HB hb; have nGB_ : Aside0 (w1.heap[g]? = some (.cells #[.slice (some ⟨b, 0, none⟩) cs.length c0, .int .i64 n] 55 (0, 0))) := ⟨blk_below (pxp GB) hb⟩; clear HB GB; have HB := n0_; clear n0_; have GB := nGB_; clear nGB_; have VB := NWVB; clear NWVB hb; obtain ⟨xGB0, xGB1, yGB0, yGB1⟩ := pxf2 GB; obtain ⟨xVB0, xVB1, xVB2, yVB0, yVB1, yVB2⟩ := pxf3 VB) | ((with_reducible refine gate_dst (N := 4) rfl ?_); refine box_event ?hg (N := 4) ?hd (cs := #[.int .i64 0, .string ⟨#[]⟩, .int .i64 0, .string ⟨#[]⟩]) (t := 59) ?hr ?_; (case hd => rfl); (case hg => rfl); (case hr => first | (go_simp; done) | (go_simp; rfl)); intro gr hg w2 hbox hb; have NWRB := Aside0.mk hbox; have GWRB := Aside0.mk ((by rw [hg]; exact (below_size (pxb HB)) : w.heap.size ≤ gr)); have NEGBRB := Aside0.mk (show g ≠ gr by rw [hg]; exact Nat.ne_of_lt (blk_lt (pxp (o := .cells #[.slice (some ⟨b, 0, none⟩) cs.length c0, .int .i64 n] 55 (0, 0)) GB))); have NERBGB := Aside0.mk (Ne.symm NEGBRB.out); have eGBRB := NEGBRB.out; have eRBGB := NERBGB.out; have NEVBRB := Aside0.mk (show gv ≠ gr by rw [hg]; exact Nat.ne_of_lt (blk_lt (pxp (o := .cells #[.int .i64 v.f0, .int .i64 v.f1, .string v.f2] 61 (0, 0)) VB))); have NERBVB := Aside0.mk (Ne.symm NEVBRB.out); have eVBRB := NEVBRB.out; have eRBVB := NERBVB.out; clear hg hbox; have n0_ := pxs HB hb; have nGB_ : Aside0 (w2.heap[g]? = some (.cells #[.slice (some ⟨b, 0, none⟩) cs.length c0, .int .i64 n] 55 (0, 0))) := ⟨blk_below (pxp GB) hb⟩; have nVB_ : Aside0 (w2.heap[gv]? = some (.cells #[.int .i64 v.f0, .int .i64 v.f1, .string v.f2] 61 (0, 0))) := ⟨blk_below (pxp VB) hb⟩; clear HB GB VB; have HB := n0_; clear n0_; have GB := nGB_; clear nGB_; have VB := nVB_; clear nVB_; have RB := NWRB; clear NWRB hb; obtain ⟨xGB0, xGB1, yGB0, yGB1⟩ := pxf2 GB; obtain ⟨xVB0, xVB1, xVB2, yVB0, yVB1, yVB2⟩ := pxf3 VB; obtain ⟨xRB0, xRB1, xRB2, xRB3, yRB0, yRB1, yRB2, yRB3⟩ := pxf4 RB) | (clear tok_f; go_at_call 54; (with_reducible refine (find_yes v _ (HH.out.below (pxb HB)) HN.out.1 HN.out.2.1 HN.out.2.2).mono ?_); rintro e w5 ⟨rfl, hb⟩; have n0_ := pxs HB hb; have nGB_ : Aside0 (w5.heap[g]? = some (.cells #[.slice (some ⟨b, 0, none⟩) cs.length c0, .int .i64 n] 55 (0, 0))) := ⟨blk_below (pxp GB) hb⟩; have nVB_ : Aside0 (w5.heap[gv]? = some (.cells #[.int .i64 v.f0, .int .i64 v.f1, .string v.f2] 61 (0, 0))) := ⟨blk_below (pxp VB) hb⟩; have nRB_ : Aside0 (w5.heap[gr]? = some (.cells #[.int .i64 0, .string ⟨#[]⟩, .int .i64 0, .string ⟨#[]⟩] 59 (0, 0))) := ⟨blk_below (pxp RB) hb⟩; clear HB GB VB RB; have HB := n0_; clear n0_; have GB := nGB_; clear nGB_; have VB := nVB_; clear nVB_; have RB := nRB_; clear nRB_; clear hb; obtain ⟨xGB0, xGB1, yGB0, yGB1⟩ := pxf2 GB; obtain ⟨xVB0, xVB1, xVB2, yVB0, yVB1, yVB2⟩ := pxf3 VB; obtain ⟨xRB0, xRB1, xRB2, xRB3, yRB0, yRB1, yRB2, yRB3⟩ := pxf4 RB; have HC5 := Aside0.mk (HH.out.below (pxb HB)).form; obtain ⟨A6, c6, s0, s1, s2, s3, s4, s5, s6, s7, s8⟩ := cell_at (CF HC5.out) v.f1 HN.out.2.1 HN.out.2.2; clear HC5; rw [hb2] at s5))
  have hgr := GWRB.out
  refine bodyPost_ret (results_ct rfl _ _ gr 59 #[.int .i64 0, .string ⟨#[]⟩, .int .i64 0, .string ⟨#[]⟩] (0, 0) _ rfl (pxp RB) Try.underlying59 rfl (by kernel_rfl)) rfl ?_
  exact ⟨rfl, pxb HB⟩
end Go.Proofs.Ytefgfnhhoidbdaa.HpW
