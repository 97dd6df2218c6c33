/- build: a graph of what is handed in, and its edges as the document has them. -/
import Derived.Test.YtefgfnhhoidbdaaGraphW10
namespace Go.Proofs.Ytefgfnhhoidbdaa.GrW
open Go.RowKit Go.Proofs.YtefgfnhhoidbdaaW.PrintWords Go.Proofs.YtefgfnhhoidbdaaW.PrintLast Go.Proofs.Ytefgfnhhoidbdaa.X Go.Proofs.Ytefgfnhhoidbdaa.Gr
set_option linter.unusedVariables false
set_option linter.unusedSimpArgs false
theorem pxg {B : Nat} {O : Nat → Prop} {w W0 W W' : World} (hgr : Grew B O W W') (h : Aside0 (Below w.heap.size w W0)) (hs : LB w W0 W := by (with_reducible repeat (first | exact LB.refl _ _ | refine LB.drewN ?_ _ | refine LB.drew ?_ | refine LB.alloc ?_ _ | refine LB.set ?_ (by assumption)))) : Below w.heap.size w W := hs h.out
def to41 (x : S29) : S41 := ⟨x.f0, x.f1, x.f2, x.f3⟩
theorem inf41 : (Try.prog.info? 41).map (fun i => (i.zero, i.size, i.bytes)) = some (some (.agg #[(.int .i64 0), (.int .i64 0), (.int .i64 0), (.int .i64 0)]), 4, 32) := by kernel_rfl
set_option maxHeartbeats 16000000 in
set_option maxRecDepth 100000 in
theorem build_neg (nodes : Int) (A1 : Option Addr) (c1 : Nat) (l : List S29) (w : World) (h1 : nodes < 0) : Calls Try.prog 15 #[.int .i64 nodes, .slice A1 l.length c1] w fun e w' => e = .returned (.tuple #[.pointer none, .slice none 0 0, .bool false]) ∧ Below w.heap.size w w' := by
  have HB := Aside0.mk (Below.refl w.heap.size w)
  have k1 : decide (nodes < 0) = true := decide_eq_true h1
  clear h1
  go_enter Try.func15, Try.ntmps15
  go_wp2
  exact bodyPost_ret (v := .tuple #[.pointer none, .slice none 0 0, .bool false]) (by simp [results, Try.results15, go_sem]) rfl ⟨rfl, pxb HB⟩
set_option maxHeartbeats 16000000 in
set_option maxRecDepth 100000 in
theorem build_over (nodes : Int) (A1 : Option Addr) (c1 : Nat) (l : List S29) (w : World) (h1 : 60 < nodes) : Calls Try.prog 15 #[.int .i64 nodes, .slice A1 l.length c1] w fun e w' => e = .returned (.tuple #[.pointer none, .slice none 0 0, .bool false]) ∧ Below w.heap.size w w' := by
  have HB := Aside0.mk (Below.refl w.heap.size w)
  have k1 : decide (nodes < 0) = false := decide_eq_false (by omega)
  have k2 : decide (60 < nodes) = true := decide_eq_true h1
  clear h1
  go_enter Try.func15, Try.ntmps15
  go_wp2
  exact bodyPost_ret (v := .tuple #[.pointer none, .slice none 0 0, .bool false]) (by simp [results, Try.results15, go_sem]) rfl ⟨rfl, pxb HB⟩
set_option maxHeartbeats 16000000 in
set_option maxRecDepth 100000 in
theorem build_long (nodes : Int) (A1 : Option Addr) (c1 : Nat) (l : List S29) (w : World) (h1 : 0 ≤ nodes) (h2 : nodes ≤ 60) (h3 : 150 < l.length) : Calls Try.prog 15 #[.int .i64 nodes, .slice A1 l.length c1] w fun e w' => e = .returned (.tuple #[.pointer none, .slice none 0 0, .bool false]) ∧ Below w.heap.size w w' := by
  have HB := Aside0.mk (Below.refl w.heap.size w)
  have k1 : decide (nodes < 0) = false := decide_eq_false (by omega)
  have k2 : decide (60 < nodes) = false := decide_eq_false (by omega)
  have k3 : decide ((150 : Int) < (l.length : Int)) = true := decide_eq_true (by omega)
  have k3' : decide (150 < l.length) = true := decide_eq_true h3
  clear h1 h2 h3
  go_enter Try.func15, Try.ntmps15
  go_wp2
  exact bodyPost_ret (v := .tuple #[.pointer none, .slice none 0 0, .bool false]) (by simp [results, Try.results15, go_sem]) rfl ⟨rfl, pxb HB⟩
set_option maxHeartbeats 16000000 in
set_option maxRecDepth 100000 in
theorem build_main (N : Nat) (A1 : Option Addr) (c1 : Nat) (l : List S29) (w : World) (h1 : l.length ≤ 150) (h2 : N ≤ 60) (hC : Kd.C k29 w A1 l.length l) : Calls Try.prog 15 #[.int .i64 (N : Int), .slice A1 l.length c1] w fun e w' => ∃ g es O ov, e = .returned (.tuple #[.pointer (some ⟨g, 0, none⟩), ov, .bool true]) ∧ G g w.heap.size N es O w' ∧ Kd.R k41 41 w' w.heap.size (fun k => ¬ O k) ov (es.map to41) ∧ es.length ≤ 150 ∧ Below w.heap.size w w' := by
  have HB := Aside0.mk (Below.refl w.heap.size w)
  have tok_2 : True := trivial
  have k1 : decide ((150 : Int) < (l.length : Int)) = false := decide_eq_false (by omega)
  have k1' : decide (150 < l.length) = false := decide_eq_false (by omega)
  have k2 : decide (60 < (N : Int)) = false := decide_eq_false (by omega)
  have k2' : decide (60 < N) = false := decide_eq_false (by omega)
  have k3 : decide ((N : Int) < 0) = false := decide_eq_false (by omega)
  have HH := Lib.hid (And.intro h1 h2)
  have HC := Aside0.mk hC
  clear h1 h2 hC
  go_enter Try.func15, Try.ntmps15
  go_wp2_with (first | (clear tok_2; go_at_call 11; (with_reducible refine (new_any N _ (by have := HH.out.2; omega)).mono ?_); rintro e w2 ⟨g, O, rfl, hg, hb⟩; have h1 := pxs HB hb; have HG := Aside0.mk (G.lower hg (below_size (pxb HB))); clear HB hb hg; have HB := h1; clear h1))
  go_loopg [9, 32] l.length (fun kq v9 v32 w' => ∃ (av : Value) (i : Nat) (es : List S29) (O : Nat → Prop), av = v9 ∧ v32 = .int .i64 i ∧ Hid (i ≤ l.length ∧ kq = l.length - i ∧ es.length ≤ i) ∧ Aside0 (G g w.heap.size N es O w') ∧ Aside0 (Kd.R k41 41 w' w.heap.size (fun k => ¬ O k) av (es.map to41)) ∧ Aside0 (Below w.heap.size w w'))
  case atStart => exact ⟨_, 0, [], O, rfl, rfl, ⟨Nat.zero_le _, rfl, Nat.le_refl _⟩, G.at0 HG, ⟨Kd.R_nil _ _ _ _ _⟩, ⟨pxb HB⟩⟩
  case round =>
    clear HG HB
    obtain ⟨av, i, es, O1, rfl, rfl, HI, HG, HO, HB⟩ := hrel
    by_cases hi : i < l.length
    · obtain ⟨adE, hadE, he0, he1, he2, he3⟩ := at_T29 HC.out (i : Int) (by omega) (by omega)
      subst hadE
      replace he0 := (HB.out.cell (World.block_lt_of_cell? w _ he0)).trans he0
      replace he1 := (HB.out.cell (World.block_lt_of_cell? w _ he1)).trans he1
      replace he2 := (HB.out.cell (World.block_lt_of_cell? w _ he2)).trans he2
      replace he3 := (HB.out.cell (World.block_lt_of_cell? w _ he3)).trans he3
      rw [show rd_T29 l (i : Int) = l.getD i z29 from rfl, Int.toNat_natCast] at he0 he1 he2 he3
      generalize l.getD i z29 = x at *
      have p3 : (0 ≤ (i : Int)) = True := eq_true (by omega)
      have p4 : ((i : Int) < (l.length : Int)) = True := eq_true (by omega)
      have p4' : (i < l.length) = True := eq_true (by omega)
      have k5 : decide (i < l.length) = true := decide_eq_true hi
      have k6 : decide ((i : Int) < (l.length : Int)) = true := decide_eq_true (by omega)
      have HLT := Lib.hid hi
      have tok_3 : True := trivial
      clear hi
      obtain ⟨wq, rfl⟩ : ∃ wq, wq = wr := ⟨_, rfl⟩
      have HB0 := HB
      clear HB
      have HB := Aside0.mk (Below.refl wq.heap.size wq)
      by_cases hr : x.f0 < -1 ∨ (N : Int) ≤ x.f0 ∨ x.f1 < 0 ∨ (N : Int) ≤ x.f1
      · have HRNG := Aside0.mk hr
        clear hr
        go_wp2_with (first | ((with_reducible refine gate_dst (N := 11) rfl ?_); refine box_event ?hg (N := 11) ?hd (cs := #[.int .i64 0, .int .i64 0, .int .i64 0, .int .i64 0]) (t := 29) ?hr ?_; (case hd => rfl); (case hg => rfl); (case hr => first | (go_simp; done) | (go_simp; rfl)); intro gx hg w3 hbox hb; have NWXB := Aside0.mk hbox; have GWXB := Aside0.mk ((by rw [hg]; exact (below_size (pxb HB)) : wq.heap.size ≤ gx)); clear hg hbox; have n0_ := pxs HB hb; clear HB ; have HB := n0_; clear n0_; have XB := NWXB; clear NWXB hb; obtain ⟨xXB0, xXB1, xXB2, xXB3, yXB0, yXB1, yXB2, yXB3⟩ := pxf4 XB) | (clear tok_3; go_at_call 12; (with_reducible refine Calls.mono (add_rng x _ (HG.out.below (pxb HB)) HRNG.out) ?_); rintro e w7 ⟨rfl, hb⟩; have h1 := pxs HB hb; clear HB hb; have HB := h1; clear h1))
        go_roundg (l.length - (i + 1))
        case measure => have := HI.out; have := HLT.out; omega
        case rel => exact ⟨_, i + 1, es, O1, rfl, by have := HLT.out; have := HH.out.1; rw [wrap_id (by omega) (by omega)]; rfl, ⟨by have := HLT.out; omega, rfl, by have := HI.out; omega⟩, ⟨HG.out.below (pxb HB)⟩, ⟨Kd.R_below HO.out (pxb HB)⟩, ⟨below_step HB0.out (pxb HB)⟩⟩
      · have HRNG : Aside0 (-1 ≤ x.f0 ∧ x.f0 < (N : Int) ∧ 0 ≤ x.f1 ∧ x.f1 < (N : Int)) := ⟨by omega⟩
        by_cases hm : x ∈ es
        · have HM := Aside0.mk hm
          clear hr hm
          go_wp2_with (first | ((with_reducible refine gate_dst (N := 11) rfl ?_); refine box_event ?hg (N := 11) ?hd (cs := #[.int .i64 0, .int .i64 0, .int .i64 0, .int .i64 0]) (t := 29) ?hr ?_; (case hd => rfl); (case hg => rfl); (case hr => first | (go_simp; done) | (go_simp; rfl)); intro gx hg w3 hbox hb; have NWXB := Aside0.mk hbox; have GWXB := Aside0.mk ((by rw [hg]; exact (below_size (pxb HB)) : wq.heap.size ≤ gx)); clear hg hbox; have n0_ := pxs HB hb; clear HB ; have HB := n0_; clear n0_; have XB := NWXB; clear NWXB hb; obtain ⟨xXB0, xXB1, xXB2, xXB3, yXB0, yXB1, yXB2, yXB3⟩ := pxf4 XB) | (clear tok_3; go_at_call 12; (with_reducible refine Calls.mono (add_twice x _ (HG.out.below (pxb HB)) HRNG.out.1 HRNG.out.2.1 HRNG.out.2.2.1 HRNG.out.2.2.2 HM.out) ?_); rintro e w7 ⟨rfl, hb⟩; have h1 := pxs HB hb; clear HB hb; have HB := h1; clear h1))
          go_roundg (l.length - (i + 1))
          case measure => have := HI.out; have := HLT.out; omega
          case rel => exact ⟨_, i + 1, es, O1, rfl, by have := HLT.out; have := HH.out.1; rw [wrap_id (by omega) (by omega)]; rfl, ⟨by have := HLT.out; omega, rfl, by have := HI.out; omega⟩, ⟨HG.out.below (pxb HB)⟩, ⟨Kd.R_below HO.out (pxb HB)⟩, ⟨below_step HB0.out (pxb HB)⟩⟩
        · have HM := Aside0.mk hm
          clear hr hm
          go_wp2_with (first | ((with_reducible refine gate_dst (N := 11) rfl ?_); refine box_event ?hg (N := 11) ?hd (cs := #[.int .i64 0, .int .i64 0, .int .i64 0, .int .i64 0]) (t := 29) ?hr ?_; (case hd => rfl); (case hg => rfl); (case hr => first | (go_simp; done) | (go_simp; rfl)); intro gx hg w3 hbox hb; have NWXB := Aside0.mk hbox; have GWXB := Aside0.mk ((by rw [hg]; exact (below_size (pxb HB)) : wq.heap.size ≤ gx)); clear hg hbox; have n0_ := pxs HB hb; clear HB ; have HB := n0_; clear n0_; have XB := NWXB; clear NWXB hb; obtain ⟨xXB0, xXB1, xXB2, xXB3, yXB0, yXB1, yXB2, yXB3⟩ := pxf4 XB) | (clear tok_3; go_at_call 12; (with_reducible refine Calls.mono (add_ok x _ (HG.out.below (pxb HB)) HRNG.out.1 HRNG.out.2.1 HRNG.out.2.2.1 HRNG.out.2.2.2 HM.out (by have := HI.out.2.2; have := HI.out.1; have := HH.out.1; omega) (below_step HB0.out (pxb HB)).size) ?_); rintro e w7 ⟨rfl, O7, hg, hgr, hO'⟩; have hbq := pxg hgr HB; have hG7 := Aside0.mk hg; have hxb := (hgr.block gx (blk_lt (pxp (o := .cells #[.int .i64 x.f0, .int .i64 x.f1, .int .i64 x.f2, .int .i64 x.f3] 29 (0, 0)) XB)) (fun ho => by have := (HG.out.own_lt ho).2; have := GWXB.out; omega)).trans (pxp (o := .cells #[.int .i64 x.f0, .int .i64 x.f1, .int .i64 x.f2, .int .i64 x.f3] 29 (0, 0)) XB); have ho7 := Aside0.mk (Kd.R_mono (Kd.R_move (Kd.R_bound (Kd.R_below HO.out hbq)) (fun k' hk' => hgr.block k' hk'.2.2.1 hk'.1)) (fun k' hk' ho' => (hO' k' ho').elim hk'.1 (fun h => by have := hk'.2.2.1; omega))); have hB7 := Aside0.mk (Below.trans (below_step HB0.out hbq) hgr.below); clear XB xXB0 xXB1 xXB2 xXB3 yXB0 yXB1 yXB2 yXB3; have XB := Aside0.mk hxb; obtain ⟨xXB0, xXB1, xXB2, xXB3, yXB0, yXB1, yXB2, yXB3⟩ := pxf4 XB; clear hbq hg hgr hO' hxb HB) | ((with_reducible refine gate_builtin (b := .append) (xs := #[.tmp 40, .tmp 42]) rfl ?_); at_builtin; refine Kd.R_append k41 (w0 := w) w.heap.size rfl (.tmp 40) (.tmp 42) 35 41 (.agg #[.int .i64 0, .int .i64 0, .int .i64 0, .int .i64 0]) 32 rfl Try.underlying35 inf41 rfl (by decide) (by omega) av (es.map to41) (to41 x) [.int .i64 x.f0, .int .i64 x.f1, .int .i64 x.f2, .int .i64 x.f3] (fun k => ¬ O7 k) (fun _ => False) rfl (by first | (go_simp; done) | (go_simp; rfl)) ?aP (fun _ hk => hk.elim) ?aF ?aO ?aB ?aS ?aL ?_; (case aP => exact k41_mkM _ _ _ (to41 x)); (case aF => exact fun k' hk' ho' => by have := (hG7.out.own_lt ho').2; omega); (case aO => exact ho7.out); (case aB => exact hB7.out); (case aS => exact hB7.out.size); (case aL => rw [List.length_map]; have := HI.out.2.2; have := HI.out.1; have := HH.out.1; omega); intro v1 w8 ho hb hg hat; have hG8 := Aside0.mk (hG7.out.step (fun k' hk' => hg.block k' (hG7.out.own_lt hk').2 (fun e => ho7.out.1 k' e.symm hk'))); have hO8 := Aside0.mk ho; have hB8 := Aside0.mk hb; clear hG7 ho7 hB7 ho hb hg hat))
          go_roundg (l.length - (i + 1))
          case measure => have := HI.out; have := HLT.out; omega
          case rel => exact ⟨_, i + 1, es ++ [x], O7, rfl, by have := HLT.out; have := HH.out.1; rw [wrap_id (by omega) (by omega)]; rfl, ⟨by have := HLT.out; omega, rfl, by rw [List.length_append, List.length_singleton]; have := HI.out; omega⟩, G.at0 hG8, ⟨by rw [List.map_append]; exact pxr hO8⟩, ⟨pxb hB8⟩⟩
    · obtain rfl : l.length = i := by have := HI.out; omega
      have k5 : decide (l.length < l.length) = false := decide_eq_false (by omega)
      have k6 : decide ((l.length : Int) < (l.length : Int)) = false := decide_eq_false (by omega)
      clear hi
      go_wp2
      exact bodyPost_ret (v := .tuple #[.pointer (some ⟨g, 0, none⟩), av, .bool true]) (by simp [results, Try.results15, go_sem]) rfl ⟨g, es, O1, av, rfl, (G.at0 HG).out, pxr HO, by have := HI.out; have := HH.out.1; omega, pxb HB⟩
end Go.Proofs.Ytefgfnhhoidbdaa.GrW
