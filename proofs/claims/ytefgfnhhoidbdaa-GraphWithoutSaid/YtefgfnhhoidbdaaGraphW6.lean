/- Right: is a set of nodes one to which null comes rightly? -/
import Derived.Test.YtefgfnhhoidbdaaGraphW5
namespace Go.Proofs.Ytefgfnhhoidbdaa.GrW
open Go.RowKit Go.Proofs.YtefgfnhhoidbdaaW.PrintWords Go.Proofs.YtefgfnhhoidbdaaW.PrintLast Go.Proofs.Ytefgfnhhoidbdaa.X Go.Proofs.Ytefgfnhhoidbdaa.Gr
set_option linter.unusedVariables false
set_option linter.unusedSimpArgs false
theorem far4 {W : World} {ad : Addr} {k gx : Nat} {u v0 v1 v2 v3 : Value} (h : W.cell? (ad.add k) = some u) (hn : ad.block ≠ gx) : ((((W.setCell ⟨gx, 0, none⟩ v0).setCell ⟨gx, 1, none⟩ v1).setCell ⟨gx, 2, none⟩ v2).setCell ⟨gx, 3, none⟩ v3).cell? (ad.add k) = some u := by
  have hb : (ad.add k).block ≠ gx := by rw [add_block]; exact hn
  rw [cell_far hb, cell_far hb, cell_far hb, cell_far hb]
  exact h
def bG (l : List Bool) (i : Int) : Bool := l.getD i.toNat false
/-- An edge along which null would come to a node that isn't in the set. -/
def badE (set : List Bool) (e : S29) : Bool := (decide (e.f0 = -1) || bG set e.f0) && !bG set e.f1
def rightV (n : Nat) (es : List S29) (set : List Bool) : Bool := decide (set.length = n) && es.all fun e => !badE set e
set_option maxHeartbeats 8000000 in
set_option maxRecDepth 100000 in
theorem right_len {g B n : Nat} {es : List S29} {O : Nat → Prop} (A0 : Option Addr) (c0 : Nat) (set : List Bool) (w : World) (h : G g B n es O w) (hC : Kd.C Kd.bool w A0 set.length set) (hl : set.length ≠ n) : Calls Try.prog 18 #[.pointer (some ⟨g, 0, none⟩), .slice A0 set.length c0] w fun e w' => e = .returned (.bool (rightV n es set)) ∧ Below w.heap.size w w' := by
  obtain ⟨mb, cnt, A, c, f, hga, hO⟩ := h.edges
  have HB := Aside0.mk (Below.refl w.heap.size w)
  have GB := Aside0.mk hga.bk
  have HGA := Aside0.mk hga
  have HC := Aside0.mk hC
  obtain ⟨xGB0, xGB1, xGB2, yGB0, yGB1, yGB2⟩ := pxf3 GB
  have k1 : ((set.length : Int) != (n : Int)) = true := bne_iff_ne.2 (by omega)
  have hr : rightV n es set = false := by unfold rightV; rw [decide_eq_false hl, Bool.false_and]
  rw [hr]
  generalize set.length = L at *
  clear hl hga h hO hr hC HC
  go_enter Try.func18, Try.ntmps18
  go_wp2
  go_ret
  exact ⟨rfl, pxb HB⟩
set_option maxHeartbeats 8000000 in
set_option maxRecDepth 100000 in
theorem right_walk {g B n : Nat} {es : List S29} {O : Nat → Prop} (A0 : Option Addr) (c0 : Nat) (set : List Bool) (w : World) (h : G g B n es O w) (hC : Kd.C Kd.bool w A0 set.length set) (hl : set.length = n) : Calls Try.prog 18 #[.pointer (some ⟨g, 0, none⟩), .slice A0 set.length c0] w fun e w' => e = .returned (.bool (rightV n es set)) ∧ Below w.heap.size w w' := by
  obtain ⟨mb, cnt, A, c, f, hga, hO⟩ := h.edges
  have HB := Aside0.mk (Below.refl w.heap.size w)
  have GB := Aside0.mk hga.bk
  have HGA := Aside0.mk hga
  have HC := Aside0.mk hC
  obtain ⟨xGB0, xGB1, xGB2, yGB0, yGB1, yGB2⟩ := pxf3 GB
  have k1 : ((set.length : Int) != (n : Int)) = false := by rw [hl]; simp
  have HSL := Lib.hid hl
  clear hga h hO hC hl
  go_enter Try.func18, Try.ntmps18
  go_wp2
  go_loopg [19] es.length (fun kq v19 w' => ∃ i : Nat, v19 = .int .i64 i ∧ Hid (i ≤ es.length ∧ kq = es.length - i ∧ ∀ j, j < i → badE set (es.getD j z29) = false) ∧ Aside0 (Below w.heap.size w w'))
  case atStart => exact ⟨0, rfl, ⟨Nat.zero_le _, rfl, fun j hj => by omega⟩, ⟨pxb HB⟩⟩
  case round =>
    clear HB GB
    obtain ⟨i, rfl, HI, HB⟩ := hrel
    by_cases hi : i < es.length
    · have hv := HGA.out.val i hi
      unfold Fm Tm at hv
      obtain ⟨adE, hadE, he0, he1, he2, he3⟩ := at_T29 (Kd.R_reads' HGA.out.row).2.2 (i : Int) (by omega) (by omega)
      subst hadE
      replace he0 := (HB.out.cell (World.block_lt_of_cell? w _ he0)).trans he0
      replace he1 := (HB.out.cell (World.block_lt_of_cell? w _ he1)).trans he1
      replace he2 := (HB.out.cell (World.block_lt_of_cell? w _ he2)).trans he2
      replace he3 := (HB.out.cell (World.block_lt_of_cell? w _ he3)).trans he3
      rw [show rd_T29 es (i : Int) = es.getD i z29 from rfl, Int.toNat_natCast] at he0 he1 he2 he3
      have hbad : badE set (es.getD i z29) = ((decide ((es.getD i z29).f0 = -1) || bG set (es.getD i z29).f0) && !bG set (es.getD i z29).f1) := rfl
      have hall : badE set (es.getD i z29) = false → ∀ j, j < i + 1 → badE set (es.getD j z29) = false := fun h j hj => by
        by_cases e : j = i
        · subst e; exact h
        · exact HI.out.2.2 j (by omega)
      have hone : badE set (es.getD i z29) = true → rightV n es set = false := fun h => by
        unfold rightV
        rw [Bool.and_eq_false_iff]
        right
        rw [List.all_eq_false]
        exact ⟨es.getD i z29, by rw [List.getD_eq_getElem?_getD, List.getElem?_eq_getElem hi]; exact List.getElem_mem hi, by rw [h]; simp⟩
      generalize es.getD i z29 = e at *
      have hl := HSL.out
      have p3 : (0 ≤ (i : Int)) = True := eq_true (by omega)
      have p4 : ((i : Int) < (es.length : Int)) = True := eq_true (by omega)
      have p4' : (i < es.length) = True := eq_true (by omega)
      have k4 : decide (i < es.length) = true := decide_eq_true hi
      have k5 : decide ((i : Int) < (es.length : Int)) = true := decide_eq_true (by omega)
      have q0 : (0 ≤ e.f1) = True := eq_true (by omega)
      have q1 : (e.f1 < (set.length : Int)) = True := eq_true (by omega)
      have HLT := Lib.hid hi
      clear hi
      obtain ⟨adT, haT, xT⟩ := Kd.at_bool HC.out e.f1 (by omega) (by omega)
      cases haT
      rw [show rdOf false set e.f1 = bG set e.f1 from rfl] at xT
      have YT := Aside0.mk xT
      clear xT
      by_cases h0 : e.f0 = -1
      · have k6 : (e.f0 == -1) = true := beq_iff_eq.2 h0
        rw [decide_eq_true h0, Bool.true_or, Bool.true_and] at hbad
        clear h0
        cases hb1 : bG set e.f1
        · have YT := Aside0.mk (show w.cell? (adT.add e.f1.toNat) = some (.bool false) by rw [← hb1]; exact YT.out); rw [hb1] at hbad; clear hb1
          have HBAD := Aside0.mk (hone (by rw [hbad]; rfl))
          clear hone hall hbad hl
          go_wp2_with (first | ((with_reducible refine gate_dst (N := 6) rfl ?_); refine box_event ?hg (N := 6) ?hd (cs := #[.int .i64 0, .int .i64 0, .int .i64 0, .int .i64 0]) (t := 29) ?hr ?_; (case hd => rfl); (case hg => rfl); (case hr => first | (go_simp; done) | (go_simp; rfl)); intro gx hg w2 hbox hb; have NWXB := Aside0.mk hbox; have GWXB := Aside0.mk ((by rw [hg]; exact (below_size (pxb HB)) : w.heap.size ≤ gx)); clear hg hbox; have n0_ := pxs HB hb; clear HB ; have HB := n0_; clear n0_; have XB := NWXB; clear NWXB hb; obtain ⟨xXB0, xXB1, xXB2, xXB3, yXB0, yXB1, yXB2, yXB3⟩ := pxf4 XB; have xT := far4 (gx := gx) (v0 := .int .i64 e.f0) (v1 := .int .i64 e.f1) (v2 := .int .i64 e.f2) (v3 := .int .i64 e.f3) ((HB.out.cell (World.block_lt_of_cell? w _ YT.out)).trans YT.out) (pxo' YT.out GWXB)))
          go_ret
          refine ⟨?_, pxb HB⟩
          rw [HBAD.out]
          rfl
        · have YT := Aside0.mk (show w.cell? (adT.add e.f1.toNat) = some (.bool true) by rw [← hb1]; exact YT.out); rw [hb1] at hbad; clear hb1
          have HALL := Aside0.mk (hall (by rw [hbad]; rfl))
          clear hone hall hbad hl
          go_wp2_with (first | ((with_reducible refine gate_dst (N := 6) rfl ?_); refine box_event ?hg (N := 6) ?hd (cs := #[.int .i64 0, .int .i64 0, .int .i64 0, .int .i64 0]) (t := 29) ?hr ?_; (case hd => rfl); (case hg => rfl); (case hr => first | (go_simp; done) | (go_simp; rfl)); intro gx hg w2 hbox hb; have NWXB := Aside0.mk hbox; have GWXB := Aside0.mk ((by rw [hg]; exact (below_size (pxb HB)) : w.heap.size ≤ gx)); clear hg hbox; have n0_ := pxs HB hb; clear HB ; have HB := n0_; clear n0_; have XB := NWXB; clear NWXB hb; obtain ⟨xXB0, xXB1, xXB2, xXB3, yXB0, yXB1, yXB2, yXB3⟩ := pxf4 XB; have xT := far4 (gx := gx) (v0 := .int .i64 e.f0) (v1 := .int .i64 e.f1) (v2 := .int .i64 e.f2) (v3 := .int .i64 e.f3) ((HB.out.cell (World.block_lt_of_cell? w _ YT.out)).trans YT.out) (pxo' YT.out GWXB)))
          go_roundg (es.length - (i + 1))
          case measure => have := HI.out; have := HLT.out; omega
          case rel => exact ⟨i + 1, by have := HLT.out; have := HGA.out.m_le; rw [wrap_id (by omega) (by omega)]; rfl, ⟨by have := HLT.out; omega, rfl, HALL.out⟩, ⟨pxb HB⟩⟩
      · have k6 : (e.f0 == -1) = false := beq_eq_false_iff_ne.2 h0
        rw [decide_eq_false h0, Bool.false_or] at hbad
        have q2 : (0 ≤ e.f0) = True := eq_true (by omega)
        have q3 : (e.f0 < (set.length : Int)) = True := eq_true (by omega)
        obtain ⟨adF, haF, xF⟩ := Kd.at_bool HC.out e.f0 (by omega) (by omega)
        cases haF
        rw [show rdOf false set e.f0 = bG set e.f0 from rfl] at xF
        have YF := Aside0.mk xF
        clear xF
        clear h0
        cases hb0 : bG set e.f0
        · have YF := Aside0.mk (show w.cell? (adT.add e.f0.toNat) = some (.bool false) by rw [← hb0]; exact YF.out); rw [hb0] at hbad; clear hb0
          have HALL := Aside0.mk (hall (by rw [hbad]; rfl))
          clear hone hall hbad hl
          go_wp2_with (first | ((with_reducible refine gate_dst (N := 6) rfl ?_); refine box_event ?hg (N := 6) ?hd (cs := #[.int .i64 0, .int .i64 0, .int .i64 0, .int .i64 0]) (t := 29) ?hr ?_; (case hd => rfl); (case hg => rfl); (case hr => first | (go_simp; done) | (go_simp; rfl)); intro gx hg w2 hbox hb; have NWXB := Aside0.mk hbox; have GWXB := Aside0.mk ((by rw [hg]; exact (below_size (pxb HB)) : w.heap.size ≤ gx)); clear hg hbox; have n0_ := pxs HB hb; clear HB ; have HB := n0_; clear n0_; have XB := NWXB; clear NWXB hb; obtain ⟨xXB0, xXB1, xXB2, xXB3, yXB0, yXB1, yXB2, yXB3⟩ := pxf4 XB; have xF := far4 (gx := gx) (v0 := .int .i64 e.f0) (v1 := .int .i64 e.f1) (v2 := .int .i64 e.f2) (v3 := .int .i64 e.f3) ((HB.out.cell (World.block_lt_of_cell? w _ YF.out)).trans YF.out) (pxo' YF.out GWXB)))
          go_roundg (es.length - (i + 1))
          case measure => have := HI.out; have := HLT.out; omega
          case rel => exact ⟨i + 1, by have := HLT.out; have := HGA.out.m_le; rw [wrap_id (by omega) (by omega)]; rfl, ⟨by have := HLT.out; omega, rfl, HALL.out⟩, ⟨pxb HB⟩⟩
        · have YF := Aside0.mk (show w.cell? (adT.add e.f0.toNat) = some (.bool true) by rw [← hb0]; exact YF.out); rw [hb0] at hbad; clear hb0
          cases hb1 : bG set e.f1
          · have YT := Aside0.mk (show w.cell? (adT.add e.f1.toNat) = some (.bool false) by rw [← hb1]; exact YT.out); rw [hb1] at hbad; clear hb1
            have HBAD := Aside0.mk (hone (by rw [hbad]; rfl))
            clear hone hall hbad hl
            go_wp2_with (first | ((with_reducible refine gate_dst (N := 6) rfl ?_); refine box_event ?hg (N := 6) ?hd (cs := #[.int .i64 0, .int .i64 0, .int .i64 0, .int .i64 0]) (t := 29) ?hr ?_; (case hd => rfl); (case hg => rfl); (case hr => first | (go_simp; done) | (go_simp; rfl)); intro gx hg w2 hbox hb; have NWXB := Aside0.mk hbox; have GWXB := Aside0.mk ((by rw [hg]; exact (below_size (pxb HB)) : w.heap.size ≤ gx)); clear hg hbox; have n0_ := pxs HB hb; clear HB ; have HB := n0_; clear n0_; have XB := NWXB; clear NWXB hb; obtain ⟨xXB0, xXB1, xXB2, xXB3, yXB0, yXB1, yXB2, yXB3⟩ := pxf4 XB; have xF := far4 (gx := gx) (v0 := .int .i64 e.f0) (v1 := .int .i64 e.f1) (v2 := .int .i64 e.f2) (v3 := .int .i64 e.f3) ((HB.out.cell (World.block_lt_of_cell? w _ YF.out)).trans YF.out) (pxo' YF.out GWXB); have xT := far4 (gx := gx) (v0 := .int .i64 e.f0) (v1 := .int .i64 e.f1) (v2 := .int .i64 e.f2) (v3 := .int .i64 e.f3) ((HB.out.cell (World.block_lt_of_cell? w _ YT.out)).trans YT.out) (pxo' YT.out GWXB)))
            go_ret
            refine ⟨?_, pxb HB⟩
            rw [HBAD.out]
            rfl
          · have YT := Aside0.mk (show w.cell? (adT.add e.f1.toNat) = some (.bool true) by rw [← hb1]; exact YT.out); rw [hb1] at hbad; clear hb1
            have HALL := Aside0.mk (hall (by rw [hbad]; rfl))
            clear hone hall hbad hl
            go_wp2_with (first | ((with_reducible refine gate_dst (N := 6) rfl ?_); refine box_event ?hg (N := 6) ?hd (cs := #[.int .i64 0, .int .i64 0, .int .i64 0, .int .i64 0]) (t := 29) ?hr ?_; (case hd => rfl); (case hg => rfl); (case hr => first | (go_simp; done) | (go_simp; rfl)); intro gx hg w2 hbox hb; have NWXB := Aside0.mk hbox; have GWXB := Aside0.mk ((by rw [hg]; exact (below_size (pxb HB)) : w.heap.size ≤ gx)); clear hg hbox; have n0_ := pxs HB hb; clear HB ; have HB := n0_; clear n0_; have XB := NWXB; clear NWXB hb; obtain ⟨xXB0, xXB1, xXB2, xXB3, yXB0, yXB1, yXB2, yXB3⟩ := pxf4 XB; have xF := far4 (gx := gx) (v0 := .int .i64 e.f0) (v1 := .int .i64 e.f1) (v2 := .int .i64 e.f2) (v3 := .int .i64 e.f3) ((HB.out.cell (World.block_lt_of_cell? w _ YF.out)).trans YF.out) (pxo' YF.out GWXB); have xT := far4 (gx := gx) (v0 := .int .i64 e.f0) (v1 := .int .i64 e.f1) (v2 := .int .i64 e.f2) (v3 := .int .i64 e.f3) ((HB.out.cell (World.block_lt_of_cell? w _ YT.out)).trans YT.out) (pxo' YT.out GWXB)))
            go_roundg (es.length - (i + 1))
            case measure => have := HI.out; have := HLT.out; omega
            case rel => exact ⟨i + 1, by have := HLT.out; have := HGA.out.m_le; rw [wrap_id (by omega) (by omega)]; rfl, ⟨by have := HLT.out; omega, rfl, HALL.out⟩, ⟨pxb HB⟩⟩
    · obtain rfl : es.length = i := by have := HI.out; omega
      have k4 : decide (es.length < es.length) = false := decide_eq_false (by omega)
      have k5 : decide ((es.length : Int) < (es.length : Int)) = false := decide_eq_false (by omega)
      have hr : rightV n es set = true := by
        unfold rightV
        rw [Bool.and_eq_true, List.all_eq_true]
        refine ⟨decide_eq_true HSL.out, fun e he => ?_⟩
        obtain ⟨j, hj, rfl⟩ := List.getElem_of_mem he
        have := HI.out.2.2 j hj
        rw [List.getD_eq_getElem?_getD, List.getElem?_eq_getElem hj, Option.getD_some] at this
        rw [this]
        rfl
      have HR := Aside0.mk hr
      clear hr
      go_wp2
      go_ret
      refine ⟨?_, HB.out⟩
      rw [HR.out]
      rfl
end Go.Proofs.Ytefgfnhhoidbdaa.GrW
