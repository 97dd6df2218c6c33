/- Add: an edge more, or why not. -/
import Derived.Test.YtefgfnhhoidbdaaGraphW1
import Derived.Test.YtefgfnhhoidbdaaX39
import Derived.Test.YtefgfnhhoidbdaaEvKit
namespace Go.Proofs.Ytefgfnhhoidbdaa.GrW
open Go.RowKit Go.Proofs.YtefgfnhhoidbdaaW.PrintWords Go.Proofs.YtefgfnhhoidbdaaW.PrintLast Go.Proofs.Ytefgfnhhoidbdaa.X Go.Proofs.Ytefgfnhhoidbdaa.Gr
set_option linter.unusedVariables false
set_option linter.unusedSimpArgs false
theorem G.edges {g B n : Nat} {es : List S29} {O : Nat → Prop} {W : World} (h : G g B n es O W) : ∃ mb cnt A c f, GA g B mb cnt n (.slice A es.length c) f es W ∧ ∀ k, O k ↔ Own g mb n (.slice A es.length c) f k := by
  obtain ⟨mb, cnt, ev, f, h1, h2⟩ := h
  obtain ⟨A, c, rfl⟩ := Kd.R_slice h1.row
  exact ⟨mb, cnt, A, c, f, h1, h2⟩
set_option maxHeartbeats 8000000 in
set_option maxRecDepth 100000 in
theorem add_r1 {g B n : Nat} {es : List S29} {O : Nat → Prop} (x : S29) (w : World) (h : G g B n es O w) (h1 : x.f0 < -1) : Calls Try.prog 12 #[.pointer (some ⟨g, 0, none⟩), .agg #[.int .i64 x.f0, .int .i64 x.f1, .int .i64 x.f2, .int .i64 x.f3]] w fun e w' => e = .returned (.int .i64 1) ∧ Below w.heap.size w w' := by
  obtain ⟨mb, cnt, A, c, f, hga, hO⟩ := h.edges
  have HB := Aside0.mk (Below.refl w.heap.size w)
  have GB := Aside0.mk hga.bk
  have HGA := Aside0.mk hga
  have k1 : decide (x.f0 < -1) = true := decide_eq_true h1
  clear h1
  clear hga h hO
  go_enter Try.func12, Try.ntmps12
  go_wp2_with (first | ((with_reducible refine gate_dst (N := 3) rfl ?_); refine box_event ?hg (N := 3) ?hd (cs := #[.int .i64 x.f0, .int .i64 x.f1, .int .i64 x.f2, .int .i64 x.f3]) (t := 29) ?hr ?_; (case hd => rfl); (case hg => rfl); (case hr => first | (go_simp; done) | (go_simp; rfl)); intro gx hg w1 hbox hb; have NWXB := Aside0.mk hbox; have GWXB := Aside0.mk ((by rw [hg]; exact (below_size (pxb HB)) : w.heap.size ≤ gx)); have NEGBXB := Aside0.mk (show g ≠ gx by rw [hg]; exact Nat.ne_of_lt (blk_lt (pxp (o := .cells #[.int .i64 n, .slice A es.length c, .map (some mb)] 88 (0, 0)) GB))); have NEXBGB := Aside0.mk (Ne.symm NEGBXB.out); have eGBXB := NEGBXB.out; have eXBGB := NEXBGB.out; clear hg hbox; have n0_ := pxs HB hb; have nGB_ : Aside0 (w1.heap[g]? = some (.cells #[.int .i64 n, .slice A es.length c, .map (some mb)] 88 (0, 0))) := ⟨blk_below (pxp GB) hb⟩; clear HB GB; have HB := n0_; clear n0_; have GB := nGB_; clear nGB_; have XB := NWXB; clear NWXB hb; obtain ⟨xGB0, xGB1, xGB2, yGB0, yGB1, yGB2⟩ := pxf3 GB; obtain ⟨xXB0, xXB1, xXB2, xXB3, yXB0, yXB1, yXB2, yXB3⟩ := pxf4 XB))
  go_quiet (fail)
  go_wp2
  go_ret
  exact ⟨rfl, pxb HB⟩
set_option maxHeartbeats 8000000 in
set_option maxRecDepth 100000 in
theorem add_r2 {g B n : Nat} {es : List S29} {O : Nat → Prop} (x : S29) (w : World) (h : G g B n es O w) (h1 : -1 ≤ x.f0) (h2 : (n : Int) ≤ x.f0) : Calls Try.prog 12 #[.pointer (some ⟨g, 0, none⟩), .agg #[.int .i64 x.f0, .int .i64 x.f1, .int .i64 x.f2, .int .i64 x.f3]] w fun e w' => e = .returned (.int .i64 1) ∧ Below w.heap.size w w' := by
  obtain ⟨mb, cnt, A, c, f, hga, hO⟩ := h.edges
  have HB := Aside0.mk (Below.refl w.heap.size w)
  have GB := Aside0.mk hga.bk
  have HGA := Aside0.mk hga
  have k1 : decide (x.f0 < -1) = false := decide_eq_false (by omega)
  have k2 : decide ((n : Int) ≤ x.f0) = true := decide_eq_true h2
  clear h1 h2
  clear hga h hO
  go_enter Try.func12, Try.ntmps12
  go_wp2_with (first | ((with_reducible refine gate_dst (N := 3) rfl ?_); refine box_event ?hg (N := 3) ?hd (cs := #[.int .i64 x.f0, .int .i64 x.f1, .int .i64 x.f2, .int .i64 x.f3]) (t := 29) ?hr ?_; (case hd => rfl); (case hg => rfl); (case hr => first | (go_simp; done) | (go_simp; rfl)); intro gx hg w1 hbox hb; have NWXB := Aside0.mk hbox; have GWXB := Aside0.mk ((by rw [hg]; exact (below_size (pxb HB)) : w.heap.size ≤ gx)); have NEGBXB := Aside0.mk (show g ≠ gx by rw [hg]; exact Nat.ne_of_lt (blk_lt (pxp (o := .cells #[.int .i64 n, .slice A es.length c, .map (some mb)] 88 (0, 0)) GB))); have NEXBGB := Aside0.mk (Ne.symm NEGBXB.out); have eGBXB := NEGBXB.out; have eXBGB := NEXBGB.out; clear hg hbox; have n0_ := pxs HB hb; have nGB_ : Aside0 (w1.heap[g]? = some (.cells #[.int .i64 n, .slice A es.length c, .map (some mb)] 88 (0, 0))) := ⟨blk_below (pxp GB) hb⟩; clear HB GB; have HB := n0_; clear n0_; have GB := nGB_; clear nGB_; have XB := NWXB; clear NWXB hb; obtain ⟨xGB0, xGB1, xGB2, yGB0, yGB1, yGB2⟩ := pxf3 GB; obtain ⟨xXB0, xXB1, xXB2, xXB3, yXB0, yXB1, yXB2, yXB3⟩ := pxf4 XB))
  go_quiet (fail)
  go_wp2
  go_ret
  exact ⟨rfl, pxb HB⟩
set_option maxHeartbeats 8000000 in
set_option maxRecDepth 100000 in
theorem add_r3 {g B n : Nat} {es : List S29} {O : Nat → Prop} (x : S29) (w : World) (h : G g B n es O w) (h1 : -1 ≤ x.f0) (h2 : x.f0 < n) (h3 : x.f1 < 0) : Calls Try.prog 12 #[.pointer (some ⟨g, 0, none⟩), .agg #[.int .i64 x.f0, .int .i64 x.f1, .int .i64 x.f2, .int .i64 x.f3]] w fun e w' => e = .returned (.int .i64 1) ∧ Below w.heap.size w w' := by
  obtain ⟨mb, cnt, A, c, f, hga, hO⟩ := h.edges
  have HB := Aside0.mk (Below.refl w.heap.size w)
  have GB := Aside0.mk hga.bk
  have HGA := Aside0.mk hga
  have k1 : decide (x.f0 < -1) = false := decide_eq_false (by omega)
  have k2 : decide ((n : Int) ≤ x.f0) = false := decide_eq_false (by omega)
  have k3 : decide (x.f1 < 0) = true := decide_eq_true h3
  clear h1 h2 h3
  clear hga h hO
  go_enter Try.func12, Try.ntmps12
  go_wp2_with (first | ((with_reducible refine gate_dst (N := 3) rfl ?_); refine box_event ?hg (N := 3) ?hd (cs := #[.int .i64 x.f0, .int .i64 x.f1, .int .i64 x.f2, .int .i64 x.f3]) (t := 29) ?hr ?_; (case hd => rfl); (case hg => rfl); (case hr => first | (go_simp; done) | (go_simp; rfl)); intro gx hg w1 hbox hb; have NWXB := Aside0.mk hbox; have GWXB := Aside0.mk ((by rw [hg]; exact (below_size (pxb HB)) : w.heap.size ≤ gx)); have NEGBXB := Aside0.mk (show g ≠ gx by rw [hg]; exact Nat.ne_of_lt (blk_lt (pxp (o := .cells #[.int .i64 n, .slice A es.length c, .map (some mb)] 88 (0, 0)) GB))); have NEXBGB := Aside0.mk (Ne.symm NEGBXB.out); have eGBXB := NEGBXB.out; have eXBGB := NEXBGB.out; clear hg hbox; have n0_ := pxs HB hb; have nGB_ : Aside0 (w1.heap[g]? = some (.cells #[.int .i64 n, .slice A es.length c, .map (some mb)] 88 (0, 0))) := ⟨blk_below (pxp GB) hb⟩; clear HB GB; have HB := n0_; clear n0_; have GB := nGB_; clear nGB_; have XB := NWXB; clear NWXB hb; obtain ⟨xGB0, xGB1, xGB2, yGB0, yGB1, yGB2⟩ := pxf3 GB; obtain ⟨xXB0, xXB1, xXB2, xXB3, yXB0, yXB1, yXB2, yXB3⟩ := pxf4 XB))
  go_quiet (fail)
  go_wp2
  go_ret
  exact ⟨rfl, pxb HB⟩
set_option maxHeartbeats 8000000 in
set_option maxRecDepth 100000 in
theorem add_r4 {g B n : Nat} {es : List S29} {O : Nat → Prop} (x : S29) (w : World) (h : G g B n es O w) (h1 : -1 ≤ x.f0) (h2 : x.f0 < n) (h3 : 0 ≤ x.f1) (h4 : (n : Int) ≤ x.f1) : Calls Try.prog 12 #[.pointer (some ⟨g, 0, none⟩), .agg #[.int .i64 x.f0, .int .i64 x.f1, .int .i64 x.f2, .int .i64 x.f3]] w fun e w' => e = .returned (.int .i64 1) ∧ Below w.heap.size w w' := by
  obtain ⟨mb, cnt, A, c, f, hga, hO⟩ := h.edges
  have HB := Aside0.mk (Below.refl w.heap.size w)
  have GB := Aside0.mk hga.bk
  have HGA := Aside0.mk hga
  have k1 : decide (x.f0 < -1) = false := decide_eq_false (by omega)
  have k2 : decide ((n : Int) ≤ x.f0) = false := decide_eq_false (by omega)
  have k3 : decide (x.f1 < 0) = false := decide_eq_false (by omega)
  have k4 : decide ((n : Int) ≤ x.f1) = true := decide_eq_true h4
  clear h1 h2 h3 h4
  clear hga h hO
  go_enter Try.func12, Try.ntmps12
  go_wp2_with (first | ((with_reducible refine gate_dst (N := 3) rfl ?_); refine box_event ?hg (N := 3) ?hd (cs := #[.int .i64 x.f0, .int .i64 x.f1, .int .i64 x.f2, .int .i64 x.f3]) (t := 29) ?hr ?_; (case hd => rfl); (case hg => rfl); (case hr => first | (go_simp; done) | (go_simp; rfl)); intro gx hg w1 hbox hb; have NWXB := Aside0.mk hbox; have GWXB := Aside0.mk ((by rw [hg]; exact (below_size (pxb HB)) : w.heap.size ≤ gx)); have NEGBXB := Aside0.mk (show g ≠ gx by rw [hg]; exact Nat.ne_of_lt (blk_lt (pxp (o := .cells #[.int .i64 n, .slice A es.length c, .map (some mb)] 88 (0, 0)) GB))); have NEXBGB := Aside0.mk (Ne.symm NEGBXB.out); have eGBXB := NEGBXB.out; have eXBGB := NEXBGB.out; clear hg hbox; have n0_ := pxs HB hb; have nGB_ : Aside0 (w1.heap[g]? = some (.cells #[.int .i64 n, .slice A es.length c, .map (some mb)] 88 (0, 0))) := ⟨blk_below (pxp GB) hb⟩; clear HB GB; have HB := n0_; clear n0_; have GB := nGB_; clear nGB_; have XB := NWXB; clear NWXB hb; obtain ⟨xGB0, xGB1, xGB2, yGB0, yGB1, yGB2⟩ := pxf3 GB; obtain ⟨xXB0, xXB1, xXB2, xXB3, yXB0, yXB1, yXB2, yXB3⟩ := pxf4 XB))
  go_quiet (fail)
  go_wp2
  go_ret
  exact ⟨rfl, pxb HB⟩
/-- Contains tells whether it is there. -/
theorem idx_any (es : List S29) (x : S29) : ∀ (k i : Nat), es.length < k + i → i ≤ es.length → es.length < 100000 → ∃ r, graph_Edge_55.l0 k es (es.length : Int) (i : Int) x.f0 x.f1 x.f2 x.f3 = some r ∧ (0 ≤ r ↔ x ∈ es.drop i)
  | 0, i, h, h1, _ => by omega
  | k + 1, i, h, h1, hl => by
    rw [graph_Edge_55.l0]
    by_cases hi : i < es.length
    · rw [if_pos (by omega), if_pos (by omega), if_pos (by omega)]
      have e1 : rd_T29 es (i : Int) = es[i] := by
        unfold rd_T29
        rw [Int.toNat_natCast, List.getD_eq_getElem?_getD, List.getElem?_eq_getElem hi, Option.getD_some]
      rw [e1, List.drop_eq_getElem_cons hi]
      by_cases hx : x = es[i]
      · rw [if_pos (by rw [← hx]; simp)]
        exact ⟨_, rfl, ⟨fun _ => List.mem_cons.2 (.inl hx), fun _ => by omega⟩⟩
      · rw [if_neg (fun e => hx (by
          simp only [Bool.and_eq_true, beq_iff_eq] at e
          obtain ⟨a, b, c, d⟩ := e
          generalize es[i] = y at a b c d
          cases x; cases y; simp_all))]
        have e2 : wrap64 ((i : Int) + 1) = ((i + 1 : Nat) : Int) := by rw [wrap_id (by omega) (by omega)]; rfl
        rw [e2]
        obtain ⟨r, h2, h3⟩ := idx_any es x k (i + 1) (by omega) (by omega) hl
        exact ⟨r, h2, h3.trans ⟨fun h => List.mem_cons.2 (.inr h), fun h => (List.mem_cons.1 h).resolve_left hx⟩⟩
    · rw [if_neg (by omega)]
      refine ⟨-1, rfl, ⟨fun h4 => by omega, fun h4 => ?_⟩⟩
      rw [List.drop_eq_nil_of_le (by omega)] at h4
      cases h4
theorem contains_any (es : List S29) (x : S29) (hl : es.length < 100000) (b : Bool) (hb : b = true ↔ x ∈ es) : graph_Edge_39.f (es.length + 1) es x.f0 x.f1 x.f2 x.f3 = some b := by
  obtain ⟨r, h1, h2⟩ := idx_any es x (es.length + 1) 0 (by omega) (Nat.zero_le _) hl
  unfold graph_Edge_39.f graph_Edge_55.f
  have h1 : graph_Edge_55.l0 (es.length + 1) es (es.length : Int) 0 x.f0 x.f1 x.f2 x.f3 = some r := h1
  rw [h1]
  show some (decide (r ≥ 0)) = some b
  rw [List.drop_zero] at h2
  cases b
  · rw [decide_eq_false (fun h => by have := hb.2 (h2.1 h); cases this)]
  · rw [decide_eq_true (h2.2 (hb.1 rfl))]
set_option maxHeartbeats 8000000 in
set_option maxRecDepth 100000 in
theorem add_twice {g B n : Nat} {es : List S29} {O : Nat → Prop} (x : S29) (w : World) (h : G g B n es O w) (h1 : -1 ≤ x.f0) (h2 : x.f0 < n) (h3 : 0 ≤ x.f1) (h4 : x.f1 < n) (hx : x ∈ es) : Calls Try.prog 12 #[.pointer (some ⟨g, 0, none⟩), .agg #[.int .i64 x.f0, .int .i64 x.f1, .int .i64 x.f2, .int .i64 x.f3]] w fun e w' => e = .returned (.int .i64 4) ∧ Below w.heap.size w w' := by
  obtain ⟨mb, cnt, A, c, f, hga, hO⟩ := h.edges
  have HB := Aside0.mk (Below.refl w.heap.size w)
  have GB := Aside0.mk hga.bk
  have HGA := Aside0.mk hga
  have k1 : decide (x.f0 < -1) = false := decide_eq_false (by omega)
  have k2 : decide ((n : Int) ≤ x.f0) = false := decide_eq_false (by omega)
  have k3 : decide (x.f1 < 0) = false := decide_eq_false (by omega)
  have k4 : decide ((n : Int) ≤ x.f1) = false := decide_eq_false (by omega)
  have hlen := hga.m_le
  have HCT := Lib.hid (fun (W : World) (hb : Below w.heap.size w W) => graph_Edge_39.calls (es.length + 1) A c es x.f0 x.f1 x.f2 x.f3 true W (Kd.C_below (Kd.R_reads' hga.row).2.2 hb) (Kd.R_reads' hga.row).2.1 (contains_any es x (by omega) true (by simp [hx])))
  clear h1 h2 h3 h4 hx hga h hO hlen
  go_enter Try.func12, Try.ntmps12
  go_wp2_with (first | ((with_reducible refine gate_dst (N := 3) rfl ?_); refine box_event ?hg (N := 3) ?hd (cs := #[.int .i64 x.f0, .int .i64 x.f1, .int .i64 x.f2, .int .i64 x.f3]) (t := 29) ?hr ?_; (case hd => rfl); (case hg => rfl); (case hr => first | (go_simp; done) | (go_simp; rfl)); intro gx hg w1 hbox hb; have NWXB := Aside0.mk hbox; have GWXB := Aside0.mk ((by rw [hg]; exact (below_size (pxb HB)) : w.heap.size ≤ gx)); have NEGBXB := Aside0.mk (show g ≠ gx by rw [hg]; exact Nat.ne_of_lt (blk_lt (pxp (o := .cells #[.int .i64 n, .slice A es.length c, .map (some mb)] 88 (0, 0)) GB))); have NEXBGB := Aside0.mk (Ne.symm NEGBXB.out); have eGBXB := NEGBXB.out; have eXBGB := NEXBGB.out; clear hg hbox; have n0_ := pxs HB hb; have nGB_ : Aside0 (w1.heap[g]? = some (.cells #[.int .i64 n, .slice A es.length c, .map (some mb)] 88 (0, 0))) := ⟨blk_below (pxp GB) hb⟩; clear HB GB; have HB := n0_; clear n0_; have GB := nGB_; clear nGB_; have XB := NWXB; clear NWXB hb; obtain ⟨xGB0, xGB1, xGB2, yGB0, yGB1, yGB2⟩ := pxf3 GB; obtain ⟨xXB0, xXB1, xXB2, xXB3, yXB0, yXB1, yXB2, yXB3⟩ := pxf4 XB))
  go_quiet (fail)
  go_wp2
  refine start_ (n := 7) (S := fun w' => w'.cell? ⟨g, 0, none⟩ = some (.int .i64 n) ∧ w'.cell? ⟨g, 1, none⟩ = some (.slice A es.length c) ∧ w'.cell? ⟨g, 2, none⟩ = some (.map (some mb)) ∧ w'.cell? ⟨gx, 0, none⟩ = some (.int .i64 x.f0) ∧ w'.cell? ⟨gx, 1, none⟩ = some (.int .i64 x.f1) ∧ w'.cell? ⟨gx, 2, none⟩ = some (.int .i64 x.f2) ∧ w'.cell? ⟨gx, 3, none⟩ = some (.int .i64 x.f3)) (ds := []) #[false, false, false, false, false, false, false] (by kernel_rfl) rfl rfl ⟨(pxf3 ⟨blk_drew (pxp (o := .cells #[.int .i64 n, .slice A es.length c, .map (some mb)] 88 (0, 0)) GB)⟩).1, (pxf3 ⟨blk_drew (pxp (o := .cells #[.int .i64 n, .slice A es.length c, .map (some mb)] 88 (0, 0)) GB)⟩).2.1, (pxf3 ⟨blk_drew (pxp (o := .cells #[.int .i64 n, .slice A es.length c, .map (some mb)] 88 (0, 0)) GB)⟩).2.2.1, (pxf4 ⟨blk_drew (pxp (o := .cells #[.int .i64 x.f0, .int .i64 x.f1, .int .i64 x.f2, .int .i64 x.f3] 29 (0, 0)) XB)⟩).1, (pxf4 ⟨blk_drew (pxp (o := .cells #[.int .i64 x.f0, .int .i64 x.f1, .int .i64 x.f2, .int .i64 x.f3] 29 (0, 0)) XB)⟩).2.1, (pxf4 ⟨blk_drew (pxp (o := .cells #[.int .i64 x.f0, .int .i64 x.f1, .int .i64 x.f2, .int .i64 x.f3] 29 (0, 0)) XB)⟩).2.2.1, (pxf4 ⟨blk_drew (pxp (o := .cells #[.int .i64 x.f0, .int .i64 x.f1, .int .i64 x.f2, .int .i64 x.f3] 29 (0, 0)) XB)⟩).2.2.2.1⟩ (fun hHeld => ?_); refine with_tab rfl (fun HT_ => ?_)
  generalize hW_ : World.drew _ = w2 at hHeld ⊢
  have n0_ : Aside0 (Below w.heap.size w w2) := ⟨by rw [← hW_]; exact below_drew1 (pxb HB)⟩
  have nGB_ : Aside0 (w2.heap[g]? = some (.cells #[.int .i64 n, .slice A es.length c, .map (some mb)] 88 (0, 0))) := ⟨by rw [← hW_]; exact blk_drew (pxp GB)⟩
  have nXB_ : Aside0 (w2.heap[gx]? = some (.cells #[.int .i64 x.f0, .int .i64 x.f1, .int .i64 x.f2, .int .i64 x.f3] 29 (0, 0))) := ⟨by rw [← hW_]; exact blk_drew (pxp XB)⟩
  clear hW_ HB GB XB
  have HB := n0_
  have GB := nGB_
  have XB := nXB_
  clear n0_ nGB_ nXB_
  refine pS 0 33 HT_ ?_
  refine pS 1 34 HT_ ?_
  refine pS 2 35 HT_ ?_
  refine tT 3 36 HT_ hHeld ?_
  refine tT 4 37 HT_ hHeld ?_
  refine oS 5 HT_ (fun K hK => ?_)
  refine goes_ Try.func39 (by kernel_rfl) rfl #[.slice A es.length c, .agg #[.int .i64 x.f0, .int .i64 x.f1, .int .i64 x.f2, .int .i64 x.f3]] (by rfl) rfl rfl (by (try simp only [List.map_toArray, List.map_cons, List.map_nil]); first | done | rfl) ?_
  (with_reducible refine (HCT.out _ (pxb HB)).mono ?_)
  rintro e w3 ⟨rfl, hb⟩
  refine ⟨_, rfl, ?_⟩
  have n0_ := pxs HB hb; have nGB_ : Aside0 (w3.heap[g]? = some (.cells #[.int .i64 n, .slice A es.length c, .map (some mb)] 88 (0, 0))) := ⟨blk_below (pxp GB) hb⟩; have nXB_ : Aside0 (w3.heap[gx]? = some (.cells #[.int .i64 x.f0, .int .i64 x.f1, .int .i64 x.f2, .int .i64 x.f3] 29 (0, 0))) := ⟨blk_below (pxp XB) hb⟩; clear HB GB XB; have HB := n0_; clear n0_; have GB := nGB_; clear nGB_; have XB := nXB_; clear nXB_
  refine hK.out _ _ ⟨(pxf3 GB).1, (pxf3 GB).2.1, (pxf3 GB).2.2.1, (pxf4 XB).1, (pxf4 XB).2.1, (pxf4 XB).2.2.1, (pxf4 XB).2.2.2.1⟩ (fun hHeld => ?_)
  clear hK K hb
  refine nS 38 ?_
  refine pS 6 32 HT_ ?_
  refine done_ (done_of HT_.out (by kernel_rfl)) ?_
  clear HT_ hHeld
  go_wp2
  go_ret
  exact ⟨rfl, pxb HB⟩
end Go.Proofs.Ytefgfnhhoidbdaa.GrW
