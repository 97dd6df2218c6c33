/- Solve, Without, Edges, Len. -/
import Derived.Test.YtefgfnhhoidbdaaGraphW4
import Derived.Test.YtefgfnhhoidbdaaX41
import Derived.Test.YtefgfnhhoidbdaaX40
namespace Go.Proofs.Ytefgfnhhoidbdaa.GrW
open Go.RowKit Go.Proofs.YtefgfnhhoidbdaaW.PrintWords Go.Proofs.YtefgfnhhoidbdaaW.PrintLast Go.Proofs.Ytefgfnhhoidbdaa.X Go.Proofs.Ytefgfnhhoidbdaa.Gr
set_option linter.unusedVariables false
set_option linter.unusedSimpArgs false
/-- To which nodes something has come. -/
def comesL (l : List Int) : List Bool := l.map fun k => decide (0 ≤ k)
def mid (l : List Int) (i : Nat) : List Bool := comesL (l.take i) ++ List.replicate (l.length - i) false
theorem mid_len {l : List Int} {i : Nat} (h : i ≤ l.length) : (mid l i).length = l.length := by unfold mid comesL; simp; omega
theorem mid_set {l : List Int} {i : Nat} (h : i < l.length) : (mid l i).set i (decide (0 ≤ l[i])) = mid l (i + 1) := by
  unfold mid
  obtain ⟨m, hm⟩ : ∃ m, l.length - i = m + 1 := ⟨l.length - i - 1, by omega⟩
  have h2 : l.length - (i + 1) = m := by omega
  have h3 : (comesL (l.take i)).length = i := by unfold comesL; simp; omega
  rw [hm, h2, List.set_append_right _ _ (by omega), h3, Nat.sub_self, List.replicate_succ, List.set_cons_zero, List.take_succ_eq_append_getElem h]
  unfold comesL
  rw [List.map_append, List.append_assoc]
  rfl
theorem reach_l0 (l : List Int) (hl : l.length ≤ 100000) : ∀ (k i : Nat), l.length < k + i → i ≤ l.length → graph_reach.l0 k (mid l i) l (l.length : Int) (i : Int) = some (comesL l)
  | 0, i, h, h1 => by omega
  | k + 1, i, h, h1 => by
    rw [graph_reach.l0]
    by_cases hi : i < l.length
    · have e1 : rd l (i : Int) = l[i] := by
        unfold rd
        rw [Int.toNat_natCast, List.getD_eq_getElem?_getD, List.getElem?_eq_getElem hi, Option.getD_some]
      rw [if_pos (by omega), if_pos (by omega), if_pos (by omega), if_pos (by rw [mid_len h1]; omega), e1, Int.toNat_natCast, wrap_id (by omega) (by omega)]
      have := reach_l0 l hl k (i + 1) (by omega) (by omega)
      rw [← mid_set hi] at this
      exact this
    · rw [if_neg (by omega)]
      have : i = l.length := by omega
      subst this
      unfold mid
      rw [List.take_length, Nat.sub_self]
      simp
theorem reach_any (l : List Int) (hl : l.length ≤ 100000) : graph_reach.f (l.length + 1) l = some (comesL l) := by
  unfold graph_reach.f
  rw [if_pos (by omega), if_pos (by omega), Int.toNat_natCast]
  have := reach_l0 l hl (l.length + 1) 0 (by omega) (Nat.zero_le _)
  unfold mid at this
  rw [List.take_zero, Nat.sub_zero] at this
  exact this
noncomputable def wL (n : Nat) (es : List S29) (sf : Int → Bool) (skip : Int) : List Int := walkL n es.length (Fm es) (Tm es) sf skip
theorem wL_len {g B n mb cnt : Nat} {ev : Value} {f : Int → Value} {es : List S29} {W : World} (h : GA g B mb cnt n ev f es W) (sf : Int → Bool) (skip : Int) : (wL n es sf skip).length = n := by
  obtain ⟨dp, hd⟩ := walkL_fin (F := Fm es) (shut := sf) (skip := skip) (fun k hk => (h.val k hk).2.2)
  exact hd.len
theorem zero4 (W : World) : (zeroValue 4).run Try.prog W = .ok (.bool false) W := by kernel_rfl
theorem nil_look (W : World) {i : Int} (h0 : -1 ≤ i) (h1 : i < 8192) : (Instr.lookup 93 (.map none) (.int .i64 i) false).run Try.prog W = .ok (.bool false) W := by
  have h := Maps.look_nil (w := W) false keyed3 Try.underlying93 (zero4 W) (Maps.keyOf_int_mk Try.underlying3 (key_wf h0 h1))
  exact h
set_option maxHeartbeats 8000000 in
set_option maxRecDepth 100000 in
theorem solve_any {g B n : Nat} {es : List S29} {O : Nat → Prop} (w : World) (h : G g B n es O w) : Calls Try.prog 16 #[.pointer (some ⟨g, 0, none⟩)] w fun e w' => ∃ bv, e = .returned bv ∧ Kd.R Kd.bool 4 w' w.heap.size (fun _ => True) bv (comesL (wL n es (fun _ => false) (-1))) ∧ Below w.heap.size w w' := by
  obtain ⟨mb, cnt, A, c, f, hga, hO⟩ := h.edges
  have hn := hga.n_le
  have hlen := wL_len hga (fun _ => false) (-1)
  have HW := Lib.hid (fun (W : World) (hb : Below w.heap.size w W) => walk_any (.map none) (fun _ => false) (-1) W (h.below hb) (fun W' i _ h0 h1 => nil_look W' (by omega) (by omega)))
  rw [show walkL n es.length (Fm es) (Tm es) (fun _ => false) (-1) = wL n es (fun _ => false) (-1) from rfl] at HW
  generalize wL n es (fun _ => false) (-1) = R at hlen HW ⊢
  have HR := Lib.hid (reach_any R (by omega))
  have HB := Aside0.mk (Below.refl w.heap.size w)
  clear hlen hn hga hO h
  have tok_a : True := trivial
  have tok_b : True := trivial
  go_enter Try.func16, Try.ntmps16
  go_wp2_with (first | (clear tok_a; go_at_call 42; (with_reducible refine (HW.out _ (pxb HB)).mono ?_); rintro e w1 ⟨bv, rfl, hr, hb⟩; obtain ⟨A1, c1, hbv⟩ := Kd.R_slice hr; subst hbv; have h1 := pxs HB hb; have hc := Kd.R_reads' hr; have HC := Aside0.mk hc; clear HB hb hr hc; have HB := h1; clear h1) | (clear tok_b; go_at_call 41; (with_reducible refine (graph_reach.calls (R.length + 1) A1 c1 R _ _ HC.out.2.2 HC.out.2.1 HR.out).mono ?_); rintro e w2 ⟨cv, rfl, hr, hb⟩; have h1 := pxs HB hb; have HV := Aside0.mk (Kd.R_lower hr (below_size (pxb HB))); clear HB hb hr; have HB := h1; clear h1))
  go_ret
  exact ⟨_, rfl, HV.out, pxb HB⟩
set_option maxHeartbeats 8000000 in
set_option maxRecDepth 100000 in
theorem without_any {g B n : Nat} {es : List S29} {O : Nat → Prop} (skip : Int) (w : World) (h : G g B n es O w) : Calls Try.prog 20 #[.pointer (some ⟨g, 0, none⟩), .int .i64 skip] w fun e w' => ∃ bv, e = .returned bv ∧ Kd.R Kd.bool 4 w' w.heap.size (fun _ => True) bv (comesL (wL n es (fun _ => false) skip)) ∧ Below w.heap.size w w' := by
  obtain ⟨mb, cnt, A, c, f, hga, hO⟩ := h.edges
  have hn := hga.n_le
  have hlen := wL_len hga (fun _ => false) skip
  have HW := Lib.hid (fun (W : World) (hb : Below w.heap.size w W) => walk_any (.map none) (fun _ => false) skip W (h.below hb) (fun W' i _ h0 h1 => nil_look W' (by omega) (by omega)))
  rw [show walkL n es.length (Fm es) (Tm es) (fun _ => false) skip = wL n es (fun _ => false) skip from rfl] at HW
  generalize wL n es (fun _ => false) skip = R at hlen HW ⊢
  have HR := Lib.hid (reach_any R (by omega))
  have HB := Aside0.mk (Below.refl w.heap.size w)
  clear hlen hn hga hO h
  have tok_a : True := trivial
  have tok_b : True := trivial
  go_enter Try.func20, Try.ntmps20
  go_wp2_with (first | (clear tok_a; go_at_call 42; (with_reducible refine (HW.out _ (pxb HB)).mono ?_); rintro e w1 ⟨bv, rfl, hr, hb⟩; obtain ⟨A1, c1, hbv⟩ := Kd.R_slice hr; subst hbv; have h1 := pxs HB hb; have hc := Kd.R_reads' hr; have HC := Aside0.mk hc; clear HB hb hr hc; have HB := h1; clear h1) | (clear tok_b; go_at_call 41; (with_reducible refine (graph_reach.calls (R.length + 1) A1 c1 R _ _ HC.out.2.2 HC.out.2.1 HR.out).mono ?_); rintro e w2 ⟨cv, rfl, hr, hb⟩; have h1 := pxs HB hb; have HV := Aside0.mk (Kd.R_lower hr (below_size (pxb HB))); clear HB hb hr; have HB := h1; clear h1))
  go_ret
  exact ⟨_, rfl, HV.out, pxb HB⟩
set_option maxHeartbeats 8000000 in
set_option maxRecDepth 100000 in
theorem edges_any {g B n : Nat} {es : List S29} {O : Nat → Prop} (w : World) (h : G g B n es O w) : Calls Try.prog 13 #[.pointer (some ⟨g, 0, none⟩)] w fun e w' => ∃ bv, e = .returned bv ∧ Kd.R k29 29 w' w.heap.size (fun _ => True) bv es ∧ Below w.heap.size w w' := by
  obtain ⟨mb, cnt, A, c, f, hga, hO⟩ := h.edges
  have hm := hga.m_le
  have HC := Aside0.mk (Kd.R_reads' hga.row)
  have GB := Aside0.mk hga.bk
  obtain ⟨xGB0, xGB1, xGB2, yGB0, yGB1, yGB2⟩ := pxf3 GB
  have HF := Lib.hid (show graph_Edge_40.f es = some es by unfold graph_Edge_40.f; rw [if_pos (by omega)])
  clear hm hga hO h
  go_enter Try.func13, Try.ntmps13
  go_wp2_with (first | (go_at_call 40; (with_reducible refine (graph_Edge_40.calls A c es es _ HC.out.2.2 HC.out.2.1 HF.out).mono ?_); rintro e w1 ⟨bv, rfl, hr, hb⟩; have HR := Aside0.mk hr; have HB := Aside0.mk hb; clear hr hb))
  go_ret
  exact ⟨_, rfl, HR.out, HB.out⟩
set_option maxHeartbeats 8000000 in
set_option maxRecDepth 100000 in
theorem len_any {g B n : Nat} {es : List S29} {O : Nat → Prop} (w : World) (h : G g B n es O w) : Calls Try.prog 14 #[.pointer (some ⟨g, 0, none⟩)] w fun e w' => e = .returned (.int .i64 n) ∧ w = w' := by
  obtain ⟨mb, cnt, A, c, f, hga, hO⟩ := h.edges
  have GB := Aside0.mk hga.bk
  obtain ⟨xGB0, xGB1, xGB2, yGB0, yGB1, yGB2⟩ := pxf3 GB
  clear hga hO h
  go_enter Try.func14, Try.ntmps14
  go_wp2
  go_ret
  exact ⟨rfl, rfl⟩
end Go.Proofs.Ytefgfnhhoidbdaa.GrW
