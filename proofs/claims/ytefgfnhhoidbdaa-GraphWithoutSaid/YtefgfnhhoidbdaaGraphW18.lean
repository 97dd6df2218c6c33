/- Far: how far each node is. -/
import Derived.Test.YtefgfnhhoidbdaaGraphW17
import Derived.Test.YtefgfnhhoidbdaaGraphW7
import Derived.Test.YtefgfnhhoidbdaaRefFar
namespace Go.Proofs.Ytefgfnhhoidbdaa.GrW
open Go.RowKit Go.Proofs.YtefgfnhhoidbdaaW.PrintWords Go.Proofs.YtefgfnhhoidbdaaW.PrintLast Go.Proofs.Ytefgfnhhoidbdaa.X Go.Proofs.Ytefgfnhhoidbdaa.Gr
set_option linter.unusedVariables false
set_option linter.unusedSimpArgs false
theorem path_any {g B n : Nat} {es : List S29} {O : Nat → Prop} (node : Int) (w : World) (h : G g B n es O w) : Calls Try.prog 23 #[.pointer (some ⟨g, 0, none⟩), .int .i64 node] w fun e w' => ∃ bv, e = .returned bv ∧ Kd.R k29 29 w' w.heap.size (fun _ => True) bv (pathV n es node) ∧ Below w.heap.size w w' := by
  by_cases h1 : node < 0
  · exact path_r1 node w h h1
  · by_cases h2 : (n : Int) ≤ node
    · exact path_r2 node w h h2
    · exact path_walk node w h (by omega) (by omega)
noncomputable def farV (n : Nat) (es : List S29) (i : Nat) : Int := if (pathV n es (i : Int)).length = 0 then -1 else ((pathV n es (i : Int)).length : Int)
noncomputable def farM (n : Nat) (es : List S29) (i : Nat) : List Int := (List.range i).map (farV n es) ++ List.replicate (n - i) 0
theorem farM_len {n i : Nat} {es : List S29} (h : i ≤ n) : (farM n es i).length = n := by unfold farM; simp; omega
theorem farM_set {n i : Nat} {es : List S29} (h : i < n) : (farM n es i).set i (farV n es i) = farM n es (i + 1) := by
  unfold farM
  obtain ⟨m, hm⟩ : ∃ m, n - i = m + 1 := ⟨n - i - 1, by omega⟩
  have h2 : n - (i + 1) = m := by omega
  rw [hm, h2, List.set_append_right _ _ (by simp), List.length_map, List.length_range, Nat.sub_self, List.replicate_succ, List.set_cons_zero, List.range_succ, List.map_append, List.append_assoc]
  rfl
theorem farM_0 (n : Nat) (es : List S29) : farM n es 0 = List.replicate n 0 := by unfold farM; simp
theorem farM_n (n : Nat) (es : List S29) : farM n es n = (List.range n).map (farV n es) := by unfold farM; simp
/-- What is told is how far it is. -/
theorem far_dist {n : Nat} {es : List S29} {dp : Int → Nat} (hf : Fin_ n es.length (Fm es) (Tm es) (fun _ => false) (-1) (wL n es (fun _ => false) (-1)) dp) : farM n es n = distL n (wL n es (fun _ => false) (-1)) dp := by
  rw [farM_n]
  unfold distL
  refine List.map_congr_left (fun i hi => ?_)
  have hi := List.mem_range.1 hi
  have hp : pathV n es (i : Int) = (pathR (wL n es (fun _ => false) (-1)) es (n + 1) (i : Int)).reverse := by unfold pathV; rw [if_pos ⟨by omega, by omega⟩]
  unfold farV
  rw [hp, List.length_reverse]
  by_cases hR : 0 ≤ (wL n es (fun _ => false) (-1)).getD i (-1)
  · have h := (path_chain hf (dp (i : Int)) (n + 1) i hi rfl (by have := hf.cap (i : Int) (.inr ⟨by omega, by omega, by rw [Int.toNat_natCast]; exact hR⟩); omega) hR).1
    obtain ⟨k, _, _, _, _, h5⟩ := hf.tree i hi hR
    rw [h, if_neg (by omega), if_pos hR]
  · rw [path_none hR, if_neg hR]; rfl
theorem rd_set {l : List Int} {i : Nat} {x : Int} (h : i < l.length) : rdOf (0 : Int) (l.set i x) (i : Int) = x := by
  unfold rdOf
  rw [Int.toNat_natCast, List.getD_eq_getElem?_getD, List.getElem?_set_self h, Option.getD_some]
set_option maxHeartbeats 16000000 in
set_option maxRecDepth 100000 in
theorem far_any {g B n : Nat} {es : List S29} {O : Nat → Prop} (w : World) (h : G g B n es O w) : Calls Try.prog 37 #[.pointer (some ⟨g, 0, none⟩)] w fun e w' => ∃ bv, e = .returned bv ∧ Kd.R (Kd.int .i64) 3 w' w.heap.size (fun _ => True) bv (farM n es n) ∧ Below w.heap.size w w' := by
  obtain ⟨mb, cnt, A, c, f, hga, hO⟩ := h.edges
  have HB := Aside0.mk (Below.refl w.heap.size w)
  have GB := Aside0.mk hga.bk
  have HG := Aside0.mk h
  obtain ⟨xGB0, xGB1, xGB2, yGB0, yGB1, yGB2⟩ := pxf3 GB
  have HN := Lib.hid hga.n_le
  clear hga h hO
  go_enter Try.func37, Try.ntmps37
  go_wp2_with (first | ((with_reducible refine gate_dst (N := 9) rfl ?_); refine Kd.R_make (Kd.int .i64) _ 3 rfl (N := 9) rfl 43 _ _ rfl (n : Int) rfl rfl Try.underlying43 (.int .i64 0) 8 info3 rfl (by decide) (by omega) 0 (ok := fun _ => True) (okp := fun _ => True) rfl (fun _ hk => hk) trivial (by omega) (by have := HN.out; omega) (Below.refl _ _) (Nat.le_refl _) ?_; intro bv w1 ho hb hg_ hnew_; clear hg_ hnew_; rw [Int.toNat_natCast, ← farM_0 n es] at ho; obtain ⟨A1, c1, hbv⟩ := Kd.R_slice ho; rw [farM_len (Nat.zero_le n)] at hbv; subst hbv; have HR := Aside0.mk (Kd.R_lower ho (below_size (pxb HB))); clear ho; have n0_ := pxs HB hb; have nGB_ : Aside0 (w1.heap[g]? = some (.cells #[.int .i64 n, .slice A es.length c, .map (some mb)] 88 (0, 0))) := ⟨blk_below (pxp GB) hb⟩; clear HB GB; have HB := n0_; clear n0_; have GB := nGB_; clear nGB_))
  go_loopg [12] n (fun kq v12 w' => ∃ i : Nat, v12 = .int .i64 i ∧ Hid (i ≤ n ∧ kq = n - i) ∧ Aside0 (Kd.R (Kd.int .i64) 3 w' w.heap.size (fun _ => True) (.slice A1 n c1) (farM n es i)) ∧ Aside0 (Below w.heap.size w w'))
  case atStart => exact ⟨0, rfl, ⟨Nat.zero_le _, rfl⟩, ⟨pxr HR⟩, ⟨pxb HB⟩⟩
  case round =>
    clear HR HB GB xGB0 xGB1 xGB2 yGB0 yGB1 yGB2
    obtain ⟨i, rfl, HI, HR, HB⟩ := hrel
    by_cases hi : i < n
    · have hl := farM_len (es := es) (Nat.le_of_lt hi)
      have hR := HR.out
      rw [← hl] at hR
      obtain ⟨gb, cb, eb, hb1, hb2, _⟩ := Kd.R_form hR (by rw [hl]; omega)
      have HR0 := Aside0.mk hR
      clear hR HR
      rw [hl] at eb HR0
      injection eb with e1 e2 e3
      subst e1
      subst e3
      clear e2
      have HR := HR0
      clear HR0
      have p0 : (0 ≤ (i : Int)) = True := eq_true (by omega)
      have p1 : ((i : Int) < (n : Int)) = True := eq_true (by omega)
      have p1' : (i < n) = True := eq_true (by omega)
      have k4 : decide (i < n) = true := decide_eq_true hi
      have k5 : decide ((i : Int) < (n : Int)) = true := decide_eq_true (by omega)
      have hset := farM_set (es := es) hi
      obtain ⟨m, hm⟩ : ∃ m, (pathV n es (i : Int)).length = m := ⟨_, rfl⟩
      have hfv : farV n es i = if m = 0 then -1 else (m : Int) := by unfold farV; rw [hm]
      rw [hfv] at hset
      have HM := Aside0.mk hm
      have HLT := Lib.hid hi
      have hle := Aside0.mk hb1
      clear hi hl hb1 hb2 hm hfv
      have tok_1 : True := trivial
      have tok_2 : True := trivial
      by_cases hm0 : m = 0
      · rw [if_pos hm0] at hset
        have HSET := Aside0.mk hset
        have k9 : ((m : Int) == 0) = true := beq_iff_eq.2 (by omega)
        clear hset hm0
        have tok_3 : True := trivial
        go_wp2_with (first | (clear tok_1; go_at_call 23; (with_reducible refine (path_any (i : Int) _ (HG.out.below (pxb HB))).mono ?_); rintro e w5 ⟨bv, rfl, hr, hb⟩; obtain ⟨Ap, cp, hbv⟩ := Kd.R_slice hr; rw [HM.out] at hbv; subst hbv; clear hr; have n1_ := Aside0.mk (Kd.R_below HR.out hb); have n0_ := pxs HB hb; clear HB HR hb; have HB := n0_; have HR := n1_; clear n0_ n1_; obtain ⟨wp, rfl⟩ : ∃ wp, wp = w5 := ⟨_, rfl⟩; have hcell := Kd.R_celln (0 : Int) (n := n) HR.out (i : Int) (by have := HLT.out; omega) (by have := HLT.out; omega); rw [Int.toNat_natCast] at hcell; obtain ⟨hx0, hf0⟩ := hcell; have HP0 := Kd.R_putg HR.out (i : Int) (m : Int); rw [Int.toNat_natCast] at HP0; have HP := Aside0.mk HP0; clear HP0) | (clear tok_2; (with_reducible refine gate_store (t := 3) (p := 21) rfl ?_); refine store_event (t := 3) (p := 21) (v := ?vo) (w1 := (wp.setCell ⟨gb, i, none⟩ (.int .i64 (m : Int)))) ?hg ?ho ?hn ?hr ?_; (case ho => rfl); (case hg => rfl); (case hn => rfl); (case hr => first | (go_simp; done) | (go_simp; rfl)); intro w6 hw; have n0_ : Aside0 (Below w.heap.size w w6) := ⟨by rw [hw]; exact below_set (pxb HB) hle.out⟩; have n1_ := HP.out.1; rw [← hw] at n1_; have n2_ := Aside0.mk n1_; clear n1_ HP HR HB hw hx0 hf0; have HB := n0_; have HR := n2_; clear n0_ n2_; have hcell := Kd.R_celln (0 : Int) (n := n) HR.out (i : Int) (by have := HLT.out; omega) (by have := HLT.out; omega); rw [Int.toNat_natCast] at hcell; obtain ⟨hx0, hf0⟩ := hcell; have hrdm : rdOf (0 : Int) ((farM n es i).set i (m : Int)) (i : Int) = (m : Int) := rd_set (by rw [farM_len (Nat.le_of_lt HLT.out)]; exact HLT.out); rw [hrdm] at hx0; clear hrdm; have HP0 := Kd.R_putg HR.out (i : Int) (-1); rw [Int.toNat_natCast] at HP0; have HP := Aside0.mk HP0; clear HP0; rw [List.set_set] at HP) | (clear tok_3; (with_reducible refine gate_store (t := 3) (p := 29) rfl ?_); refine store_event (t := 3) (p := 29) (v := ?vo2) (w1 := (w6.setCell ⟨gb, i, none⟩ (.int .i64 (-1)))) ?hg ?ho ?hn ?hr ?_; (case ho => rfl); (case hg => rfl); (case hn => rfl); (case hr => first | (go_simp; done) | (go_simp; rfl)); intro w7 hw; have n0_ : Aside0 (Below w.heap.size w w7) := ⟨by rw [hw]; exact below_set (pxb HB) hle.out⟩; have n1_ := HP.out.1; rw [← hw] at n1_; have n2_ := Aside0.mk n1_; clear n1_ HP HR HB hw hx0 hf0; have HB := n0_; have HR := n2_; clear n0_ n2_))
        go_roundg (n - (i + 1)); (case measure => have := HI.out; have := HLT.out; omega); (case rel => exact ⟨i + 1, by have := HLT.out; have := HN.out; rw [wrap_id (by omega) (by omega)]; rfl, ⟨by have := HLT.out; omega, rfl⟩, ⟨by rw [← HSET.out]; exact pxr HR⟩, ⟨pxb HB⟩⟩)
      · rw [if_neg hm0] at hset
        have HSET := Aside0.mk hset
        have k9 : ((m : Int) == 0) = false := beq_eq_false_iff_ne.2 (by omega)
        clear hset hm0
        go_wp2_with (first | (clear tok_1; go_at_call 23; (with_reducible refine (path_any (i : Int) _ (HG.out.below (pxb HB))).mono ?_); rintro e w5 ⟨bv, rfl, hr, hb⟩; obtain ⟨Ap, cp, hbv⟩ := Kd.R_slice hr; rw [HM.out] at hbv; subst hbv; clear hr; have n1_ := Aside0.mk (Kd.R_below HR.out hb); have n0_ := pxs HB hb; clear HB HR hb; have HB := n0_; have HR := n1_; clear n0_ n1_; obtain ⟨wp, rfl⟩ : ∃ wp, wp = w5 := ⟨_, rfl⟩; have hcell := Kd.R_celln (0 : Int) (n := n) HR.out (i : Int) (by have := HLT.out; omega) (by have := HLT.out; omega); rw [Int.toNat_natCast] at hcell; obtain ⟨hx0, hf0⟩ := hcell; have HP0 := Kd.R_putg HR.out (i : Int) (m : Int); rw [Int.toNat_natCast] at HP0; have HP := Aside0.mk HP0; clear HP0) | (clear tok_2; (with_reducible refine gate_store (t := 3) (p := 21) rfl ?_); refine store_event (t := 3) (p := 21) (v := ?vo3) (w1 := (wp.setCell ⟨gb, i, none⟩ (.int .i64 (m : Int)))) ?hg ?ho ?hn ?hr ?_; (case ho => rfl); (case hg => rfl); (case hn => rfl); (case hr => first | (go_simp; done) | (go_simp; rfl)); intro w6 hw; have n0_ : Aside0 (Below w.heap.size w w6) := ⟨by rw [hw]; exact below_set (pxb HB) hle.out⟩; have n1_ := HP.out.1; rw [← hw] at n1_; have n2_ := Aside0.mk n1_; clear n1_ HP HR HB hw hx0 hf0; have HB := n0_; have HR := n2_; clear n0_ n2_; have hcell := Kd.R_celln (0 : Int) (n := n) HR.out (i : Int) (by have := HLT.out; omega) (by have := HLT.out; omega); rw [Int.toNat_natCast] at hcell; obtain ⟨hx0, hf0⟩ := hcell; have hrdm : rdOf (0 : Int) ((farM n es i).set i (m : Int)) (i : Int) = (m : Int) := rd_set (by rw [farM_len (Nat.le_of_lt HLT.out)]; exact HLT.out); rw [hrdm] at hx0; clear hrdm))
        go_roundg (n - (i + 1)); (case measure => have := HI.out; have := HLT.out; omega); (case rel => exact ⟨i + 1, by have := HLT.out; have := HN.out; rw [wrap_id (by omega) (by omega)]; rfl, ⟨by have := HLT.out; omega, rfl⟩, ⟨by rw [← HSET.out]; exact pxr HR⟩, ⟨pxb HB⟩⟩)
    · obtain rfl : n = i := by have := HI.out; omega
      have k4 : decide (n < n) = false := decide_eq_false (by omega)
      have k5 : decide ((n : Int) < (n : Int)) = false := decide_eq_false (by omega)
      clear hi HI
      go_wp2
      go_ret
      exact ⟨_, rfl, pxr HR, pxb HB⟩
end Go.Proofs.Ytefgfnhhoidbdaa.GrW
