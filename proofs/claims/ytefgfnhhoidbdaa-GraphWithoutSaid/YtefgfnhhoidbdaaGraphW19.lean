/- GraphPaths: walked. -/
import Derived.Test.YtefgfnhhoidbdaaGraphW18
import Derived.Test.YtefgfnhhoidbdaaX21
namespace Go.Proofs.Ytefgfnhhoidbdaa.GrW
open Go.RowKit Go.Proofs.YtefgfnhhoidbdaaW.PrintWords Go.Proofs.YtefgfnhhoidbdaaW.PrintLast Go.Proofs.Ytefgfnhhoidbdaa.X Go.Proofs.Ytefgfnhhoidbdaa.Gr
set_option linter.unusedVariables false
set_option linter.unusedSimpArgs false
theorem reffar_any {n : Nat} {es : List S29} (A1 : Option Addr) (c1 : Nat) (w : World) (hn : n ≤ 60) (hl : es.length ≤ 150) (hv : ∀ k, k < es.length → -1 ≤ Fm es k ∧ Fm es k < n ∧ 0 ≤ Tm es k ∧ Tm es k < n) (hC : Kd.C k41 w A1 es.length (es.map to41)) (hc : es.length ≤ c1) :
    Calls Try.prog 38 #[.int .i64 (n : Int), .slice A1 es.length c1] w fun e w' => ∃ v, e = .returned v ∧ Kd.R (Kd.int .i64) 3 w' w.heap.size (fun _ => True) v (farM n es n) ∧ Below w.heap.size w w' := by
  obtain ⟨dp, hf⟩ := walkL_fin (n := n) (F := Fm es) (shut := fun _ => false) (skip := -1) (fun k hk => (hv k hk).2.2)
  obtain ⟨k, hk⟩ := ref_far hf hv (by omega) (by omega)
  rw [show distL n (walkL n es.length (Fm es) (Tm es) (fun _ => false) (-1)) dp = farM n es n from (far_dist hf).symm] at hk
  have hlen : (es.map to41).length = es.length := List.length_map ..
  have h := caulkerref21_Far.calls k (n : Int) A1 c1 (es.map to41) _ w (by rw [hlen]; exact hC) (by rw [hlen]; exact hc) hk
  rw [hlen] at h
  exact h
theorem in_l0 {l : List S41} {x : S41} (hl : l.length ≤ 100000) : ∀ (k i : Nat), l.length < k + i → i ≤ l.length → x ∈ l.drop i → caulkerlaw21_in.l0 k l (l.length : Int) (i : Int) x.f0 x.f1 x.f2 x.f3 = some true
  | 0, i, h, h1, _ => by omega
  | k + 1, i, h, h1, hx => by
    rw [caulkerlaw21_in.l0]
    by_cases hi : i < l.length
    · rw [if_pos (by omega), if_pos (by omega), if_pos (by omega)]
      have e1 : rd_T41 l (i : Int) = l[i] := by
        unfold rd_T41
        rw [Int.toNat_natCast, List.getD_eq_getElem?_getD, List.getElem?_eq_getElem hi, Option.getD_some]
      rw [e1]
      rw [List.drop_eq_getElem_cons hi] at hx
      rcases List.mem_cons.1 hx with hx | hx
      · rw [if_pos (by rw [← hx]; simp)]
      · rw [wrap_id (by omega) (by omega), show (i : Int) + 1 = ((i + 1 : Nat) : Int) from rfl, in_l0 hl k (i + 1) (by omega) (by omega) hx]
        split <;> rfl
    · rw [List.drop_eq_nil_of_le (by omega)] at hx
      cases hx
theorem in_yes {es : List S29} {x : S29} (A1 : Option Addr) (c1 : Nat) (w : World) (hl : es.length ≤ 150) (hC : Kd.C k41 w A1 es.length (es.map to41)) (hc : es.length ≤ c1) (hx : x ∈ es) :
    Calls Try.prog 21 #[.slice A1 es.length c1, .agg #[.int .i64 x.f0, .int .i64 x.f1, .int .i64 x.f2, .int .i64 x.f3]] w fun e w' => e = .returned (.bool true) ∧ Below w.heap.size w w' := by
  have hlen : (es.map to41).length = es.length := List.length_map ..
  have h := caulkerlaw21_in.calls (es.length + 1) A1 c1 (es.map to41) x.f0 x.f1 x.f2 x.f3 true w (by rw [hlen]; exact hC) (by rw [hlen]; exact hc) (in_l0 (x := to41 x) (by rw [hlen]; omega) (es.length + 1) 0 (by rw [hlen]; omega) (Nat.zero_le _) (by rw [List.drop_zero]; exact List.mem_map.2 ⟨x, hx, rfl⟩))
  rw [hlen] at h
  exact h
theorem path_facts {n : Nat} {es : List S29} (hv : ∀ k, k < es.length → -1 ≤ Fm es k ∧ Fm es k < n ∧ 0 ≤ Tm es k ∧ Tm es k < n) {node : Int} (h0 : 0 ≤ node) (h1 : node < n) : (pathV n es node).length = 0 ∨ (Chain (-1) (pathV n es node) node ∧ ∀ x, x ∈ pathV n es node → x ∈ es) := by
  obtain ⟨dp, hf⟩ := walkL_fin (n := n) (F := Fm es) (shut := fun _ => false) (skip := -1) (fun k hk => (hv k hk).2.2)
  obtain ⟨i, rfl⟩ : ∃ i : Nat, node = (i : Int) := ⟨node.toNat, by omega⟩
  have hp : pathV n es (i : Int) = (pathR (wL n es (fun _ => false) (-1)) es (n + 1) (i : Int)).reverse := by unfold pathV; rw [if_pos ⟨by omega, by omega⟩]
  rw [hp]
  by_cases hR : 0 ≤ (wL n es (fun _ => false) (-1)).getD i (-1)
  · have h := (path_chain hf (dp (i : Int)) (n + 1) i (by omega) rfl (by have := hf.cap (i : Int) (.inr ⟨by omega, by omega, by rw [Int.toNat_natCast]; exact hR⟩); omega) hR)
    exact .inr ⟨h.2.1, fun x hx => h.2.2 x (List.mem_reverse.1 hx)⟩
  · left
    rw [path_none hR]
    rfl
theorem far_node {n : Nat} {es : List S29} {node : Int} (h0 : 0 ≤ node) (h1 : node < n) : rd (farM n es n) node = if (pathV n es node).length = 0 then -1 else ((pathV n es node).length : Int) := by
  obtain ⟨i, rfl⟩ : ∃ i : Nat, node = (i : Int) := ⟨node.toNat, by omega⟩
  rw [farM_n]
  unfold rd
  rw [Int.toNat_natCast, List.getD_eq_getElem?_getD, List.getElem?_map, List.getElem?_range (by omega)]
  rfl
theorem path_out {n : Nat} {es : List S29} {node : Int} (h : node < 0 ∨ (n : Int) ≤ node) : (pathV n es node).length = 0 := by
  unfold pathV
  rw [if_neg (by omega)]
  rfl
set_option maxHeartbeats 16000000 in
set_option maxRecDepth 100000 in
theorem paths_refused (nodes : Int) (A1 : Option Addr) (c1 : Nat) (l : List S29) (node : Int) (w : World) (h : nodes < 0 ∨ 60 < nodes ∨ 150 < l.length) : Calls Try.prog 9 #[.int .i64 nodes, .slice A1 l.length c1, .int .i64 node] w fun e w' => e = .returned (.bool true) ∧ Below w.heap.size w w' := by
  have HB := Aside0.mk (Below.refl w.heap.size w)
  have tok_1 : True := trivial
  have tok_2 : True := trivial
  have HBU := Lib.hid (fun W => build_refused nodes A1 c1 l W h)
  clear h
  go_enter Try.func9, Try.ntmps9
  go_wp2_with (first | (clear tok_1; go_at_call 10; (with_reducible refine (comes_any _).mono ?_); rintro e w1 ⟨rfl, hb⟩; have h1 := pxs HB hb; clear HB hb; have HB := h1; clear h1) | (clear tok_2; go_at_call 15; (with_reducible refine (HBU.out _).mono ?_); rintro e w2 ⟨rfl, hb⟩; have h1 := pxs HB hb; clear HB hb; have HB := h1; clear h1))
  go_ret
  exact ⟨rfl, pxb HB⟩
set_option maxHeartbeats 16000000 in
set_option maxRecDepth 100000 in
theorem paths_neg (N : Nat) (A1 : Option Addr) (c1 : Nat) (l : List S29) (node : Int) (w : World) (h1 : l.length ≤ 150) (h2 : N ≤ 60) (hC : Kd.C k29 w A1 l.length l) (hn : node < 0) : Calls Try.prog 9 #[.int .i64 (N : Int), .slice A1 l.length c1, .int .i64 node] w fun e w' => e = .returned (.bool true) ∧ Below w.heap.size w w' := by
  have HB := Aside0.mk (Below.refl w.heap.size w)
  have tok_1 : True := trivial
  have tok_2 : True := trivial
  have HH := Lib.hid (And.intro h1 h2)
  have HC := Aside0.mk hC
  have HNO := Lib.hid hn
  have k1 : decide (node < 0) = true := decide_eq_true hn
  clear h1 h2 hC hn
  have tok_3 : True := trivial
  have tok_4 : True := trivial
  have tok_5 : True := trivial
  have tok_6 : True := trivial
  go_enter Try.func9, Try.ntmps9
  go_wp2_with (first | (clear tok_1; go_at_call 10; (with_reducible refine (comes_any _).mono ?_); rintro e w1 ⟨rfl, hb⟩; have h1 := pxs HB hb; clear HB hb; have HB := h1; clear h1) | (clear tok_2; go_at_call 15; (with_reducible refine (build_main N A1 c1 l _ HH.out.1 HH.out.2 (Kd.C_below HC.out (pxb HB))).mono ?_); rintro e w2 ⟨g, es, O, ov, rfl, hg, hr, hlen, hb⟩; obtain ⟨Av, cv, hov⟩ := Kd.R_slice hr; rw [List.length_map] at hov; subst hov; have h1 := pxs HB hb; have HG := Aside0.mk hg; have HVAL := Lib.hid (G.val hg); have HE := Aside0.mk (Kd.R_reads' hr).2.2; have HEC := Aside0.mk (Kd.R_reads' hr).2.1; have HLEN := Lib.hid hlen; clear HB hb hg hr hlen; have HB := h1; clear h1) | (clear tok_3; go_at_call 23; (with_reducible refine (path_any node _ HG.out).mono ?_); rintro e w3 ⟨pv, rfl, hr, hb⟩; obtain ⟨pl, hpl⟩ : ∃ pl, pl = pathV N es node := ⟨_, rfl⟩; rw [← hpl] at hr; have HPL := Aside0.mk hpl; clear hpl; obtain ⟨Ap, cp, hpv⟩ := Kd.R_slice hr; subst hpv; have nHB_ := pxs HB hb; have nHG_ := G.moved HG hb; have nHE_ := Aside0.mk (Kd.C_below HE.out hb); clear HB hb HG HE; have HB := nHB_; clear nHB_; have HG := nHG_; clear nHG_; have HE := nHE_; clear nHE_; have HP := Aside0.mk hr; clear hr) | (clear tok_4; go_at_call 37; (with_reducible refine (far_any _ HG.out).mono ?_); rintro e w4 ⟨fv, rfl, hr, hb⟩; obtain ⟨Af, cf, hfv⟩ := Kd.R_slice hr; rw [farM_len (Nat.le_refl _)] at hfv; subst hfv; have nHB_ := pxs HB hb; have nHG_ := G.moved HG hb; have nHE_ := Aside0.mk (Kd.C_below HE.out hb); have nHP_ := Aside0.mk (Kd.R_below HP.out hb); clear HB hb HG HE HP; have HB := nHB_; clear nHB_; have HG := nHG_; clear nHG_; have HE := nHE_; clear nHE_; have HP := nHP_; clear nHP_; have HFAR := Aside0.mk hr; clear hr) | (clear tok_5; go_at_call 38; (with_reducible refine (reffar_any Av cv _ HH.out.2 HLEN.out HVAL.out (by have := HE.out; rwa [List.length_map] at this) HEC.out).mono ?_); rintro e w5 ⟨fv, rfl, hr, hb⟩; obtain ⟨Aw, cw, hfv⟩ := Kd.R_slice hr; rw [farM_len (Nat.le_refl _)] at hfv; subst hfv; have nHB_ := pxs HB hb; have nHG_ := G.moved HG hb; have nHE_ := Aside0.mk (Kd.C_below HE.out hb); have nHP_ := Aside0.mk (Kd.R_below HP.out hb); have nHFAR_ := Aside0.mk (Kd.R_below HFAR.out hb); clear HB hb HG HE HP HFAR; have HB := nHB_; clear nHB_; have HG := nHG_; clear nHG_; have HE := nHE_; clear nHE_; have HP := nHP_; clear nHP_; have HFAR := nHFAR_; clear nHFAR_; have HWANT := Aside0.mk hr; clear hr))
  go_loopg [38] N (fun kq v38 w' => ∃ i : Nat, v38 = .int .i64 i ∧ Hid (i ≤ N ∧ kq = N - i) ∧ Aside0 (Below w5.heap.size w5 w'))
  case atStart => exact ⟨0, rfl, ⟨Nat.zero_le _, rfl⟩, ⟨Below.refl _ _⟩⟩
  case round =>
    obtain ⟨i, rfl, HI, HBI⟩ := hrel
    by_cases hi : i < N
    · have hfl := farM_len (n := N) (es := es) (Nat.le_refl _)
      obtain ⟨adF, haF, xF⟩ := Kd.at_int (Kd.R_reads' HFAR.out).2.2 (i : Int) (by omega) (by omega)
      cases haF
      replace xF := (HBI.out.cell (World.block_lt_of_cell? _ _ xF)).trans xF
      obtain ⟨adW, haW, xW⟩ := Kd.at_int (Kd.R_reads' HWANT.out).2.2 (i : Int) (by omega) (by omega)
      cases haW
      replace xW := (HBI.out.cell (World.block_lt_of_cell? _ _ xW)).trans xW
      rw [Int.toNat_natCast] at xF xW
      generalize Go.Proofs.YtefgfnhhoidbdaaW.PrintWords.rd (farM N es N) (i : Int) = bv at xF xW
      have p3 : (0 ≤ (i : Int)) = True := eq_true (by omega)
      have p4 : ((i : Int) < (N : Int)) = True := eq_true (by omega)
      have p4' : (i < N) = True := eq_true (by omega)
      have k4 : decide (i < N) = true := decide_eq_true (by omega)
      have k5 : decide ((i : Int) < (N : Int)) = true := decide_eq_true (by omega)
      have HLT := Lib.hid hi
      clear hi hfl
      go_wp2
      go_quiet (fail)
      go_wp2
      go_roundg (N - (i + 1)); (case measure => have := HI.out; have := HLT.out; omega)
      case rel => exact ⟨i + 1, by have := HLT.out; have := HH.out.2; rw [wrap_id (by omega) (by omega)]; rfl, ⟨by have := HLT.out; omega, rfl⟩, ⟨pxb HBI⟩⟩
    · obtain rfl : N = i := by have := HI.out; omega
      have k4 : decide (N < N) = false := decide_eq_false (by omega)
      have k5 : decide ((N : Int) < (N : Int)) = false := decide_eq_false (by omega)
      have hb := HBI.out
      have nHB_ := pxs HB hb; have nHG_ := G.moved HG hb; have nHE_ := Aside0.mk (Kd.C_below HE.out hb); have nHP_ := Aside0.mk (Kd.R_below HP.out hb); have nHFAR_ := Aside0.mk (Kd.R_below HFAR.out hb); have nHWANT_ := Aside0.mk (Kd.R_below HWANT.out hb); clear HB hb HG HE HP HFAR HWANT; have HB := nHB_; clear nHB_; have HG := nHG_; clear nHG_; have HE := nHE_; clear nHE_; have HP := nHP_; clear nHP_; have HFAR := nHFAR_; clear nHFAR_; have HWANT := nHWANT_; clear nHWANT_
      clear hi HI HBI
      have hp0 : pl.length = 0 := by rw [HPL.out]; exact path_out (by have := HNO.out; omega)
      have kp : ((pl.length : Int) == 0) = true := beq_iff_eq.2 (by omega)
      have kp2 : (pl.length == 0) = true := beq_iff_eq.2 hp0
      clear hp0
      go_wp2
      go_ret
      exact ⟨rfl, pxb HB⟩
set_option maxHeartbeats 16000000 in
set_option maxRecDepth 100000 in
theorem paths_over (N : Nat) (A1 : Option Addr) (c1 : Nat) (l : List S29) (node : Int) (w : World) (h1 : l.length ≤ 150) (h2 : N ≤ 60) (hC : Kd.C k29 w A1 l.length l) (hn : ¬ node < 0 ∧ (N : Int) ≤ node) : Calls Try.prog 9 #[.int .i64 (N : Int), .slice A1 l.length c1, .int .i64 node] w fun e w' => e = .returned (.bool true) ∧ Below w.heap.size w w' := by
  have HB := Aside0.mk (Below.refl w.heap.size w)
  have tok_1 : True := trivial
  have tok_2 : True := trivial
  have HH := Lib.hid (And.intro h1 h2)
  have HC := Aside0.mk hC
  have HNO := Lib.hid hn
  have k1 : decide (node < 0) = false := decide_eq_false hn.1
  have k2 : decide ((N : Int) ≤ node) = true := decide_eq_true hn.2
  clear h1 h2 hC hn
  have tok_3 : True := trivial
  have tok_4 : True := trivial
  have tok_5 : True := trivial
  have tok_6 : True := trivial
  go_enter Try.func9, Try.ntmps9
  go_wp2_with (first | (clear tok_1; go_at_call 10; (with_reducible refine (comes_any _).mono ?_); rintro e w1 ⟨rfl, hb⟩; have h1 := pxs HB hb; clear HB hb; have HB := h1; clear h1) | (clear tok_2; go_at_call 15; (with_reducible refine (build_main N A1 c1 l _ HH.out.1 HH.out.2 (Kd.C_below HC.out (pxb HB))).mono ?_); rintro e w2 ⟨g, es, O, ov, rfl, hg, hr, hlen, hb⟩; obtain ⟨Av, cv, hov⟩ := Kd.R_slice hr; rw [List.length_map] at hov; subst hov; have h1 := pxs HB hb; have HG := Aside0.mk hg; have HVAL := Lib.hid (G.val hg); have HE := Aside0.mk (Kd.R_reads' hr).2.2; have HEC := Aside0.mk (Kd.R_reads' hr).2.1; have HLEN := Lib.hid hlen; clear HB hb hg hr hlen; have HB := h1; clear h1) | (clear tok_3; go_at_call 23; (with_reducible refine (path_any node _ HG.out).mono ?_); rintro e w3 ⟨pv, rfl, hr, hb⟩; obtain ⟨pl, hpl⟩ : ∃ pl, pl = pathV N es node := ⟨_, rfl⟩; rw [← hpl] at hr; have HPL := Aside0.mk hpl; clear hpl; obtain ⟨Ap, cp, hpv⟩ := Kd.R_slice hr; subst hpv; have nHB_ := pxs HB hb; have nHG_ := G.moved HG hb; have nHE_ := Aside0.mk (Kd.C_below HE.out hb); clear HB hb HG HE; have HB := nHB_; clear nHB_; have HG := nHG_; clear nHG_; have HE := nHE_; clear nHE_; have HP := Aside0.mk hr; clear hr) | (clear tok_4; go_at_call 37; (with_reducible refine (far_any _ HG.out).mono ?_); rintro e w4 ⟨fv, rfl, hr, hb⟩; obtain ⟨Af, cf, hfv⟩ := Kd.R_slice hr; rw [farM_len (Nat.le_refl _)] at hfv; subst hfv; have nHB_ := pxs HB hb; have nHG_ := G.moved HG hb; have nHE_ := Aside0.mk (Kd.C_below HE.out hb); have nHP_ := Aside0.mk (Kd.R_below HP.out hb); clear HB hb HG HE HP; have HB := nHB_; clear nHB_; have HG := nHG_; clear nHG_; have HE := nHE_; clear nHE_; have HP := nHP_; clear nHP_; have HFAR := Aside0.mk hr; clear hr) | (clear tok_5; go_at_call 38; (with_reducible refine (reffar_any Av cv _ HH.out.2 HLEN.out HVAL.out (by have := HE.out; rwa [List.length_map] at this) HEC.out).mono ?_); rintro e w5 ⟨fv, rfl, hr, hb⟩; obtain ⟨Aw, cw, hfv⟩ := Kd.R_slice hr; rw [farM_len (Nat.le_refl _)] at hfv; subst hfv; have nHB_ := pxs HB hb; have nHG_ := G.moved HG hb; have nHE_ := Aside0.mk (Kd.C_below HE.out hb); have nHP_ := Aside0.mk (Kd.R_below HP.out hb); have nHFAR_ := Aside0.mk (Kd.R_below HFAR.out hb); clear HB hb HG HE HP HFAR; have HB := nHB_; clear nHB_; have HG := nHG_; clear nHG_; have HE := nHE_; clear nHE_; have HP := nHP_; clear nHP_; have HFAR := nHFAR_; clear nHFAR_; have HWANT := Aside0.mk hr; clear hr))
  go_loopg [38] N (fun kq v38 w' => ∃ i : Nat, v38 = .int .i64 i ∧ Hid (i ≤ N ∧ kq = N - i) ∧ Aside0 (Below w5.heap.size w5 w'))
  case atStart => exact ⟨0, rfl, ⟨Nat.zero_le _, rfl⟩, ⟨Below.refl _ _⟩⟩
  case round =>
    obtain ⟨i, rfl, HI, HBI⟩ := hrel
    by_cases hi : i < N
    · have hfl := farM_len (n := N) (es := es) (Nat.le_refl _)
      obtain ⟨adF, haF, xF⟩ := Kd.at_int (Kd.R_reads' HFAR.out).2.2 (i : Int) (by omega) (by omega)
      cases haF
      replace xF := (HBI.out.cell (World.block_lt_of_cell? _ _ xF)).trans xF
      obtain ⟨adW, haW, xW⟩ := Kd.at_int (Kd.R_reads' HWANT.out).2.2 (i : Int) (by omega) (by omega)
      cases haW
      replace xW := (HBI.out.cell (World.block_lt_of_cell? _ _ xW)).trans xW
      rw [Int.toNat_natCast] at xF xW
      generalize Go.Proofs.YtefgfnhhoidbdaaW.PrintWords.rd (farM N es N) (i : Int) = bv at xF xW
      have p3 : (0 ≤ (i : Int)) = True := eq_true (by omega)
      have p4 : ((i : Int) < (N : Int)) = True := eq_true (by omega)
      have p4' : (i < N) = True := eq_true (by omega)
      have k4 : decide (i < N) = true := decide_eq_true (by omega)
      have k5 : decide ((i : Int) < (N : Int)) = true := decide_eq_true (by omega)
      have HLT := Lib.hid hi
      clear hi hfl
      go_wp2
      go_quiet (fail)
      go_wp2
      go_roundg (N - (i + 1)); (case measure => have := HI.out; have := HLT.out; omega)
      case rel => exact ⟨i + 1, by have := HLT.out; have := HH.out.2; rw [wrap_id (by omega) (by omega)]; rfl, ⟨by have := HLT.out; omega, rfl⟩, ⟨pxb HBI⟩⟩
    · obtain rfl : N = i := by have := HI.out; omega
      have k4 : decide (N < N) = false := decide_eq_false (by omega)
      have k5 : decide ((N : Int) < (N : Int)) = false := decide_eq_false (by omega)
      have hb := HBI.out
      have nHB_ := pxs HB hb; have nHG_ := G.moved HG hb; have nHE_ := Aside0.mk (Kd.C_below HE.out hb); have nHP_ := Aside0.mk (Kd.R_below HP.out hb); have nHFAR_ := Aside0.mk (Kd.R_below HFAR.out hb); have nHWANT_ := Aside0.mk (Kd.R_below HWANT.out hb); clear HB hb HG HE HP HFAR HWANT; have HB := nHB_; clear nHB_; have HG := nHG_; clear nHG_; have HE := nHE_; clear nHE_; have HP := nHP_; clear nHP_; have HFAR := nHFAR_; clear nHFAR_; have HWANT := nHWANT_; clear nHWANT_
      clear hi HI HBI
      have hp0 : pl.length = 0 := by rw [HPL.out]; exact path_out (by have := HNO.out; omega)
      have kp : ((pl.length : Int) == 0) = true := beq_iff_eq.2 (by omega)
      have kp2 : (pl.length == 0) = true := beq_iff_eq.2 hp0
      clear hp0
      go_wp2
      go_ret
      exact ⟨rfl, pxb HB⟩
set_option maxHeartbeats 16000000 in
set_option maxRecDepth 100000 in
theorem paths_main (N : Nat) (A1 : Option Addr) (c1 : Nat) (l : List S29) (node : Int) (w : World) (h1 : l.length ≤ 150) (h2 : N ≤ 60) (hC : Kd.C k29 w A1 l.length l) (hn : ¬ node < 0 ∧ node < (N : Int)) : Calls Try.prog 9 #[.int .i64 (N : Int), .slice A1 l.length c1, .int .i64 node] w fun e w' => e = .returned (.bool true) ∧ Below w.heap.size w w' := by
  have HB := Aside0.mk (Below.refl w.heap.size w)
  have tok_1 : True := trivial
  have tok_2 : True := trivial
  have HH := Lib.hid (And.intro h1 h2)
  have HC := Aside0.mk hC
  have HNO := Lib.hid hn
  have k1 : decide (node < 0) = false := decide_eq_false hn.1
  have k2 : decide ((N : Int) ≤ node) = false := decide_eq_false (by omega)
  have q0 : (0 ≤ node) = True := eq_true (by omega)
  have q1 : (node < (N : Int)) = True := eq_true hn.2
  clear h1 h2 hC hn
  have tok_3 : True := trivial
  have tok_4 : True := trivial
  have tok_5 : True := trivial
  have tok_6 : True := trivial
  go_enter Try.func9, Try.ntmps9
  go_wp2_with (first | (clear tok_1; go_at_call 10; (with_reducible refine (comes_any _).mono ?_); rintro e w1 ⟨rfl, hb⟩; have h1 := pxs HB hb; clear HB hb; have HB := h1; clear h1) | (clear tok_2; go_at_call 15; (with_reducible refine (build_main N A1 c1 l _ HH.out.1 HH.out.2 (Kd.C_below HC.out (pxb HB))).mono ?_); rintro e w2 ⟨g, es, O, ov, rfl, hg, hr, hlen, hb⟩; obtain ⟨Av, cv, hov⟩ := Kd.R_slice hr; rw [List.length_map] at hov; subst hov; have h1 := pxs HB hb; have HG := Aside0.mk hg; have HVAL := Lib.hid (G.val hg); have HE := Aside0.mk (Kd.R_reads' hr).2.2; have HEC := Aside0.mk (Kd.R_reads' hr).2.1; have HLEN := Lib.hid hlen; clear HB hb hg hr hlen; have HB := h1; clear h1) | (clear tok_3; go_at_call 23; (with_reducible refine (path_any node _ HG.out).mono ?_); rintro e w3 ⟨pv, rfl, hr, hb⟩; obtain ⟨pl, hpl⟩ : ∃ pl, pl = pathV N es node := ⟨_, rfl⟩; rw [← hpl] at hr; have HPL := Aside0.mk hpl; clear hpl; obtain ⟨Ap, cp, hpv⟩ := Kd.R_slice hr; subst hpv; have nHB_ := pxs HB hb; have nHG_ := G.moved HG hb; have nHE_ := Aside0.mk (Kd.C_below HE.out hb); clear HB hb HG HE; have HB := nHB_; clear nHB_; have HG := nHG_; clear nHG_; have HE := nHE_; clear nHE_; have HP := Aside0.mk hr; clear hr) | (clear tok_4; go_at_call 37; (with_reducible refine (far_any _ HG.out).mono ?_); rintro e w4 ⟨fv, rfl, hr, hb⟩; obtain ⟨Af, cf, hfv⟩ := Kd.R_slice hr; rw [farM_len (Nat.le_refl _)] at hfv; subst hfv; have nHB_ := pxs HB hb; have nHG_ := G.moved HG hb; have nHE_ := Aside0.mk (Kd.C_below HE.out hb); have nHP_ := Aside0.mk (Kd.R_below HP.out hb); clear HB hb HG HE HP; have HB := nHB_; clear nHB_; have HG := nHG_; clear nHG_; have HE := nHE_; clear nHE_; have HP := nHP_; clear nHP_; have HFAR := Aside0.mk hr; clear hr) | (clear tok_5; go_at_call 38; (with_reducible refine (reffar_any Av cv _ HH.out.2 HLEN.out HVAL.out (by have := HE.out; rwa [List.length_map] at this) HEC.out).mono ?_); rintro e w5 ⟨fv, rfl, hr, hb⟩; obtain ⟨Aw, cw, hfv⟩ := Kd.R_slice hr; rw [farM_len (Nat.le_refl _)] at hfv; subst hfv; have nHB_ := pxs HB hb; have nHG_ := G.moved HG hb; have nHE_ := Aside0.mk (Kd.C_below HE.out hb); have nHP_ := Aside0.mk (Kd.R_below HP.out hb); have nHFAR_ := Aside0.mk (Kd.R_below HFAR.out hb); clear HB hb HG HE HP HFAR; have HB := nHB_; clear nHB_; have HG := nHG_; clear nHG_; have HE := nHE_; clear nHE_; have HP := nHP_; clear nHP_; have HFAR := nHFAR_; clear nHFAR_; have HWANT := Aside0.mk hr; clear hr))
  go_loopg [38] N (fun kq v38 w' => ∃ i : Nat, v38 = .int .i64 i ∧ Hid (i ≤ N ∧ kq = N - i) ∧ Aside0 (Below w5.heap.size w5 w'))
  case atStart => exact ⟨0, rfl, ⟨Nat.zero_le _, rfl⟩, ⟨Below.refl _ _⟩⟩
  case round =>
    obtain ⟨i, rfl, HI, HBI⟩ := hrel
    by_cases hi : i < N
    · have hfl := farM_len (n := N) (es := es) (Nat.le_refl _)
      obtain ⟨adF, haF, xF⟩ := Kd.at_int (Kd.R_reads' HFAR.out).2.2 (i : Int) (by omega) (by omega)
      cases haF
      replace xF := (HBI.out.cell (World.block_lt_of_cell? _ _ xF)).trans xF
      obtain ⟨adW, haW, xW⟩ := Kd.at_int (Kd.R_reads' HWANT.out).2.2 (i : Int) (by omega) (by omega)
      cases haW
      replace xW := (HBI.out.cell (World.block_lt_of_cell? _ _ xW)).trans xW
      rw [Int.toNat_natCast] at xF xW
      generalize Go.Proofs.YtefgfnhhoidbdaaW.PrintWords.rd (farM N es N) (i : Int) = bv at xF xW
      have p3 : (0 ≤ (i : Int)) = True := eq_true (by omega)
      have p4 : ((i : Int) < (N : Int)) = True := eq_true (by omega)
      have p4' : (i < N) = True := eq_true (by omega)
      have k4 : decide (i < N) = true := decide_eq_true (by omega)
      have k5 : decide ((i : Int) < (N : Int)) = true := decide_eq_true (by omega)
      have HLT := Lib.hid hi
      clear hi hfl
      go_wp2
      go_quiet (fail)
      go_wp2
      go_roundg (N - (i + 1)); (case measure => have := HI.out; have := HLT.out; omega)
      case rel => exact ⟨i + 1, by have := HLT.out; have := HH.out.2; rw [wrap_id (by omega) (by omega)]; rfl, ⟨by have := HLT.out; omega, rfl⟩, ⟨pxb HBI⟩⟩
    · obtain rfl : N = i := by have := HI.out; omega
      have k4 : decide (N < N) = false := decide_eq_false (by omega)
      have k5 : decide ((N : Int) < (N : Int)) = false := decide_eq_false (by omega)
      have hb := HBI.out
      have nHB_ := pxs HB hb; have nHG_ := G.moved HG hb; have nHE_ := Aside0.mk (Kd.C_below HE.out hb); have nHP_ := Aside0.mk (Kd.R_below HP.out hb); have nHFAR_ := Aside0.mk (Kd.R_below HFAR.out hb); have nHWANT_ := Aside0.mk (Kd.R_below HWANT.out hb); clear HB hb HG HE HP HFAR HWANT; have HB := nHB_; clear nHB_; have HG := nHG_; clear nHG_; have HE := nHE_; clear nHE_; have HP := nHP_; clear nHP_; have HFAR := nHFAR_; clear nHFAR_; have HWANT := nHWANT_; clear nHWANT_
      clear hi HI HBI
      have hfl := farM_len (n := N) (es := es) (Nat.le_refl _)
      have hno := HNO.out
      have hfn := far_node (n := N) (es := es) (node := node) (by omega) hno.2
      rw [← HPL.out] at hfn
      obtain ⟨adW, haW, xW⟩ := Kd.at_int (Kd.R_reads' HWANT.out).2.2 node (by omega) (by omega)
      cases haW
      have hpf := path_facts HVAL.out (node := node) (by omega) hno.2
      rw [← HPL.out] at hpf
      generalize Go.Proofs.YtefgfnhhoidbdaaW.PrintWords.rd (farM N es N) node = y at *
      clear hfl hno
      by_cases hp0 : pl.length = 0
      · rw [if_pos hp0] at hfn
        subst hfn
        clear hpf
        have kp : ((pl.length : Int) == 0) = true := beq_iff_eq.2 (by omega)
        have kp2 : (pl.length == 0) = true := beq_iff_eq.2 hp0
        clear hp0
        go_wp2
        go_ret
        exact ⟨rfl, pxb HB⟩
      · rw [if_neg hp0] at hfn
        subst hfn
        have HPF := Lib.hid (hpf.resolve_left hp0)
        have HPS := Lib.hid (Kd.R_reads' HP.out).2.2.2.1
        have ky : decide ((pl.length : Int) < 0) = false := decide_eq_false (by omega)
        have ky2 : ((pl.length : Int) == (pl.length : Int)) = true := beq_self_eq_true _
        clear hpf hp0
        obtain ⟨wE, rfl⟩ : ∃ wE, wE = wr := ⟨_, rfl⟩
        have HE2 := Aside0.mk (show Kd.C k41 wE Av es.length (es.map to41) by have := HE.out; rwa [List.length_map] at this)
        have HB0 := HB
        clear HB
        have YW := Aside0.mk xW
        clear xW
        have xW := YW.out
        go_wp2
        clear xW
        go_loopg [14, 76] pl.length (fun kq v14 v76 w' => ∃ (i : Nat) (a : Int), v76 = .int .i64 i ∧ v14 = .int .i64 a ∧ Hid (i ≤ pl.length ∧ kq = pl.length - i ∧ Chain a (pl.drop i) node) ∧ Aside0 (Below wE.heap.size wE w'))
        case atStart => exact ⟨0, -1, rfl, rfl, ⟨Nat.zero_le _, rfl, HPF.out.1⟩, ⟨Below.refl _ _⟩⟩
        case round =>
          obtain ⟨i, a, rfl, rfl, HI, HB⟩ := hrel
          by_cases hi : i < pl.length
          · obtain ⟨adE, hadE, he0, he1, he2, he3⟩ := at_T29 (Kd.R_reads' HP.out).2.2 (i : Int) (by omega) (by omega)
            subst hadE
            replace he0 := (HB.out.cell (World.block_lt_of_cell? _ _ he0)).trans he0
            replace he1 := (HB.out.cell (World.block_lt_of_cell? _ _ he1)).trans he1
            replace he2 := (HB.out.cell (World.block_lt_of_cell? _ _ he2)).trans he2
            replace he3 := (HB.out.cell (World.block_lt_of_cell? _ _ he3)).trans he3
            rw [show rd_T29 pl (i : Int) = pl.getD i z29 from rfl, Int.toNat_natCast] at he0 he1 he2 he3
            have hge : pl.getD i z29 = pl[i] := by rw [List.getD_eq_getElem?_getD, List.getElem?_eq_getElem hi, Option.getD_some]
            have hch := HI.out.2.2
            rw [List.drop_eq_getElem_cons hi, ← hge] at hch
            have hin : pl.getD i z29 ∈ es := by rw [hge]; exact HPF.out.2 _ (List.getElem_mem hi)
            clear hge
            generalize pl.getD i z29 = x at *
            obtain ⟨hxa, hch⟩ := hch
            have HCH := Lib.hid hch; have HIN := Lib.hid hin; clear hch hin
            have HI2 := Lib.hid (And.intro HI.out.1 HI.out.2.1)
            clear HI
            subst hxa
            have p3 : (0 ≤ (i : Int)) = True := eq_true (by omega)
            have p4 : ((i : Int) < (pl.length : Int)) = True := eq_true (by omega)
            have p4' : (i < pl.length) = True := eq_true (by omega)
            have k4 : decide (i < pl.length) = true := decide_eq_true (by omega)
            have k5 : decide ((i : Int) < (pl.length : Int)) = true := decide_eq_true (by omega)
            have kx : (x.f0 != x.f0) = false := by simp
            have HLT := Lib.hid hi
            clear hi
            have tok_b : True := trivial
            have tok_i : True := trivial
            go_wp2_with (first | (clear tok_b; (with_reducible refine gate_dst (N := 16) rfl ?_); refine box_event ?hg (N := 16) ?hd (cs := #[.int .i64 0, .int .i64 0, .int .i64 0, .int .i64 0]) (t := 29) ?hr ?_; (case hd => rfl); (case hg => rfl); (case hr => first | (go_simp; done) | (go_simp; rfl)); intro gx hg w7 hbox hb; have NWXB := Aside0.mk hbox; have GWXB := Aside0.mk ((by rw [hg]; exact (below_size (pxb HB)) : wE.heap.size ≤ gx)); clear hg hbox; have n0_ := pxs HB hb; clear HB ; have HB := n0_; clear n0_; have XB := NWXB; clear NWXB hb; obtain ⟨xXB0, xXB1, xXB2, xXB3, yXB0, yXB1, yXB2, yXB3⟩ := pxf4 XB) | (clear tok_i; go_at_call 21; (with_reducible refine Calls.mono (in_yes Av cv _ HLEN.out (Kd.C_below HE2.out (pxb HB)) HEC.out HIN.out) ?_); rintro e w8 ⟨rfl, hb⟩; have n0_ := pxs HB hb; have nXB_ : Aside0 (w8.heap[gx]? = some (.cells #[.int .i64 x.f0, .int .i64 x.f1, .int .i64 x.f2, .int .i64 x.f3] 29 (0, 0))) := ⟨blk_below (pxp XB) hb⟩; clear HB XB; have HB := n0_; clear n0_; have XB := nXB_; clear nXB_; clear hb; obtain ⟨xXB0, xXB1, xXB2, xXB3, yXB0, yXB1, yXB2, yXB3⟩ := pxf4 XB))
            go_roundg (pl.length - (i + 1))
            case measure => have := HI2.out; have := HLT.out; omega
            case rel => exact ⟨i + 1, x.f1, by have := HLT.out; have := HPS.out; rw [wrap_id (by omega) (by omega)]; rfl, rfl, ⟨by have := HLT.out; omega, rfl, HCH.out⟩, ⟨pxb HB⟩⟩
          · obtain rfl : pl.length = i := by have := HI.out; omega
            have k4 : decide (pl.length < pl.length) = false := decide_eq_false (by omega)
            have k5 : decide ((pl.length : Int) < (pl.length : Int)) = false := decide_eq_false (by omega)
            obtain rfl : a = node := by have := HI.out.2.2; rw [List.drop_length] at this; exact this
            clear hi HI
            have kx : (a == a) = true := beq_self_eq_true _
            have xW := (HB.out.cell (World.block_lt_of_cell? _ _ YW.out)).trans YW.out
            go_wp2
            go_ret
            exact ⟨rfl, below_step HB0.out HB.out⟩
theorem paths_any (nodes : Int) (A1 : Option Addr) (c1 : Nat) (l : List S29) (node : Int) (w : World) (hC : Kd.C k29 w A1 l.length l) : Calls Try.prog 9 #[.int .i64 nodes, .slice A1 l.length c1, .int .i64 node] w fun e w' => e = .returned (.bool true) ∧ Below w.heap.size w w' := by
  by_cases h : nodes < 0 ∨ 60 < nodes ∨ 150 < l.length
  · exact paths_refused nodes A1 c1 l node w h
  · obtain ⟨N, rfl⟩ : ∃ N : Nat, nodes = (N : Int) := ⟨nodes.toNat, by omega⟩
    by_cases h3 : node < 0
    · exact paths_neg N A1 c1 l node w (by omega) (by omega) hC h3
    · by_cases h4 : (N : Int) ≤ node
      · exact paths_over N A1 c1 l node w (by omega) (by omega) hC ⟨h3, h4⟩
      · exact paths_main N A1 c1 l node w (by omega) (by omega) hC ⟨h3, by omega⟩
end Go.Proofs.Ytefgfnhhoidbdaa.GrW
