/- GraphShut: walked. -/
import Derived.Test.YtefgfnhhoidbdaaGraphW16
namespace Go.Proofs.Ytefgfnhhoidbdaa.GrW
open Go.RowKit Go.Proofs.YtefgfnhhoidbdaaW.PrintWords Go.Proofs.YtefgfnhhoidbdaaW.PrintLast Go.Proofs.Ytefgfnhhoidbdaa.X Go.Proofs.Ytefgfnhhoidbdaa.Gr
set_option linter.unusedVariables false
set_option linter.unusedSimpArgs false
attribute [local go_sem high] eqA41
theorem cut_at {es : List S29} {c : S29 → Bool} {i : Nat} (hi : i < es.length) (h : c (es.getD i z29) = true) : ((es.take i).filter c).length < (es.filter c).length ∧ (es.filter c).getD ((es.take i).filter c).length z29 = es.getD i z29 ∧ ((es.take i).filter c).length + 1 = ((es.take (i + 1)).filter c).length := by
  have he : es.getD i z29 = es[i] := by rw [List.getD_eq_getElem?_getD, List.getElem?_eq_getElem hi, Option.getD_some]
  rw [he] at h ⊢
  have h1 : es.filter c = (es.take i).filter c ++ es[i] :: (es.drop (i + 1)).filter c := by
    conv => lhs; rw [← List.take_append_drop i es, List.drop_eq_getElem_cons hi, List.filter_append, List.filter_cons_of_pos h]
  refine ⟨by rw [h1, List.length_append, List.length_cons]; omega, ?_, ?_⟩
  · rw [h1, List.getD_eq_getElem?_getD, List.getElem?_append_right (Nat.le_refl _), Nat.sub_self]
    rfl
  · rw [List.take_succ_eq_append_getElem hi, List.filter_append, List.filter_cons_of_pos h, List.filter_nil, List.length_append]
    rfl
theorem cut_no {es : List S29} {c : S29 → Bool} {i : Nat} (hi : i < es.length) (h : c (es.getD i z29) = false) : ((es.take i).filter c).length = ((es.take (i + 1)).filter c).length := by
  have he : es.getD i z29 = es[i] := by rw [List.getD_eq_getElem?_getD, List.getElem?_eq_getElem hi, Option.getD_some]
  rw [he] at h
  rw [List.take_succ_eq_append_getElem hi, List.filter_append, List.filter_cons_of_neg (by rw [h]; simp), List.filter_nil, List.append_nil]
theorem shF_take {l : List Int} {j : Nat} (hj : j < l.length) {x : Int} : shF (l.take (j + 1)) x = (shF (l.take j) x || rd l (j : Int) == x) := by
  have h1 : rd l (j : Int) = l[j] := by unfold rd; rw [Int.toNat_natCast, List.getD_eq_getElem?_getD, List.getElem?_eq_getElem hj, Option.getD_some]
  rw [h1]
  unfold shF
  rw [List.take_succ_eq_append_getElem hj, List.contains_append, List.contains_cons, List.contains_nil, Bool.or_false, BEq.comm]
/-- The document's Solve where some are shut. -/
theorem refshut_any {n : Nat} {es : List S29} (A1 : Option Addr) (c1 : Nat) (A2 : Option Addr) (c2 : Nat) (sh : List Int) (w : World) (hn : n ≤ 60) (hl : es.length ≤ 150) (hs : sh.length ≤ 40) (hv : ∀ k, k < es.length → -1 ≤ Fm es k ∧ Fm es k < n ∧ 0 ≤ Tm es k ∧ Tm es k < n) (hC : Kd.C k41 w A1 es.length (es.map to41)) (hc : es.length ≤ c1) (hC2 : Kd.C (Kd.int .i64) w A2 sh.length sh) (hc2 : sh.length ≤ c2) :
    Calls Try.prog 17 #[.int .i64 (n : Int), .slice A1 es.length c1, .slice A2 sh.length c2] w fun e w' => ∃ v, e = .returned v ∧ Kd.R Kd.bool 4 w' w.heap.size (fun _ => True) v (innV n es sh) ∧ Below w.heap.size w w' := by
  obtain ⟨dp, hf⟩ := walkL_fin (n := n) (F := Fm es) (shut := shF sh) (skip := -1) (fun k hk => (hv k hk).2.2)
  obtain ⟨k, hk⟩ := ref_solve hf hv (by omega) (by omega) (by omega)
  have hlen : (es.map to41).length = es.length := List.length_map ..
  have h := caulkerref21_Solve.calls k (n : Int) A1 c1 (es.map to41) A2 c2 sh _ w (by rw [hlen]; exact hC) (by rw [hlen]; exact hc) hC2 hc2 hk
  rw [hlen] at h
  exact h
theorem innV_len {g B n : Nat} {es : List S29} {O : Nat → Prop} {w : World} (h : G g B n es O w) (sh : List Int) : (innV n es sh).length = n := by
  obtain ⟨_, _, _, _, hga⟩ := h
  unfold innV comesL
  rw [List.length_map]
  exact wL_len hga.1 _ _
set_option maxHeartbeats 16000000 in
set_option maxRecDepth 100000 in
theorem shut_refused (nodes : Int) (A1 : Option Addr) (c1 : Nat) (l : List S29) (A2 : Option Addr) (c2 : Nat) (sh : List Int) (w : World) (h : nodes < 0 ∨ 60 < nodes ∨ 150 < l.length) : Calls Try.prog 5 #[.int .i64 nodes, .slice A1 l.length c1, .slice A2 sh.length c2] w fun e w' => e = .returned (.bool true) ∧ Below w.heap.size w w' := by
  have HB := Aside0.mk (Below.refl w.heap.size w)
  have tok_1 : True := trivial
  have tok_2 : True := trivial
  have HBU := Lib.hid (fun W => build_refused nodes A1 c1 l W h)
  clear h
  go_enter Try.func5, Try.ntmps5
  go_wp2_with (first | (clear tok_1; go_at_call 10; (with_reducible refine (comes_any _).mono ?_); rintro e w1 ⟨rfl, hb⟩; have h1 := pxs HB hb; clear HB hb; have HB := h1; clear h1) | (clear tok_2; go_at_call 15; (with_reducible refine (HBU.out _).mono ?_); rintro e w2 ⟨rfl, hb⟩; have h1 := pxs HB hb; clear HB hb; have HB := h1; clear h1))
  go_ret
  exact ⟨rfl, pxb HB⟩
set_option maxHeartbeats 16000000 in
set_option maxRecDepth 100000 in
theorem shut_many (N : Nat) (A1 : Option Addr) (c1 : Nat) (l : List S29) (A2 : Option Addr) (c2 : Nat) (sh : List Int) (w : World) (h1 : l.length ≤ 150) (h2 : N ≤ 60) (hC : Kd.C k29 w A1 l.length l) (h3 : 40 < sh.length) : Calls Try.prog 5 #[.int .i64 (N : Int), .slice A1 l.length c1, .slice A2 sh.length c2] w fun e w' => e = .returned (.bool true) ∧ Below w.heap.size w w' := by
  have HB := Aside0.mk (Below.refl w.heap.size w)
  have tok_1 : True := trivial
  have tok_2 : True := trivial
  have HH := Lib.hid (And.intro h1 h2)
  have HC := Aside0.mk hC
  have k3 : decide ((40 : Int) < (sh.length : Int)) = true := decide_eq_true (by omega)
  have k3' : decide (40 < sh.length) = true := decide_eq_true h3
  clear h1 h2 h3 hC
  go_enter Try.func5, Try.ntmps5
  go_wp2_with (first | (clear tok_1; go_at_call 10; (with_reducible refine (comes_any _).mono ?_); rintro e w1 ⟨rfl, hb⟩; have h1 := pxs HB hb; clear HB hb; have HB := h1; clear h1) | (clear tok_2; go_at_call 15; (with_reducible refine (build_main N A1 c1 l _ HH.out.1 HH.out.2 (Kd.C_below HC.out (pxb HB))).mono ?_); rintro e w2 ⟨g, es, O, ov, rfl, hg, hr, hlen, hb⟩; obtain ⟨Av, cv, hov⟩ := Kd.R_slice hr; rw [List.length_map] at hov; subst hov; have h1 := pxs HB hb; have HG := Aside0.mk hg; have HVAL := Lib.hid (G.val hg); have HE := Aside0.mk (Kd.R_reads' hr).2.2; have HEC := Aside0.mk (Kd.R_reads' hr).2.1; have HLEN := Lib.hid hlen; clear HB hb hg hr hlen; have HB := h1; clear h1))
  go_ret
  exact ⟨rfl, pxb HB⟩
set_option maxHeartbeats 16000000 in
set_option maxRecDepth 100000 in
theorem shut_main (N : Nat) (A1 : Option Addr) (c1 : Nat) (l : List S29) (A2 : Option Addr) (c2 : Nat) (sh : List Int) (w : World) (h1 : l.length ≤ 150) (h2 : N ≤ 60) (hC : Kd.C k29 w A1 l.length l) (h3 : sh.length ≤ 40) (hS : Kd.C (Kd.int .i64) w A2 sh.length sh) (hc2 : sh.length ≤ c2) (hwf : ∀ i, i ∈ sh → (Lit.int .i64 i).wf = true) : Calls Try.prog 5 #[.int .i64 (N : Int), .slice A1 l.length c1, .slice A2 sh.length c2] w fun e w' => e = .returned (.bool true) ∧ Below w.heap.size w w' := by
  have HB := Aside0.mk (Below.refl w.heap.size w)
  have tok_1 : True := trivial
  have tok_2 : True := trivial
  have HH := Lib.hid (And.intro h1 h2)
  have HC := Aside0.mk hC
  have HS := Aside0.mk hS
  have HSL := Lib.hid h3
  have HS2 := Lib.hid hc2
  have HWF := Aside0.mk hwf
  have k3 : decide ((40 : Int) < (sh.length : Int)) = false := decide_eq_false (by omega)
  have k3' : decide (40 < sh.length) = false := decide_eq_false (by omega)
  clear h1 h2 h3 hC hS hc2 hwf
  have tok_3 : True := trivial
  have tok_4 : True := trivial
  have tok_5 : True := trivial
  go_enter Try.func5, Try.ntmps5
  go_wp2_with (first | (clear tok_1; go_at_call 10; (with_reducible refine (comes_any _).mono ?_); rintro e w1 ⟨rfl, hb⟩; have h1 := pxs HB hb; clear HB hb; have HB := h1; clear h1) | (clear tok_2; go_at_call 15; (with_reducible refine (build_main N A1 c1 l _ HH.out.1 HH.out.2 (Kd.C_below HC.out (pxb HB))).mono ?_); rintro e w2 ⟨g, es, O, ov, rfl, hg, hr, hlen, hb⟩; obtain ⟨Av, cv, hov⟩ := Kd.R_slice hr; rw [List.length_map] at hov; subst hov; have h1 := pxs HB hb; have HG := Aside0.mk hg; have HVAL := Lib.hid (G.val hg); have HE := Aside0.mk (Kd.R_reads' hr).2.2; have HEC := Aside0.mk (Kd.R_reads' hr).2.1; have HLEN := Lib.hid hlen; clear HB hb hg hr hlen; have HB := h1; clear h1) | (clear tok_3; go_at_call 19; (with_reducible refine (shut_any A2 c2 sh _ HG.out (Kd.C_below HS.out (pxb HB)) (by have := HSL.out; omega) HWF.out).mono ?_); rintro e w3 ⟨gv, dv, rfl, hr, hd, hb⟩; have HLW := Lib.hid (innV_len HG.out sh); obtain ⟨Ag, cg, hgv⟩ := Kd.R_slice hr; rw [HLW.out] at hgv; subst hgv; obtain ⟨cl, hcl⟩ : ∃ cl, cl = es.filter (cutE (innV N es sh) sh) := ⟨_, rfl⟩; rw [← hcl] at hd; have HCL := Aside0.mk hcl; clear hcl; obtain ⟨Ad, cd, hdv⟩ := Kd.R_slice hd; subst hdv; have nHB_ := pxs HB hb; have nHG_ := G.moved HG hb; have nHE_ := Aside0.mk (Kd.C_below HE.out hb); clear HB hb HG HE; have HB := nHB_; clear nHB_; have HG := nHG_; clear nHG_; have HE := nHE_; clear nHE_; have HGOT := Aside0.mk hr; have HCUT := Aside0.mk hd; clear hr hd) | (clear tok_4; go_at_call 17; (with_reducible refine (refshut_any Av cv A2 c2 sh _ HH.out.2 HLEN.out HSL.out HVAL.out (by have := HE.out; rwa [List.length_map] at this) HEC.out (Kd.C_below HS.out (pxb HB)) HS2.out).mono ?_); rintro e w4 ⟨fv, rfl, hr, hb⟩; obtain ⟨Af, cf, hfv⟩ := Kd.R_slice hr; rw [HLW.out] at hfv; subst hfv; have nHB_ := pxs HB hb; have nHG_ := G.moved HG hb; have nHE_ := Aside0.mk (Kd.C_below HE.out hb); have nHGOT_ := Aside0.mk (Kd.R_below HGOT.out hb); have nHCUT_ := Aside0.mk (Kd.R_below HCUT.out hb); clear HB hb HG HE HGOT HCUT; have HB := nHB_; clear nHB_; have HG := nHG_; clear nHG_; have HE := nHE_; clear nHE_; have HGOT := nHGOT_; clear nHGOT_; have HCUT := nHCUT_; clear nHCUT_; have HWANT := Aside0.mk hr; clear hr))
  go_loopg [52] N (fun kq v52 w' => ∃ i : Nat, v52 = .int .i64 i ∧ Hid (i ≤ N ∧ kq = N - i) ∧ Aside0 (Below w4.heap.size w4 w'))
  case atStart => exact ⟨0, rfl, ⟨Nat.zero_le _, rfl⟩, ⟨Below.refl _ _⟩⟩
  case round =>
    obtain ⟨i, rfl, HI, HBI⟩ := hrel
    by_cases hi : i < N
    · have hlw := HLW.out
      obtain ⟨adG, haG, xG⟩ := Kd.at_bool (Kd.R_reads' HGOT.out).2.2 (i : Int) (by omega) (by omega)
      cases haG
      replace xG := (HBI.out.cell (World.block_lt_of_cell? _ _ xG)).trans xG
      obtain ⟨adW, haW, xW⟩ := Kd.at_bool (Kd.R_reads' HWANT.out).2.2 (i : Int) (by omega) (by omega)
      cases haW
      replace xW := (HBI.out.cell (World.block_lt_of_cell? _ _ xW)).trans xW
      rw [Int.toNat_natCast] at xG xW
      generalize rdOf false _ (i : Int) = bv at xG xW
      have p3 : (0 ≤ (i : Int)) = True := eq_true (by omega)
      have p4 : ((i : Int) < (N : Int)) = True := eq_true (by omega)
      have p4' : (i < N) = True := eq_true (by omega)
      have k4 : decide (i < N) = true := decide_eq_true (by omega)
      have k5 : decide ((i : Int) < (N : Int)) = true := decide_eq_true (by omega)
      have HLT := Lib.hid hi
      clear hi hlw
      cases bv <;> (go_wp2; go_quiet (fail); go_wp2; go_roundg (N - (i + 1)); (case measure => have := HI.out; have := HLT.out; omega); (case rel => exact ⟨i + 1, by have := HLT.out; have := HH.out.2; rw [wrap_id (by omega) (by omega)]; rfl, ⟨by have := HLT.out; omega, rfl⟩, ⟨pxb HBI⟩⟩))
    · obtain rfl : N = i := by have := HI.out; omega
      have k4 : decide (N < N) = false := decide_eq_false (by omega)
      have k5 : decide ((N : Int) < (N : Int)) = false := decide_eq_false (by omega)
      have hb := HBI.out
      have nHB_ := pxs HB hb; have nHG_ := G.moved HG hb; have nHE_ := Aside0.mk (Kd.C_below HE.out hb); have nHGOT_ := Aside0.mk (Kd.R_below HGOT.out hb); have nHCUT_ := Aside0.mk (Kd.R_below HCUT.out hb); have nHWANT_ := Aside0.mk (Kd.R_below HWANT.out hb); clear HB hb HG HE HGOT HCUT HWANT; have HB := nHB_; clear nHB_; have HG := nHG_; clear nHG_; have HE := nHE_; clear nHE_; have HGOT := nHGOT_; clear nHGOT_; have HCUT := nHCUT_; clear nHCUT_; have HWANT := nHWANT_; clear nHWANT_
      clear hi HI HBI
      go_wp2
      obtain ⟨wE, rfl⟩ : ∃ wE, wE = wr := ⟨_, rfl⟩
      have HSE := Aside0.mk (Kd.C_below HS.out HB.out)
      have HB0 := HB
      clear HB
      go_loopg [14, 67] es.length (fun kq v14 v67 w' => ∃ i K : Nat, v67 = .int .i64 i ∧ v14 = .int .i64 K ∧ Hid (i ≤ es.length ∧ kq = es.length - i ∧ K = ((es.take i).filter (cutE (innV N es sh) sh)).length) ∧ Aside0 (Below wE.heap.size wE w'))
      case atStart => exact ⟨0, 0, rfl, rfl, ⟨Nat.zero_le _, rfl, rfl⟩, ⟨Below.refl _ _⟩⟩
      case round =>
        obtain ⟨i, K, rfl, rfl, HI, HB⟩ := hrel
        by_cases hi : i < es.length
        · have hvk := HVAL.out i hi
          unfold Fm Tm at hvk
          obtain ⟨adE, hadE, he0, he1, he2, he3⟩ := at_T41 HE.out (i : Int) (by omega) (by rw [List.length_map]; omega)
          subst hadE
          replace he0 := (HB.out.cell (World.block_lt_of_cell? _ _ he0)).trans he0
          replace he1 := (HB.out.cell (World.block_lt_of_cell? _ _ he1)).trans he1
          replace he2 := (HB.out.cell (World.block_lt_of_cell? _ _ he2)).trans he2
          replace he3 := (HB.out.cell (World.block_lt_of_cell? _ _ he3)).trans he3
          rw [rd41, Int.toNat_natCast] at he0 he1 he2 he3
          have hkn : (cutE (innV N es sh) sh) (es.getD i z29) = true → K < cl.length ∧ cl.getD K z29 = es.getD i z29 ∧ K + 1 = ((es.take (i + 1)).filter (cutE (innV N es sh) sh)).length := fun h => by rw [HCL.out, HI.out.2.2]; exact cut_at hi h
          have hks : (cutE (innV N es sh) sh) (es.getD i z29) = false → K = ((es.take (i + 1)).filter (cutE (innV N es sh) sh)).length := fun h => by rw [HI.out.2.2]; exact cut_no hi h
          have hcx : (cutE (innV N es sh) sh) (es.getD i z29) = (shF sh (es.getD i z29).f1 && (decide ((es.getD i z29).f0 = -1) || bG (innV N es sh) (es.getD i z29).f0)) := rfl
          have hkl : K ≤ 150 := by rw [HI.out.2.2]; refine Nat.le_trans (List.length_filter_le _ _) ?_; rw [List.length_take]; have := HLEN.out; omega
          generalize es.getD i z29 = e at *
          replace he0 : _ = some (Value.int .i64 e.f0) := he0
          replace he1 : _ = some (Value.int .i64 e.f1) := he1
          replace he2 : _ = some (Value.int .i64 e.f2) := he2
          replace he3 : _ = some (Value.int .i64 e.f3) := he3
          have p3 : (0 ≤ (i : Int)) = True := eq_true (by omega)
          have p4 : ((i : Int) < (es.length : Int)) = True := eq_true (by omega)
          have p4' : (i < es.length) = True := eq_true (by omega)
          have k4 : decide (i < es.length) = true := decide_eq_true (by omega)
          have k5 : decide ((i : Int) < (es.length : Int)) = true := decide_eq_true (by omega)
          have HLT := Lib.hid hi
          have HKN := Lib.hid hkn
          have HKS := Lib.hid hks
          have HCX := Lib.hid hcx
          have HVK := Lib.hid hvk
          have HKL := Lib.hid hkl
          clear hi hkn hks hcx hvk hkl
          have tok_b : True := trivial
          go_wp2_with (first | (clear tok_b; (with_reducible refine gate_dst (N := 16) rfl ?_); refine box_event ?hg (N := 16) ?hd (cs := #[.int .i64 0, .int .i64 0, .int .i64 0, .int .i64 0]) (t := 41) ?hr ?_; (case hd => rfl); (case hg => rfl); (case hr => first | (go_simp; done) | (go_simp; rfl)); intro gx hg w7 hbox hb; have NWXB := Aside0.mk hbox; have GWXB := Aside0.mk ((by rw [hg]; exact (below_size (pxb HB)) : wE.heap.size ≤ gx)); clear hg hbox; have n0_ := pxs HB hb; clear HB ; have HB := n0_; clear n0_; have XB := NWXB; clear NWXB hb; obtain ⟨xXB0, xXB1, xXB2, xXB3, yXB0, yXB1, yXB2, yXB3⟩ := pxf4 XB))
          go_loopg [17, 73] sh.length (fun kq v17 v73 w' => ∃ j : Nat, v73 = .int .i64 j ∧ v17 = .bool (shF (sh.take j) e.f1) ∧ Hid (j ≤ sh.length ∧ kq = sh.length - j) ∧ Aside0 (w'.heap[gx]? = some (.cells #[.int .i64 e.f0, .int .i64 e.f1, .int .i64 e.f2, .int .i64 e.f3] 41 (0, 0))) ∧ Aside0 (Below wE.heap.size wE w'))
          case atStart => exact ⟨0, rfl, rfl, ⟨Nat.zero_le _, rfl⟩, ⟨pxp XB⟩, ⟨pxb HB⟩⟩
          case round =>
            clear HB XB xXB0 xXB1 xXB2 xXB3 yXB0 yXB1 yXB2 yXB3 he0 he1 he2 he3
            obtain ⟨j, rfl, rfl, HJ, XB, HB⟩ := hrel
            obtain ⟨xXB0, xXB1, xXB2, xXB3, yXB0, yXB1, yXB2, yXB3⟩ := pxf4 XB
            by_cases hj : j < sh.length
            · obtain ⟨adS, haS, xS⟩ := Kd.at_int HSE.out (j : Int) (by omega) (by omega)
              cases haS
              replace xS := (HB.out.cell (World.block_lt_of_cell? _ _ xS)).trans xS
              rw [Int.toNat_natCast] at xS
              have htk : shF (sh.take (j + 1)) e.f1 = (shF (sh.take j) e.f1 || rd sh (j : Int) == e.f1) := shF_take hj
              generalize rd sh (j : Int) = sj at xS htk
              have p5 : (0 ≤ (j : Int)) = True := eq_true (by omega)
              have p6 : ((j : Int) < (sh.length : Int)) = True := eq_true (by omega)
              have p6' : (j < sh.length) = True := eq_true (by omega)
              have k6 : decide (j < sh.length) = true := decide_eq_true (by omega)
              have k7 : decide ((j : Int) < (sh.length : Int)) = true := decide_eq_true (by omega)
              have HJT := Lib.hid hj
              clear hj
              cases hb : shF (sh.take j) e.f1
              · rw [hb, Bool.false_or] at htk
                have HTK := Aside0.mk htk
                clear htk hb
                by_cases hs : sj = e.f1
                · have ks : (sj == e.f1) = true := beq_iff_eq.2 hs
                  rw [ks] at HTK
                  clear hs
                  go_wp2; go_roundg (sh.length - (j + 1)); (case measure => have := HJ.out; have := HJT.out; omega); (case rel => exact ⟨j + 1, by have := HJT.out; have := HSL.out; rw [wrap_id (by omega) (by omega)]; rfl, by rw [HTK.out], ⟨by have := HJT.out; omega, rfl⟩, ⟨pxp XB⟩, ⟨pxb HB⟩⟩)
                · have ks : (sj == e.f1) = false := beq_eq_false_iff_ne.2 hs
                  rw [ks] at HTK
                  clear hs
                  go_wp2; go_roundg (sh.length - (j + 1)); (case measure => have := HJ.out; have := HJT.out; omega); (case rel => exact ⟨j + 1, by have := HJT.out; have := HSL.out; rw [wrap_id (by omega) (by omega)]; rfl, by rw [HTK.out], ⟨by have := HJT.out; omega, rfl⟩, ⟨pxp XB⟩, ⟨pxb HB⟩⟩)
              · rw [hb, Bool.true_or] at htk
                have HTK := Aside0.mk htk
                clear htk hb
                go_wp2; go_roundg (sh.length - (j + 1)); (case measure => have := HJ.out; have := HJT.out; omega); (case rel => exact ⟨j + 1, by have := HJT.out; have := HSL.out; rw [wrap_id (by omega) (by omega)]; rfl, by rw [HTK.out], ⟨by have := HJT.out; omega, rfl⟩, ⟨pxp XB⟩, ⟨pxb HB⟩⟩)
            · obtain rfl : sh.length = j := by have := HJ.out; omega
              have k6 : decide (sh.length < sh.length) = false := decide_eq_false (by omega)
              have k7 : decide ((sh.length : Int) < (sh.length : Int)) = false := decide_eq_false (by omega)
              rw [List.take_length]
              clear hj HJ
              cases hb : shF sh e.f1
              · have HN := Lib.hid (HKS.out (by rw [HCX.out, hb, Bool.false_and]; try rfl)); clear HKS HKN HCX HVK; go_wp2; go_roundg (es.length - (i + 1)); (case measure => have := HI.out; have := HLT.out; omega); (case rel => exact ⟨i + 1, K, by have := HLT.out; have := HLEN.out; rw [wrap_id (by omega) (by omega)]; rfl, rfl, ⟨by have := HLT.out; omega, rfl, HN.out⟩, ⟨pxb HB⟩⟩)
              · by_cases h0 : e.f0 = -1
                · have k9 : decide (0 ≤ e.f0) = false := decide_eq_false (by omega)
                  have k9' : (0 ≤ e.f0) = False := eq_false (by omega)
                  have hq := HKN.out (by rw [HCX.out, hb, decide_eq_true h0]; rfl)
                  clear h0 hb
                  have HN := Lib.hid hq.2.2
                  obtain ⟨adC, haC, c0, c1_, c2_, c3⟩ := at_T29 (Kd.R_reads' HCUT.out).2.2 (K : Int) (by omega) (by omega)
                  subst haC
                  rw [show rd_T29 cl (K : Int) = cl.getD K z29 from rfl, hq.2.1, Int.toNat_natCast] at c0 c1_ c2_ c3
                  replace c0 := (HB.out.cell (World.block_lt_of_cell? _ _ c0)).trans c0
                  replace c1_ := (HB.out.cell (World.block_lt_of_cell? _ _ c1_)).trans c1_
                  replace c2_ := (HB.out.cell (World.block_lt_of_cell? _ _ c2_)).trans c2_
                  replace c3 := (HB.out.cell (World.block_lt_of_cell? _ _ c3)).trans c3
                  have p5 : (0 ≤ (K : Int)) = True := eq_true (by omega)
                  have p6 : ((K : Int) < (cl.length : Int)) = True := eq_true (by omega)
                  have p6' : (K < cl.length) = True := eq_true hq.1
                  have k8 : decide ((cl.length : Int) ≤ (K : Int)) = false := decide_eq_false (by omega)
                  have k8' : decide (cl.length ≤ K) = false := decide_eq_false (by omega)
                  clear hq HKN HKS HCX HVK
                  go_wp2
                  go_quiet (fail)
                  go_wp2
                  go_roundg (es.length - (i + 1)); (case measure => have := HI.out; have := HLT.out; omega); (case rel => exact ⟨i + 1, K + 1, by have := HLT.out; have := HLEN.out; rw [wrap_id (by omega) (by omega)]; rfl, by have := HKL.out; rw [wrap_id (by omega) (by omega)]; rfl, ⟨by have := HLT.out; omega, rfl, HN.out⟩, ⟨pxb HB⟩⟩)
                · have hvk := HVK.out
                  have hlw := HLW.out
                  have k9 : decide (0 ≤ e.f0) = true := decide_eq_true (by omega)
                  have q2 : (0 ≤ e.f0) = True := eq_true (by omega)
                  have q3 : (e.f0 < (N : Int)) = True := eq_true (by omega)
                  obtain ⟨adF, haF, xF⟩ := Kd.at_bool (Kd.R_reads' HWANT.out).2.2 e.f0 (by omega) (by omega)
                  cases haF
                  replace xF := (HB.out.cell (World.block_lt_of_cell? _ _ xF)).trans xF
                  rw [show rdOf false (innV N es sh) e.f0 = bG (innV N es sh) e.f0 from rfl] at xF
                  have hd0 := decide_eq_false h0
                  clear h0 hvk hlw
                  cases hg : bG (innV N es sh) e.f0
                  · rw [hg] at xF; have HN := Lib.hid (HKS.out (by rw [HCX.out, hb, hd0, hg]; try rfl)); clear hd0 hg HKS HKN HCX HVK; go_wp2; go_roundg (es.length - (i + 1)); (case measure => have := HI.out; have := HLT.out; omega); (case rel => exact ⟨i + 1, K, by have := HLT.out; have := HLEN.out; rw [wrap_id (by omega) (by omega)]; rfl, rfl, ⟨by have := HLT.out; omega, rfl, HN.out⟩, ⟨pxb HB⟩⟩)
                  · rw [hg] at xF
                    have hq := HKN.out (by rw [HCX.out, hb, hd0, hg]; rfl)
                    clear hd0 hg hb
                    have HN := Lib.hid hq.2.2
                    obtain ⟨adC, haC, c0, c1_, c2_, c3⟩ := at_T29 (Kd.R_reads' HCUT.out).2.2 (K : Int) (by omega) (by omega)
                    subst haC
                    rw [show rd_T29 cl (K : Int) = cl.getD K z29 from rfl, hq.2.1, Int.toNat_natCast] at c0 c1_ c2_ c3
                    replace c0 := (HB.out.cell (World.block_lt_of_cell? _ _ c0)).trans c0
                    replace c1_ := (HB.out.cell (World.block_lt_of_cell? _ _ c1_)).trans c1_
                    replace c2_ := (HB.out.cell (World.block_lt_of_cell? _ _ c2_)).trans c2_
                    replace c3 := (HB.out.cell (World.block_lt_of_cell? _ _ c3)).trans c3
                    have p5 : (0 ≤ (K : Int)) = True := eq_true (by omega)
                    have p6 : ((K : Int) < (cl.length : Int)) = True := eq_true (by omega)
                    have p6' : (K < cl.length) = True := eq_true hq.1
                    have k8 : decide ((cl.length : Int) ≤ (K : Int)) = false := decide_eq_false (by omega)
                    have k8' : decide (cl.length ≤ K) = false := decide_eq_false (by omega)
                    clear hq HKN HKS HCX HVK
                    go_wp2
                    go_quiet (fail)
                    go_wp2
                    go_roundg (es.length - (i + 1)); (case measure => have := HI.out; have := HLT.out; omega); (case rel => exact ⟨i + 1, K + 1, by have := HLT.out; have := HLEN.out; rw [wrap_id (by omega) (by omega)]; rfl, by have := HKL.out; rw [wrap_id (by omega) (by omega)]; rfl, ⟨by have := HLT.out; omega, rfl, HN.out⟩, ⟨pxb HB⟩⟩)
        · obtain rfl : es.length = i := by have := HI.out; omega
          have k4 : decide (es.length < es.length) = false := decide_eq_false (by omega)
          have k5 : decide ((es.length : Int) < (es.length : Int)) = false := decide_eq_false (by omega)
          have hK : K = cl.length := by rw [HI.out.2.2, List.take_length, HCL.out]
          subst hK
          have k8 : ((cl.length : Int) == (cl.length : Int)) = true := beq_self_eq_true _
          clear hi HI
          go_wp2
          go_ret
          exact ⟨rfl, below_step HB0.out HB.out⟩
theorem shutlaw_any (nodes : Int) (A1 : Option Addr) (c1 : Nat) (l : List S29) (A2 : Option Addr) (c2 : Nat) (sh : List Int) (w : World) (hC : Kd.C k29 w A1 l.length l) (hS : Kd.C (Kd.int .i64) w A2 sh.length sh) (hc2 : sh.length ≤ c2) (hwf : ∀ i, i ∈ sh → (Lit.int .i64 i).wf = true) : Calls Try.prog 5 #[.int .i64 nodes, .slice A1 l.length c1, .slice A2 sh.length c2] w fun e w' => e = .returned (.bool true) ∧ Below w.heap.size w w' := by
  by_cases h : nodes < 0 ∨ 60 < nodes ∨ 150 < l.length
  · exact shut_refused nodes A1 c1 l A2 c2 sh w h
  · obtain ⟨N, rfl⟩ : ∃ N : Nat, nodes = (N : Int) := ⟨nodes.toNat, by omega⟩
    by_cases h3 : sh.length ≤ 40
    · exact shut_main N A1 c1 l A2 c2 sh w (by omega) (by omega) hC h3 hS hc2 hwf
    · exact shut_many N A1 c1 l A2 c2 sh w (by omega) (by omega) hC (by omega)
end Go.Proofs.Ytefgfnhhoidbdaa.GrW
