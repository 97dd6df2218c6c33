/- GraphWithout: walked. -/
import Derived.Test.YtefgfnhhoidbdaaGraphW19
import Derived.Test.YtefgfnhhoidbdaaGraphWords
import Derived.Test.YtefgfnhhoidbdaaX22
namespace Go.Proofs.Ytefgfnhhoidbdaa.GrW
open Go.RowKit Go.Proofs.YtefgfnhhoidbdaaW.PrintWords Go.Proofs.YtefgfnhhoidbdaaW.PrintLast Go.Proofs.Ytefgfnhhoidbdaa.X Go.Proofs.Ytefgfnhhoidbdaa.Gr
set_option linter.unusedVariables false
set_option linter.unusedSimpArgs false
theorem inf41i : ∃ i, Try.prog.info? 41 = some i ∧ i.size = 4 := by
  obtain ⟨i, h1, h2⟩ := Option.map_eq_some_iff.1 inf41
  simp only [Prod.mk.injEq] at h2
  exact ⟨i, h1, h2.2.1⟩
theorem find_l0 {l : List S29} {x : S29} (hl : l.length ≤ 100000) : ∀ (k i : Nat), l.length < k + i → i ≤ l.length → x ∈ l.drop i → caulkerlaw21_find.l0 k l (l.length : Int) (i : Int) x.f0 x.f1 x.f2 x.f3 = some (x.f0, x.f1, x.f2, x.f3)
  | 0, i, h, h1, _ => by omega
  | k + 1, i, h, h1, hx => by
    rw [caulkerlaw21_find.l0]
    by_cases hi : i < l.length
    · rw [if_pos (by omega), if_pos (by omega), if_pos (by omega)]
      have e1 : rd_T29 l (i : Int) = l[i] := by
        unfold rd_T29
        rw [Int.toNat_natCast, List.getD_eq_getElem?_getD, List.getElem?_eq_getElem hi, Option.getD_some]
      rw [e1]
      rw [List.drop_eq_getElem_cons hi] at hx
      by_cases he : l[i] = x
      · rw [if_pos (by rw [he]; simp), he]
      · rw [if_neg (fun e => he (by simp only [Bool.and_eq_true, beq_iff_eq] at e; obtain ⟨a, b, c, d⟩ := e; exact s29_ext a b c d)), wrap_id (by omega) (by omega), show (i : Int) + 1 = ((i + 1 : Nat) : Int) from rfl]
        exact find_l0 hl k (i + 1) (by omega) (by omega) ((List.mem_cons.1 hx).resolve_left (fun e => he e.symm))
    · rw [List.drop_eq_nil_of_le (by omega)] at hx
      cases hx
theorem find_yes {l : List S29} {x : S29} (A1 : Option Addr) (c1 : Nat) (w : World) (hl : l.length ≤ 100000) (hC : Kd.C k29 w A1 l.length l) (hc : l.length ≤ c1) (hx : x ∈ l) :
    Calls Try.prog 22 #[.slice A1 l.length c1, .agg #[.int .i64 x.f0, .int .i64 x.f1, .int .i64 x.f2, .int .i64 x.f3]] w fun e w' => e = .returned (.agg #[.int .i64 x.f0, .int .i64 x.f1, .int .i64 x.f2, .int .i64 x.f3]) ∧ Below w.heap.size w w' :=
  caulkerlaw21_find.calls (l.length + 1) A1 c1 l x.f0 x.f1 x.f2 x.f3 _ _ _ _ w hC hc (find_l0 hl (l.length + 1) 0 (by omega) (Nat.zero_le _) (by rw [List.drop_zero]; exact hx))
theorem in_one {x : S29} (A1 : Option Addr) (c1 : Nat) (w : World) (hC : Kd.C k41 w A1 1 [to41 x]) (hc : 1 ≤ c1) :
    Calls Try.prog 21 #[.slice A1 1 c1, .agg #[.int .i64 x.f0, .int .i64 x.f1, .int .i64 x.f2, .int .i64 x.f3]] w fun e w' => e = .returned (.bool true) ∧ Below w.heap.size w w' :=
  in_yes (es := [x]) A1 c1 w (by simp) hC hc (by simp)
/-- What no longer gets it had the edge on its way. -/
theorem lost_path {n : Nat} {es : List S29} (hv : ∀ k, k < es.length → -1 ≤ Fm es k ∧ Fm es k < n ∧ 0 ≤ Tm es k ∧ Tm es k < n) {m i : Nat} (hi : i < n) (ha : bG (comesL (wL n es (fun _ => false) (-1))) (i : Int) = true) (hl : bG (comesL (wL n (restE es (m : Int)) (fun _ => false) (-1))) (i : Int) = false) : es.getD m z29 ∈ pathV n es (i : Int) ∧ (pathV n es (i : Int)).length ≤ n + 1 := by
  rw [← without_rest hv] at hl
  obtain ⟨dp, hf⟩ := walkL_fin (n := n) (F := Fm es) (shut := fun _ => false) (skip := -1) (fun k hk => (hv k hk).2.2)
  obtain ⟨dp', hf'⟩ := walkL_fin (n := n) (F := Fm es) (shut := fun _ => false) (skip := (m : Int)) (fun k hk => (hv k hk).2.2)
  change Fin_ n es.length (Fm es) (Tm es) (fun _ => false) (-1) (wL n es (fun _ => false) (-1)) dp at hf
  change Fin_ n es.length (Fm es) (Tm es) (fun _ => false) (m : Int) (wL n es (fun _ => false) (m : Int)) dp' at hf'
  have hR : 0 ≤ (wL n es (fun _ => false) (-1)).getD i (-1) := by
    rw [bG_comes hf.len (by omega) (by omega), decide_eq_true_eq, Int.toNat_natCast] at ha
    exact ha
  have hc := hf.cap (i : Int) (.inr ⟨by omega, by omega, by rw [Int.toNat_natCast]; exact hR⟩)
  have hp : pathV n es (i : Int) = (pathR (wL n es (fun _ => false) (-1)) es (n + 1) (i : Int)).reverse := by unfold pathV; rw [if_pos ⟨by omega, by omega⟩]
  rw [hp, List.length_reverse, (path_chain hf (dp (i : Int)) (n + 1) i hi rfl (by omega) hR).1]
  refine ⟨List.mem_reverse.2 ?_, by omega⟩
  rcases path_edge hf hf' (dp (i : Int)) (n + 1) i hi rfl (by omega) hR with ⟨k, h1, h2, h3⟩ | h
  · have : k = m := by omega
    subst this
    exact h3
  · have h2 := (V_comes hf'.len (by omega) (by omega)).1 h
    rw [h2] at hl
    cases hl
theorem refrest_any {n : Nat} {es : List S29} (e : Int) (A1 : Option Addr) (c1 : Nat) (w : World) (hn : n ≤ 60) (hl : es.length ≤ 150) (hv : ∀ k, k < es.length → -1 ≤ Fm es k ∧ Fm es k < n ∧ 0 ≤ Tm es k ∧ Tm es k < n) (hC : Kd.C k41 w A1 (restE es e).length ((restE es e).map to41)) (hc : (restE es e).length ≤ c1) :
    Calls Try.prog 17 #[.int .i64 (n : Int), .slice A1 (restE es e).length c1, .slice none 0 0] w fun e' w' => ∃ v, e' = .returned v ∧ Kd.R Kd.bool 4 w' w.heap.size (fun _ => True) v (comesL (wL n (restE es e) (fun _ => false) (-1))) ∧ Below w.heap.size w w' := by
  exact refsolve_any A1 c1 w hn (Nat.le_trans rest_len hl) (rest_val hv e) hC hc
theorem mid_one {l : List S41} {m : Nat} (h : m < l.length) : (l.take (m + 1)).drop m = [l[m]] := by
  rw [List.drop_take, show m + 1 - m = 1 by omega, List.drop_eq_getElem_cons h]
  rfl
set_option maxHeartbeats 16000000 in
set_option maxRecDepth 100000 in
theorem without_refused (nodes : Int) (A1 : Option Addr) (c1 : Nat) (l : List S29) (edge : Int) (w : World) (h : nodes < 0 ∨ 60 < nodes ∨ 150 < l.length) : Calls Try.prog 6 #[.int .i64 nodes, .slice A1 l.length c1, .int .i64 edge] w fun e w' => e = .returned (.bool true) ∧ Below w.heap.size w w' := by
  have HB := Aside0.mk (Below.refl w.heap.size w)
  have tok_1 : True := trivial
  have tok_2 : True := trivial
  have HBU := Lib.hid (fun W => build_refused nodes A1 c1 l W h)
  clear h
  go_enter Try.func6, Try.ntmps6
  go_wp2_with (first | (clear tok_1; go_at_call 10; (with_reducible refine (comes_any _).mono ?_); rintro e w1 ⟨rfl, hb⟩; have h1 := pxs HB hb; clear HB hb; have HB := h1; clear h1) | (clear tok_2; go_at_call 15; (with_reducible refine (HBU.out _).mono ?_); rintro e w2 ⟨rfl, hb⟩; have h1 := pxs HB hb; clear HB hb; have HB := h1; clear h1))
  go_ret
  exact ⟨rfl, pxb HB⟩
set_option maxHeartbeats 16000000 in
set_option maxRecDepth 100000 in
theorem without_main (N : Nat) (A1 : Option Addr) (c1 : Nat) (l : List S29) (edge : Int) (w : World) (h1 : l.length ≤ 150) (h2 : N ≤ 60) (hC : Kd.C k29 w A1 l.length l) : Calls Try.prog 6 #[.int .i64 (N : Int), .slice A1 l.length c1, .int .i64 edge] w fun e w' => e = .returned (.bool true) ∧ Below w.heap.size w w' := by
  have HB := Aside0.mk (Below.refl w.heap.size w)
  have tok_1 : True := trivial
  have tok_2 : True := trivial
  have HH := Lib.hid (And.intro h1 h2)
  have HC := Aside0.mk hC
  clear h1 h2 hC
  have tok_3 : True := trivial
  have tok_4 : True := trivial
  have tok_5 : True := trivial
  have tok_6 : True := trivial
  go_enter Try.func6, Try.ntmps6
  go_wp2_with (first | (clear tok_1; go_at_call 10; (with_reducible refine (comes_any _).mono ?_); rintro e w1 ⟨rfl, hb⟩; have h1 := pxs HB hb; clear HB hb; have HB := h1; clear h1) | (clear tok_2; go_at_call 15; (with_reducible refine (build_main N A1 c1 l _ HH.out.1 HH.out.2 (Kd.C_below HC.out (pxb HB))).mono ?_); rintro e w2 ⟨g, es, O, ov, rfl, hg, hr, hlen, hb⟩; obtain ⟨Av, cv, hov⟩ := Kd.R_slice hr; rw [List.length_map] at hov; subst hov; have h1 := pxs HB hb; have HG := Aside0.mk hg; have HVAL := Lib.hid (G.val hg); have HE := Aside0.mk (Kd.R_reads' hr).2.2; have HEC := Aside0.mk (Kd.R_reads' hr).2.1; have HLEN := Lib.hid hlen; clear HB hb hg hr hlen; have HB := h1; clear h1) | (clear tok_3; go_at_call 16; (with_reducible refine (solve_any _ HG.out).mono ?_); rintro e w3 ⟨av, rfl, hr, hb⟩; have hla : (comesL (wL N es (fun _ => false) (-1))).length = N := (by obtain ⟨_, _, _, _, hga⟩ := HG.out; unfold comesL; rw [List.length_map]; exact wL_len hga.1 _ _); have HLA := Lib.hid hla; obtain ⟨Aa, ca, hav⟩ := Kd.R_slice hr; rw [hla] at hav; subst hav; clear hla; have nHB_ := pxs HB hb; have nHG_ := G.moved HG hb; have nHE_ := Aside0.mk (Kd.C_below HE.out hb); clear HB hb HG HE; have HB := nHB_; clear nHB_; have HG := nHG_; clear nHG_; have HE := nHE_; clear nHE_; have HALL := Aside0.mk hr; clear hr))
  by_cases hed : 0 ≤ edge ∧ edge < (es.length : Int)
  · obtain ⟨m, rfl⟩ : ∃ m : Nat, edge = (m : Int) := ⟨edge.toNat, by omega⟩
    have q0 : decide (0 ≤ (m : Int)) = true := decide_eq_true (by omega)
    have q1 : decide (m < es.length) = true := decide_eq_true (by omega)
    have q1' : decide ((m : Int) < (es.length : Int)) = true := decide_eq_true (by omega)
    have HED := Lib.hid (show m < es.length by omega)
    clear hed
    go_wp2_with (first | (clear tok_4; go_at_call 20; (with_reducible refine (without_any (m : Int) _ HG.out).mono ?_); rintro e w4 ⟨lv, rfl, hr, hb⟩; have hll : (comesL (wL N es (fun _ => false) (m : Int))).length = N := (by obtain ⟨_, _, _, _, hga⟩ := HG.out; unfold comesL; rw [List.length_map]; exact wL_len hga.1 _ _); rw [without_rest HVAL.out (m : Int)] at hr hll; have HLL := Lib.hid hll; obtain ⟨Al, cl, hlv⟩ := Kd.R_slice hr; rw [hll] at hlv; subst hlv; clear hll; have nHB_ := pxs HB hb; have nHG_ := G.moved HG hb; have nHE_ := Aside0.mk (Kd.C_below HE.out hb); have nHALL_ := Aside0.mk (Kd.R_below HALL.out hb); clear HB hb HG HE HALL; have HB := nHB_; clear nHB_; have HG := nHG_; clear nHG_; have HE := nHE_; clear nHE_; have HALL := nHALL_; clear nHALL_; have HLESS := Aside0.mk hr; clear hr))
    have he41 := HE.out
    have hlm : (es.map to41).length = es.length := List.length_map ..
    have hm := HED.out
    have hcv := HEC.out
    have t1 := Kd.C_take (m := m) he41 (by omega)
    rw [show ((es.map to41).take m).length = m by rw [List.length_take]; omega] at t1
    have t2 := Kd.C_drop (m := m + 1) (c := cv) he41 (by omega) (by omega)
    rw [show ((es.map to41).drop (m + 1)).length = es.length - (m + 1) by rw [List.length_drop, hlm]] at t2
    have C3 : ∀ W : World, (Instr.slice 35 (.slice Av es.length cv) none (some (.int .i64 (m : Int))) none).run Try.prog W = .ok (.slice Av m cv) W := fun W => by have h := cut_to (P := Try.prog) 35 41 .i64 Try.underlying35 inf41i.choose_spec.1 Av es.length cv (m : Int) (by omega) (by omega) hcv W; rwa [Int.toNat_natCast] at h
    have C8 : ∀ W : World, (Instr.slice 35 (.slice Av es.length cv) (some (.int .i64 (wrap64 ((m : Int) + 1)))) none none).run Try.prog W = .ok (.slice (if cv = m + 1 then Av else Av.map (·.add ((m + 1) * 4))) (es.length - (m + 1)) (cv - (m + 1))) W := fun W => by have h := cut_from (P := Try.prog) 35 41 .i64 Try.underlying35 inf41i.choose_spec.1 4 inf41i.choose_spec.2 Av es.length cv (((m + 1 : Nat) : Int)) (by omega) (by omega) W; rw [Int.toNat_natCast] at h; rw [wrap_id (by have := HLEN.out; omega) (by have := HLEN.out; omega)]; exact h
    have C8' : ∀ W : World, (Instr.slice 35 (.slice Av es.length cv) (some (.int .i64 ((m : Int) + 1))) none none).run Try.prog W = .ok (.slice (if cv = m + 1 then Av else Av.map (·.add ((m + 1) * 4))) (es.length - (m + 1)) (cv - (m + 1))) W := fun W => by have h := C8 W; rwa [wrap_id (by have := HLEN.out; omega) (by have := HLEN.out; omega)] at h
    rw [show k41.sz = 4 from rfl] at t2
    generalize (if cv = m + 1 then Av else Av.map (·.add ((m + 1) * 4))) = Ad at C8 C8' t2
    have HT1 := Aside0.mk t1
    have HT2 := Aside0.mk t2
    clear t1 t2 he41 hlm hm hcv
    have HB0 := HB
    clear HB
    have HB := Aside0.mk (Below.refl w4.heap.size w4)
    refine start_ (n := 11) (S := fun w' => True) (ds := []) #[false, false, false, false, false, false, false, false, false, false, false] (by kernel_rfl) rfl rfl trivial (fun hHeld => ?_)
    refine with_tab rfl (fun HT_ => ?_)
    generalize hW_ : World.drew _ = wd at hHeld ⊢
    have n0_ : Aside0 (Below w4.heap.size w4 wd) := ⟨by rw [← hW_]; exact below_drew1 (pxb HB)⟩
    clear hW_ HB 
    have HB := n0_
    clear n0_
    have HBE := HB
    clear HB
    have HB := HB0
    clear HB0
    refine pS 1 41 HT_ ?_
    refine pS 2 42 HT_ ?_
    refine pS 3 43 HT_ ?_
    refine pS 5 45 HT_ ?_
    refine pS 6 46 HT_ ?_
    refine pS 7 47 HT_ ?_
    refine pS 8 48 HT_ ?_
    refine oS 0 HT_ (fun K hK => ?_)
    refine Kd.R_lit_step k41 (w0 := wd) wd.heap.size 41 rfl rfl (xs := []) (inner := []) (ok := fun _ => True) (okp := fun _ => False) ?lr ⟨rfl, fun j p hj => by simp at hj⟩ (fun _ hk => hk.elim) trivial (Below.refl _ _) (Nat.le_refl _) (by simp) ?_
    case lr => first | (go_simp; done) | (go_simp; rfl)
    intro v1 w1 ho1 hb1 hg1 hn1
    clear hn1
    refine hK.out _ _ trivial (fun hHeld => ?_)
    clear hK K
    refine nS 40 ?_
    refine oS 4 HT_ (fun K hK => ?_)
    refine Kd.R_append_rows_step k41 (Rr := k41.K w1) (w0 := wd) wd.heap.size rfl (.tmp 40) (.tmp 43) 35 41 (.agg #[.int .i64 0, .int .i64 0, .int .i64 0, .int .i64 0]) 32 rfl Try.underlying35 inf41 rfl (by decide) (by omega) v1 [] ((es.map to41).take m) Av m cv (fun _ => True) (fun _ => False) rfl rfl ho1 ?ar ?ak (fun _ hk => hk.elim) (fun _ _ => trivial) hb1 hb1.size ?al ?_
    case ar => exact Kd.C_below HT1.out (below_step HBE.out hb1)
    case ak => exact fun x cs h => by rw [k41_open h]; exact k41_mkM _ _ _ x
    case al => have := HED.out; have := HLEN.out; simp; omega
    intro v2 w2_ ho2 hb2 hg2 hn2
    clear hn2
    refine hK.out _ _ trivial (fun hHeld => ?_)
    clear hK K
    refine nS 44 ?_
    refine oS 9 HT_ (fun K hK => ?_)
    refine Kd.R_append_rows_step k41 (Rr := k41.K w2_) (w0 := wd) wd.heap.size rfl (.tmp 44) (.tmp 48) 35 41 (.agg #[.int .i64 0, .int .i64 0, .int .i64 0, .int .i64 0]) 32 rfl Try.underlying35 inf41 rfl (by decide) (by omega) v2 ([] ++ (es.map to41).take m) ((es.map to41).drop (m + 1)) Ad (es.length - (m + 1)) (cv - (m + 1)) (fun _ => True) (fun _ => False) rfl rfl ho2 ?br ?bk (fun _ hk => hk.elim) (fun _ _ => trivial) hb2 hb2.size ?bl ?_
    case br => exact Kd.C_below HT2.out (below_step HBE.out hb2)
    case bk => exact fun x cs h => by rw [k41_open h]; exact k41_mkM _ _ _ x
    case bl => have := HED.out; have := HLEN.out; simp; omega
    intro v3 w3_ ho3 hb3 hg3 hn3
    clear hn3
    refine hK.out _ _ trivial (fun hHeld => ?_)
    clear hK K
    refine nS 49 ?_
    refine pS 10 12 HT_ ?_
    refine done_ (done_of HT_.out (by kernel_rfl)) ?_
    clear HT_ hHeld
    have hrest : [] ++ (es.map to41).take m ++ (es.map to41).drop (m + 1) = (restE es (m : Int)).map to41 := by unfold restE; rw [if_pos ⟨by omega, by have := HED.out; omega⟩, Int.toNat_natCast, List.nil_append, List.map_append, List.map_take, List.map_drop]
    rw [hrest] at ho3
    obtain ⟨Ar, cr, hrv⟩ := Kd.R_slice ho3
    rw [List.length_map] at hrv
    subst hrv
    have HREST := Aside0.mk (Kd.R_reads' ho3).2.2
    have HRCAP := Aside0.mk (Kd.R_reads' ho3).2.1
    have hb := below_step HBE.out hb3
    have hbw := pxs HB hb
    clear hrest ho1 hb1 hg1 ho2 hb2 hg2 ho3 hb3 hg3 HT1 HT2 HBE HB C3 C8 C8'
    have HB := hbw
    clear hbw
    have nG_ := G.moved HG hb
    have nA_ := Aside0.mk (Kd.R_below HALL.out hb)
    have nL_ := Aside0.mk (Kd.R_below HLESS.out hb)
    clear HG HALL HLESS
    have HG := nG_
    have HALL := nA_
    have HLESS := nL_
    clear nG_ nA_ nL_
    have nE_ := Aside0.mk (Kd.C_below HE.out hb)
    clear HE hb
    have HE := nE_
    clear nE_
    go_wp2_with (first | (clear tok_5; go_at_call 17; (with_reducible refine (refrest_any (m : Int) Ar cr _ HH.out.2 HLEN.out HVAL.out (by have := HREST.out; first | exact this | rwa [List.length_map] at this) (by have := HRCAP.out; first | exact this | rwa [List.length_map] at this)).mono ?_); rintro e w5 ⟨fv, rfl, hr, hb⟩; obtain ⟨Af, cf, hfv⟩ := Kd.R_slice hr; rw [HLL.out] at hfv; subst hfv; have nHB_ := pxs HB hb; have nHG_ := G.moved HG hb; have nHE_ := Aside0.mk (Kd.C_below HE.out hb); have nHALL_ := Aside0.mk (Kd.R_below HALL.out hb); have nHLESS_ := Aside0.mk (Kd.R_below HLESS.out hb); clear HB hb HG HE HALL HLESS; have HB := nHB_; clear nHB_; have HG := nHG_; clear nHG_; have HE := nHE_; clear nHE_; have HALL := nHALL_; clear nHALL_; have HLESS := nHLESS_; clear nHLESS_; have HWANT := Aside0.mk hr; clear hr))
    obtain ⟨wE, rfl⟩ : ∃ wE, wE = w5 := ⟨_, rfl⟩
    have HB0 := HB
    clear HB
    go_loopg [59] N (fun kq v59 w' => ∃ i : Nat, v59 = .int .i64 i ∧ Hid (i ≤ N ∧ kq = N - i) ∧ Aside0 (Below wE.heap.size wE w'))
    case atStart => exact ⟨0, rfl, ⟨Nat.zero_le _, rfl⟩, ⟨Below.refl _ _⟩⟩
    case round =>
      obtain ⟨i, rfl, HI, HB⟩ := hrel
      by_cases hi : i < N
      · have hll := HLL.out
        have hla := HLA.out
        obtain ⟨adL, haL, xL⟩ := Kd.at_bool (Kd.R_reads' HLESS.out).2.2 (i : Int) (by omega) (by omega)
        cases haL
        replace xL := (HB.out.cell (World.block_lt_of_cell? _ _ xL)).trans xL
        obtain ⟨adW, haW, xW⟩ := Kd.at_bool (Kd.R_reads' HWANT.out).2.2 (i : Int) (by omega) (by omega)
        cases haW
        replace xW := (HB.out.cell (World.block_lt_of_cell? _ _ xW)).trans xW
        obtain ⟨adA, haA, xA⟩ := Kd.at_bool (Kd.R_reads' HALL.out).2.2 (i : Int) (by omega) (by omega)
        cases haA
        replace xA := (HB.out.cell (World.block_lt_of_cell? _ _ xA)).trans xA
        rw [Int.toNat_natCast] at xL xW xA
        have hle : bG (comesL (wL N (restE es (m : Int)) (fun _ => false) (-1))) (i : Int) = true → bG (comesL (wL N es (fun _ => false) (-1))) (i : Int) = true := fun h => without_less HVAL.out (m : Int) hi (by rw [without_rest HVAL.out]; exact h)
        have hlo : bG (comesL (wL N es (fun _ => false) (-1))) (i : Int) = true → bG (comesL (wL N (restE es (m : Int)) (fun _ => false) (-1))) (i : Int) = false → _ := fun ha hl => lost_path HVAL.out (m := m) hi ha hl
        have HLO := Lib.hid hlo
        clear hlo
        rw [show rdOf false (comesL (wL N (restE es (m : Int)) (fun _ => false) (-1))) (i : Int) = bG (comesL (wL N (restE es (m : Int)) (fun _ => false) (-1))) (i : Int) from rfl] at xL xW
        rw [show rdOf false (comesL (wL N es (fun _ => false) (-1))) (i : Int) = bG (comesL (wL N es (fun _ => false) (-1))) (i : Int) from rfl] at xA
        have p3 : (0 ≤ (i : Int)) = True := eq_true (by omega)
        have p4 : ((i : Int) < (N : Int)) = True := eq_true (by omega)
        have p4' : (i < N) = True := eq_true (by omega)
        have k4 : decide (i < N) = true := decide_eq_true (by omega)
        have k5 : decide ((i : Int) < (N : Int)) = true := decide_eq_true (by omega)
        have HLT := Lib.hid hi
        clear hi hll hla
        cases hbl : bG (comesL (wL N (restE es (m : Int)) (fun _ => false) (-1))) (i : Int)
        · rw [hbl] at xL xW; clear hle
          cases hba : bG (comesL (wL N es (fun _ => false) (-1))) (i : Int)
          · rw [hba] at xA; clear hba hbl HLO; go_wp2; go_quiet (fail); go_wp2; go_quiet (fail); go_wp2; go_roundg (N - (i + 1)); (case measure => have := HI.out; have := HLT.out; omega); (case rel => exact ⟨i + 1, by have := HLT.out; have := HH.out.2; rw [wrap_id (by omega) (by omega)]; rfl, ⟨by have := HLT.out; omega, rfl⟩, ⟨pxb HB⟩⟩)
          · rw [hba] at xA; have HLO2 := Lib.hid (HLO.out hba hbl); clear hba hbl HLO
            have hlm : (es.map to41).length = es.length := List.length_map ..
            have hm := HED.out
            have hcv := HEC.out
            obtain ⟨adE, hadE, he0, he1, he2, he3⟩ := at_T41 HE.out (m : Int) (by omega) (by omega)
            subst hadE
            replace he0 := (HB.out.cell (World.block_lt_of_cell? _ _ he0)).trans he0
            replace he1 := (HB.out.cell (World.block_lt_of_cell? _ _ he1)).trans he1
            replace he2 := (HB.out.cell (World.block_lt_of_cell? _ _ he2)).trans he2
            replace he3 := (HB.out.cell (World.block_lt_of_cell? _ _ he3)).trans he3
            rw [rd41, Int.toNat_natCast] at he0 he1 he2 he3
            have t1 := Kd.C_drop (m := m) (c := cv) (Kd.C_take (m := m + 1) HE.out (by omega)) (by rw [List.length_take]; omega) (by rw [List.length_take]; omega)
            rw [mid_one (by omega : m < (es.map to41).length), List.getElem_map] at t1
            have hge : es.getD m z29 = es[m]'HED.out := by rw [List.getD_eq_getElem?_getD, List.getElem?_eq_getElem HED.out, Option.getD_some]
            rw [← hge] at t1
            have C16 : ∀ W : World, (Instr.slice 35 (.slice (some adE) es.length cv) (some (.int .i64 (m : Int))) (some (.int .i64 (wrap64 ((m : Int) + 1)))) none).run Try.prog W = .ok (.slice (if cv = m then some adE else (some adE).map (·.add (m * 4))) 1 (cv - m)) W := fun W => by have h := cut_mid (P := Try.prog) 35 41 .i64 .i64 Try.underlying35 inf41i.choose_spec.1 4 inf41i.choose_spec.2 (some adE) es.length cv (m : Int) (((m + 1 : Nat) : Int)) (by omega) (by omega) (by omega) hcv W; rw [Int.toNat_natCast, Int.toNat_natCast, show m + 1 - m = 1 by omega] at h; rw [wrap_id (by have := HLEN.out; omega) (by have := HLEN.out; omega)]; exact h
            have C16' : ∀ W : World, (Instr.slice 35 (.slice (some adE) es.length cv) (some (.int .i64 (m : Int))) (some (.int .i64 ((m : Int) + 1))) none).run Try.prog W = .ok (.slice (if cv = m then some adE else (some adE).map (·.add (m * 4))) 1 (cv - m)) W := fun W => by have h := C16 W; rwa [wrap_id (by have := HLEN.out; omega) (by have := HLEN.out; omega)] at h
            rw [show k41.sz = 4 from rfl] at t1
            generalize (if cv = m then some adE else (some adE).map (·.add (m * 4))) = Am at C16 C16' t1
            have HT1 := Aside0.mk t1
            have HCAP1 := Lib.hid (show 1 ≤ cv - m by omega)
            have HPA := HLO2.out.2
            have HIN := Lib.hid HLO2.out.1
            have HPL := Lib.hid HPA
            have p7 : ((m : Int) < (es.length : Int)) = True := eq_true (by omega)
            have p8 : (0 ≤ (m : Int)) = True := eq_true (by omega)
            clear t1 hlm hm hcv hge HPA HLO2
            generalize es.getD m z29 = x at *
            replace he0 : _ = some (Value.int .i64 x.f0) := he0
            replace he1 : _ = some (Value.int .i64 x.f1) := he1
            replace he2 : _ = some (Value.int .i64 x.f2) := he2
            replace he3 : _ = some (Value.int .i64 x.f3) := he3
            have HBR := Aside0.mk (Below.refl wr.heap.size wr)
            go_wp2
            go_quiet (fail)
            go_wp2
            refine start_ (n := 28) (S := fun w' => w'.cell? (adA.add i) = some (Value.bool true) ∧ w'.cell? (adL.add i) = some (Value.bool false) ∧ w'.cell? (adE.add (m * 4)) = some (Value.int .i64 x.f0) ∧ w'.cell? ⟨(adE.add (m * 4)).block, (adE.add (m * 4)).off + 1, none⟩ = some (Value.int .i64 x.f1) ∧ w'.cell? ⟨(adE.add (m * 4)).block, (adE.add (m * 4)).off + 2, none⟩ = some (Value.int .i64 x.f2) ∧ w'.cell? ⟨(adE.add (m * 4)).block, (adE.add (m * 4)).off + 3, none⟩ = some (Value.int .i64 x.f3)) (ds := []) #[false, false, false, false, false, false, false, false, false, false, false, false, false, false, false, false, false, false, false, false, false, false, false, false, false, false, false, false] (by kernel_rfl) rfl rfl ⟨(cellB (pxb HBR) xA), (cellB (pxb HBR) xL), (cellB (pxb HBR) he0), (cellB (pxb HBR) he1), (cellB (pxb HBR) he2), (cellB (pxb HBR) he3)⟩ (fun hHeld => ?_)
            refine with_tab rfl (fun HT_ => ?_)
            generalize hW_ : World.drew _ = wd2 at hHeld ⊢
            have n0_ : Aside0 (Below wE.heap.size wE wd2) := ⟨by rw [← hW_]; exact below_drew1 (pxb HB)⟩
            have mxA_ := (show wd2.cell? (adA.add i) = some (Value.bool true) from hHeld.1)
            have mxL_ := (show wd2.cell? (adL.add i) = some (Value.bool false) from hHeld.2.1)
            have mhe0_ := (show wd2.cell? (adE.add (m * 4)) = some (Value.int .i64 x.f0) from hHeld.2.2.1)
            have mhe1_ := (show wd2.cell? ⟨(adE.add (m * 4)).block, (adE.add (m * 4)).off + 1, none⟩ = some (Value.int .i64 x.f1) from hHeld.2.2.2.1)
            have mhe2_ := (show wd2.cell? ⟨(adE.add (m * 4)).block, (adE.add (m * 4)).off + 2, none⟩ = some (Value.int .i64 x.f2) from hHeld.2.2.2.2.1)
            have mhe3_ := (show wd2.cell? ⟨(adE.add (m * 4)).block, (adE.add (m * 4)).off + 3, none⟩ = some (Value.int .i64 x.f3) from hHeld.2.2.2.2.2)
            clear hW_ HB xA xL he0 he1 he2 he3
            have HB := n0_
            clear n0_
            have xA := mxA_
            have xL := mxL_
            have he0 := mhe0_
            have he1 := mhe1_
            have he2 := mhe2_
            have he3 := mhe3_
            clear mxA_ mxL_ mhe0_ mhe1_ mhe2_ mhe3_
            refine pS 0 84 HT_ ?_
            refine pS 1 85 HT_ ?_
            refine pS 2 86 HT_ ?_
            refine tT 3 87 HT_ hHeld ?_
            refine pS 4 88 HT_ ?_
            refine pS 5 89 HT_ ?_
            refine pS 6 90 HT_ ?_
            refine pS 7 91 HT_ ?_
            refine tT 8 92 HT_ hHeld ?_
            refine pS 9 93 HT_ ?_
            refine pS 10 94 HT_ ?_
            refine pS 11 95 HT_ ?_
            refine pS 12 96 HT_ ?_
            refine pS 13 97 HT_ ?_
            refine pS 14 98 HT_ ?_
            refine pS 15 99 HT_ ?_
            refine pS 16 100 HT_ ?_
            refine pS 17 101 HT_ ?_
            refine pS 18 102 HT_ ?_
            refine pS 20 104 HT_ ?_
            refine pS 21 105 HT_ ?_
            refine pS 22 106 HT_ ?_
            refine tT 23 107 HT_ hHeld ?_
            refine oS 19 HT_ (fun K hK => ?_)
            refine goes_ Try.func23 (by kernel_rfl) rfl #[.pointer (some ⟨g, 0, none⟩), .int .i64 (i : Int)] (by rfl) rfl rfl (by (try simp only [List.map_toArray, List.map_cons, List.map_nil]); first | done | rfl) ?_
            (with_reducible refine Calls.mono (path_any (i : Int) _ (HG.out.below (pxb HB))) ?_)
            rintro e w6 ⟨pv, rfl, hr, hb⟩
            obtain ⟨Ap, cp, hpv⟩ := Kd.R_slice hr
            subst hpv
            have HPR := Aside0.mk hr
            clear hr
            refine ⟨_, rfl, ?_⟩
            have n0_ := pxs HB hb
            replace xA := cellB hb xA
            replace xL := cellB hb xL
            replace he0 := cellB hb he0
            replace he1 := cellB hb he1
            replace he2 := cellB hb he2
            replace he3 := cellB hb he3
            clear HB
            have HB := n0_
            clear n0_
            refine hK.out _ _ ⟨xA, xL, he0, he1, he2, he3⟩ (fun hHeld => ?_)
            clear hK K hb
            refine nS 103 ?_
            refine oS 24 HT_ (fun K hK => ?_)
            refine goes_ Try.func22 (by kernel_rfl) rfl #[.slice Ap (pathV N es (i : Int)).length cp, .agg #[.int .i64 x.f0, .int .i64 x.f1, .int .i64 x.f2, .int .i64 x.f3]] (by rfl) rfl rfl (by (try simp only [List.map_toArray, List.map_cons, List.map_nil]); first | done | rfl) ?_
            (with_reducible refine Calls.mono (find_yes Ap cp _ (by have := HPL.out; have := HH.out.2; omega) (Kd.R_reads' HPR.out).2.2 (Kd.R_reads' HPR.out).2.1 HIN.out) ?_)
            rintro e w7 ⟨rfl, hb⟩
            refine ⟨_, rfl, ?_⟩
            have n0_ := pxs HB hb
            replace xA := cellB hb xA
            replace xL := cellB hb xL
            replace he0 := cellB hb he0
            replace he1 := cellB hb he1
            replace he2 := cellB hb he2
            replace he3 := cellB hb he3
            clear HB
            have HB := n0_
            clear n0_
            refine hK.out _ _ ⟨xA, xL, he0, he1, he2, he3⟩ (fun hHeld => ?_)
            clear hK K hb
            refine nS 108 ?_
            refine oS 25 HT_ (fun K hK => ?_)
            refine goes_ Try.func21 (by kernel_rfl) rfl #[.slice Am 1 (cv - m), .agg #[.int .i64 x.f0, .int .i64 x.f1, .int .i64 x.f2, .int .i64 x.f3]] (by rfl) rfl rfl (by (try simp only [List.map_toArray, List.map_cons, List.map_nil]); first | done | rfl) ?_
            (with_reducible refine Calls.mono (in_one Am (cv - m) _ (Kd.C_below HT1.out (pxb HB)) HCAP1.out) ?_)
            rintro e w8 ⟨rfl, hb⟩
            refine ⟨_, rfl, ?_⟩
            have n0_ := pxs HB hb
            replace xA := cellB hb xA
            replace xL := cellB hb xL
            replace he0 := cellB hb he0
            replace he1 := cellB hb he1
            replace he2 := cellB hb he2
            replace he3 := cellB hb he3
            clear HB
            have HB := n0_
            clear n0_
            refine hK.out _ _ ⟨xA, xL, he0, he1, he2, he3⟩ (fun hHeld => ?_)
            clear hK K hb
            refine nS 109 ?_
            refine pS 26 110 HT_ ?_
            refine pS 27 111 HT_ ?_
            refine done_ (done_of HT_.out (by kernel_rfl)) ?_
            clear HT_ hHeld
            go_wp2
            go_roundg (N - (i + 1)); (case measure => have := HI.out; have := HLT.out; omega)
            case rel => exact ⟨i + 1, by have := HLT.out; have := HH.out.2; rw [wrap_id (by omega) (by omega)]; rfl, ⟨by have := HLT.out; omega, rfl⟩, ⟨pxb HB⟩⟩
        · rw [hbl] at xL xW; rw [hle hbl] at xA; clear hle hbl HLO; go_wp2; go_quiet (fail); go_wp2; go_quiet (fail); go_wp2; go_roundg (N - (i + 1)); (case measure => have := HI.out; have := HLT.out; omega); (case rel => exact ⟨i + 1, by have := HLT.out; have := HH.out.2; rw [wrap_id (by omega) (by omega)]; rfl, ⟨by have := HLT.out; omega, rfl⟩, ⟨pxb HB⟩⟩)
      · obtain rfl : N = i := by have := HI.out; omega
        have k4 : decide (N < N) = false := decide_eq_false (by omega)
        have k5 : decide ((N : Int) < (N : Int)) = false := decide_eq_false (by omega)
        clear hi HI
        go_wp2
        go_ret
        exact ⟨rfl, below_step HB0.out (pxb HB)⟩
  · have hre : restE es edge = es := if_neg hed
    have HRE : Aside0 ((comesL (wL N (restE es edge) (fun _ => false) (-1))) = (comesL (wL N es (fun _ => false) (-1)))) := ⟨by rw [hre]⟩
    have HNO := Lib.hid hed
    clear hed hre
    by_cases he0 : 0 ≤ edge
    · have q0 : decide (0 ≤ edge) = true := decide_eq_true he0
      have q1 : decide (edge < (es.length : Int)) = false := decide_eq_false (by have := HNO.out; omega)
      clear he0
      go_wp2_with (first | (clear tok_4; go_at_call 20; (with_reducible refine (without_any edge _ HG.out).mono ?_); rintro e w4 ⟨lv, rfl, hr, hb⟩; have hll : (comesL (wL N es (fun _ => false) edge)).length = N := (by obtain ⟨_, _, _, _, hga⟩ := HG.out; unfold comesL; rw [List.length_map]; exact wL_len hga.1 _ _); rw [without_rest HVAL.out edge] at hr hll; have HLL := Lib.hid hll; obtain ⟨Al, cl, hlv⟩ := Kd.R_slice hr; rw [hll] at hlv; subst hlv; clear hll; have nHB_ := pxs HB hb; have nHG_ := G.moved HG hb; have nHE_ := Aside0.mk (Kd.C_below HE.out hb); have nHALL_ := Aside0.mk (Kd.R_below HALL.out hb); clear HB hb HG HE HALL; have HB := nHB_; clear nHB_; have HG := nHG_; clear nHG_; have HE := nHE_; clear nHE_; have HALL := nHALL_; clear nHALL_; have HLESS := Aside0.mk hr; clear hr) | (clear tok_5; go_at_call 17; (with_reducible refine (refsolve_any Av cv _ HH.out.2 HLEN.out HVAL.out (by have := HE.out; rwa [List.length_map] at this) HEC.out).mono ?_); rintro e w5 ⟨fv, rfl, hr, hb⟩; rw [← HRE.out] at hr; obtain ⟨Af, cf, hfv⟩ := Kd.R_slice hr; rw [HLL.out] at hfv; subst hfv; have nHB_ := pxs HB hb; have nHG_ := G.moved HG hb; have nHE_ := Aside0.mk (Kd.C_below HE.out hb); have nHALL_ := Aside0.mk (Kd.R_below HALL.out hb); have nHLESS_ := Aside0.mk (Kd.R_below HLESS.out hb); clear HB hb HG HE HALL HLESS; have HB := nHB_; clear nHB_; have HG := nHG_; clear nHG_; have HE := nHE_; clear nHE_; have HALL := nHALL_; clear nHALL_; have HLESS := nHLESS_; clear nHLESS_; have HWANT := Aside0.mk hr; clear hr))
      obtain ⟨wE, rfl⟩ : ∃ wE, wE = w5 := ⟨_, rfl⟩
      have HB0 := HB
      clear HB
      go_loopg [59] N (fun kq v59 w' => ∃ i : Nat, v59 = .int .i64 i ∧ Hid (i ≤ N ∧ kq = N - i) ∧ Aside0 (Below wE.heap.size wE w'))
      case atStart => exact ⟨0, rfl, ⟨Nat.zero_le _, rfl⟩, ⟨Below.refl _ _⟩⟩
      case round =>
        obtain ⟨i, rfl, HI, HB⟩ := hrel
        by_cases hi : i < N
        · have hll := HLL.out
          have hla := HLA.out
          obtain ⟨adL, haL, xL⟩ := Kd.at_bool (Kd.R_reads' HLESS.out).2.2 (i : Int) (by omega) (by omega)
          cases haL
          replace xL := (HB.out.cell (World.block_lt_of_cell? _ _ xL)).trans xL
          obtain ⟨adW, haW, xW⟩ := Kd.at_bool (Kd.R_reads' HWANT.out).2.2 (i : Int) (by omega) (by omega)
          cases haW
          replace xW := (HB.out.cell (World.block_lt_of_cell? _ _ xW)).trans xW
          obtain ⟨adA, haA, xA⟩ := Kd.at_bool (Kd.R_reads' HALL.out).2.2 (i : Int) (by omega) (by omega)
          cases haA
          replace xA := (HB.out.cell (World.block_lt_of_cell? _ _ xA)).trans xA
          rw [Int.toNat_natCast] at xL xW xA
          have hle : bG (comesL (wL N (restE es edge) (fun _ => false) (-1))) (i : Int) = true → bG (comesL (wL N es (fun _ => false) (-1))) (i : Int) = true := fun h => by rw [← HRE.out]; exact h
          have heq : bG (comesL (wL N (restE es edge) (fun _ => false) (-1))) (i : Int) = bG (comesL (wL N es (fun _ => false) (-1))) (i : Int) := by rw [HRE.out]
          rw [show rdOf false (comesL (wL N (restE es edge) (fun _ => false) (-1))) (i : Int) = bG (comesL (wL N (restE es edge) (fun _ => false) (-1))) (i : Int) from rfl] at xL xW
          rw [show rdOf false (comesL (wL N es (fun _ => false) (-1))) (i : Int) = bG (comesL (wL N es (fun _ => false) (-1))) (i : Int) from rfl] at xA
          have p3 : (0 ≤ (i : Int)) = True := eq_true (by omega)
          have p4 : ((i : Int) < (N : Int)) = True := eq_true (by omega)
          have p4' : (i < N) = True := eq_true (by omega)
          have k4 : decide (i < N) = true := decide_eq_true (by omega)
          have k5 : decide ((i : Int) < (N : Int)) = true := decide_eq_true (by omega)
          have HLT := Lib.hid hi
          clear hi hll hla
          cases hbl : bG (comesL (wL N (restE es edge) (fun _ => false) (-1))) (i : Int)
          · rw [hbl] at xL xW heq; rw [← heq] at xA; clear hle heq hbl; go_wp2; go_quiet (fail); go_wp2; go_quiet (fail); go_wp2; go_roundg (N - (i + 1)); (case measure => have := HI.out; have := HLT.out; omega); (case rel => exact ⟨i + 1, by have := HLT.out; have := HH.out.2; rw [wrap_id (by omega) (by omega)]; rfl, ⟨by have := HLT.out; omega, rfl⟩, ⟨pxb HB⟩⟩)
          · rw [hbl] at xL xW; rw [hle hbl] at xA; clear hle hbl heq; go_wp2; go_quiet (fail); go_wp2; go_quiet (fail); go_wp2; go_roundg (N - (i + 1)); (case measure => have := HI.out; have := HLT.out; omega); (case rel => exact ⟨i + 1, by have := HLT.out; have := HH.out.2; rw [wrap_id (by omega) (by omega)]; rfl, ⟨by have := HLT.out; omega, rfl⟩, ⟨pxb HB⟩⟩)
        · obtain rfl : N = i := by have := HI.out; omega
          have k4 : decide (N < N) = false := decide_eq_false (by omega)
          have k5 : decide ((N : Int) < (N : Int)) = false := decide_eq_false (by omega)
          clear hi HI
          go_wp2
          go_ret
          exact ⟨rfl, below_step HB0.out (pxb HB)⟩
    · have q0 : decide (0 ≤ edge) = false := decide_eq_false he0
      clear he0
      go_wp2_with (first | (clear tok_4; go_at_call 20; (with_reducible refine (without_any edge _ HG.out).mono ?_); rintro e w4 ⟨lv, rfl, hr, hb⟩; have hll : (comesL (wL N es (fun _ => false) edge)).length = N := (by obtain ⟨_, _, _, _, hga⟩ := HG.out; unfold comesL; rw [List.length_map]; exact wL_len hga.1 _ _); rw [without_rest HVAL.out edge] at hr hll; have HLL := Lib.hid hll; obtain ⟨Al, cl, hlv⟩ := Kd.R_slice hr; rw [hll] at hlv; subst hlv; clear hll; have nHB_ := pxs HB hb; have nHG_ := G.moved HG hb; have nHE_ := Aside0.mk (Kd.C_below HE.out hb); have nHALL_ := Aside0.mk (Kd.R_below HALL.out hb); clear HB hb HG HE HALL; have HB := nHB_; clear nHB_; have HG := nHG_; clear nHG_; have HE := nHE_; clear nHE_; have HALL := nHALL_; clear nHALL_; have HLESS := Aside0.mk hr; clear hr) | (clear tok_5; go_at_call 17; (with_reducible refine (refsolve_any Av cv _ HH.out.2 HLEN.out HVAL.out (by have := HE.out; rwa [List.length_map] at this) HEC.out).mono ?_); rintro e w5 ⟨fv, rfl, hr, hb⟩; rw [← HRE.out] at hr; obtain ⟨Af, cf, hfv⟩ := Kd.R_slice hr; rw [HLL.out] at hfv; subst hfv; have nHB_ := pxs HB hb; have nHG_ := G.moved HG hb; have nHE_ := Aside0.mk (Kd.C_below HE.out hb); have nHALL_ := Aside0.mk (Kd.R_below HALL.out hb); have nHLESS_ := Aside0.mk (Kd.R_below HLESS.out hb); clear HB hb HG HE HALL HLESS; have HB := nHB_; clear nHB_; have HG := nHG_; clear nHG_; have HE := nHE_; clear nHE_; have HALL := nHALL_; clear nHALL_; have HLESS := nHLESS_; clear nHLESS_; have HWANT := Aside0.mk hr; clear hr))
      obtain ⟨wE, rfl⟩ : ∃ wE, wE = w5 := ⟨_, rfl⟩
      have HB0 := HB
      clear HB
      go_loopg [59] N (fun kq v59 w' => ∃ i : Nat, v59 = .int .i64 i ∧ Hid (i ≤ N ∧ kq = N - i) ∧ Aside0 (Below wE.heap.size wE w'))
      case atStart => exact ⟨0, rfl, ⟨Nat.zero_le _, rfl⟩, ⟨Below.refl _ _⟩⟩
      case round =>
        obtain ⟨i, rfl, HI, HB⟩ := hrel
        by_cases hi : i < N
        · have hll := HLL.out
          have hla := HLA.out
          obtain ⟨adL, haL, xL⟩ := Kd.at_bool (Kd.R_reads' HLESS.out).2.2 (i : Int) (by omega) (by omega)
          cases haL
          replace xL := (HB.out.cell (World.block_lt_of_cell? _ _ xL)).trans xL
          obtain ⟨adW, haW, xW⟩ := Kd.at_bool (Kd.R_reads' HWANT.out).2.2 (i : Int) (by omega) (by omega)
          cases haW
          replace xW := (HB.out.cell (World.block_lt_of_cell? _ _ xW)).trans xW
          obtain ⟨adA, haA, xA⟩ := Kd.at_bool (Kd.R_reads' HALL.out).2.2 (i : Int) (by omega) (by omega)
          cases haA
          replace xA := (HB.out.cell (World.block_lt_of_cell? _ _ xA)).trans xA
          rw [Int.toNat_natCast] at xL xW xA
          have hle : bG (comesL (wL N (restE es edge) (fun _ => false) (-1))) (i : Int) = true → bG (comesL (wL N es (fun _ => false) (-1))) (i : Int) = true := fun h => by rw [← HRE.out]; exact h
          have heq : bG (comesL (wL N (restE es edge) (fun _ => false) (-1))) (i : Int) = bG (comesL (wL N es (fun _ => false) (-1))) (i : Int) := by rw [HRE.out]
          rw [show rdOf false (comesL (wL N (restE es edge) (fun _ => false) (-1))) (i : Int) = bG (comesL (wL N (restE es edge) (fun _ => false) (-1))) (i : Int) from rfl] at xL xW
          rw [show rdOf false (comesL (wL N es (fun _ => false) (-1))) (i : Int) = bG (comesL (wL N es (fun _ => false) (-1))) (i : Int) from rfl] at xA
          have p3 : (0 ≤ (i : Int)) = True := eq_true (by omega)
          have p4 : ((i : Int) < (N : Int)) = True := eq_true (by omega)
          have p4' : (i < N) = True := eq_true (by omega)
          have k4 : decide (i < N) = true := decide_eq_true (by omega)
          have k5 : decide ((i : Int) < (N : Int)) = true := decide_eq_true (by omega)
          have HLT := Lib.hid hi
          clear hi hll hla
          cases hbl : bG (comesL (wL N (restE es edge) (fun _ => false) (-1))) (i : Int)
          · rw [hbl] at xL xW heq; rw [← heq] at xA; clear hle heq hbl; go_wp2; go_quiet (fail); go_wp2; go_quiet (fail); go_wp2; go_roundg (N - (i + 1)); (case measure => have := HI.out; have := HLT.out; omega); (case rel => exact ⟨i + 1, by have := HLT.out; have := HH.out.2; rw [wrap_id (by omega) (by omega)]; rfl, ⟨by have := HLT.out; omega, rfl⟩, ⟨pxb HB⟩⟩)
          · rw [hbl] at xL xW; rw [hle hbl] at xA; clear hle hbl heq; go_wp2; go_quiet (fail); go_wp2; go_quiet (fail); go_wp2; go_roundg (N - (i + 1)); (case measure => have := HI.out; have := HLT.out; omega); (case rel => exact ⟨i + 1, by have := HLT.out; have := HH.out.2; rw [wrap_id (by omega) (by omega)]; rfl, ⟨by have := HLT.out; omega, rfl⟩, ⟨pxb HB⟩⟩)
        · obtain rfl : N = i := by have := HI.out; omega
          have k4 : decide (N < N) = false := decide_eq_false (by omega)
          have k5 : decide ((N : Int) < (N : Int)) = false := decide_eq_false (by omega)
          clear hi HI
          go_wp2
          go_ret
          exact ⟨rfl, below_step HB0.out (pxb HB)⟩
theorem without_law (nodes : Int) (A1 : Option Addr) (c1 : Nat) (l : List S29) (edge : Int) (w : World) (hC : Kd.C k29 w A1 l.length l) : Calls Try.prog 6 #[.int .i64 nodes, .slice A1 l.length c1, .int .i64 edge] w fun e w' => e = .returned (.bool true) ∧ Below w.heap.size w w' := by
  by_cases h : nodes < 0 ∨ 60 < nodes ∨ 150 < l.length
  · exact without_refused nodes A1 c1 l edge w h
  · obtain ⟨N, rfl⟩ : ∃ N : Nat, nodes = (N : Int) := ⟨nodes.toNat, by omega⟩
    exact without_main N A1 c1 l edge w (by omega) (by omega) hC
end Go.Proofs.Ytefgfnhhoidbdaa.GrW
