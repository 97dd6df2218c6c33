/- Shut: where some nodes let nothing in. -/
import Derived.Test.YtefgfnhhoidbdaaGraphW6
namespace Go.Proofs.Ytefgfnhhoidbdaa.GrW
open Go.RowKit Go.Proofs.YtefgfnhhoidbdaaW.PrintWords Go.Proofs.YtefgfnhhoidbdaaW.PrintLast Go.Proofs.Ytefgfnhhoidbdaa.X Go.Proofs.Ytefgfnhhoidbdaa.Gr
set_option linter.unusedVariables false
set_option linter.unusedSimpArgs false
section
variable {P : Program} {ops : Array Oper} {rest : List Oper} {o : Oper} {a : Act} {Q : Exit → Act → World → Prop}
theorem mu_event {W W1 : World} (hgd : o.guard = none) (hN : o.dst = none) (hrun : (execOp a.eval o).run P W = .ok .skip W1) (h : wpList P ops Q rest a W1) : wpList P ops Q (o :: rest) a W := by
  refine wpList_plain hgd fun K hK => ?_
  unfold Oper.wp
  rw [hrun]
  show K (a.put o.dst undef) W1
  rw [hN]
  exact hK _ _ h
end
def shF (l : List Int) (i : Int) : Bool := l.contains i
theorem shF_snoc (l : List Int) (x : Int) : (fun j : Int => if j = x then Value.bool true else Value.bool (shF l j)) = fun j => Value.bool (shF (l ++ [x]) j) := by
  funext j
  unfold shF
  by_cases h : j = x
  · subst h; simp
  · simp [h]
noncomputable def innV (n : Nat) (es : List S29) (l : List Int) : List Bool := comesL (wL n es (shF l) (-1))
def cutE (inn : List Bool) (l : List Int) (e : S29) : Bool := shF l e.f1 && (decide (e.f0 = -1) || bG inn e.f0)
set_option maxHeartbeats 16000000 in
set_option maxRecDepth 100000 in
theorem shut_any {g B n : Nat} {es : List S29} {O : Nat → Prop} (A0 : Option Addr) (c0 : Nat) (l : List Int) (w : World) (h : G g B n es O w) (hC : Kd.C (Kd.int .i64) w A0 l.length l) (hl : l.length ≤ 100000) (hwf : ∀ i, i ∈ l → (Lit.int .i64 i).wf = true) :
    Calls Try.prog 19 #[.pointer (some ⟨g, 0, none⟩), .slice A0 l.length c0] w fun e w' => ∃ cv dv, e = .returned (.tuple #[cv, dv]) ∧ Kd.R Kd.bool 4 w' w.heap.size (fun _ => True) cv (innV n es l) ∧ Kd.R k29 29 w' w.heap.size (fun _ => True) dv (es.filter (cutE (innV n es l) l)) ∧ Below w.heap.size w w' := by
  obtain ⟨mb0, cnt, A, c, f, hga, hO⟩ := h.edges
  have HGA := Aside0.mk hga
  have HG := Aside0.mk h
  have HC := Aside0.mk hC
  have HWF := Aside0.mk hwf
  have HL := Lib.hid hl
  have hmm := @run_makeMap Try.prog
  obtain ⟨mb, hmb⟩ : ∃ mb, mb = w.heap.size := ⟨_, rfl⟩
  unfold innV
  have hlen := wL_len hga (shF l) (-1)
  have HW := Lib.hid (fun (mv : Value) (W : World) (hb : Below w.heap.size w W) (hs : ∀ (W' : World) (i : Int), Below W.heap.size W W' → 0 ≤ i → i < n → (Instr.lookup 93 mv (.int .i64 i) false).run Try.prog W' = .ok (.bool (shF l i)) W') => walk_any mv (shF l) (-1) W (h.below hb) hs)
  rw [show walkL n es.length (Fm es) (Tm es) (shF l) (-1) = wL n es (shF l) (-1) from rfl] at HW
  generalize wL n es (shF l) (-1) = R at hlen HW ⊢
  have HR := Lib.hid (reach_any R (by have := hga.n_le; omega))
  have HRL := Lib.hid hlen
  clear hga hO h hC hwf hl hlen
  go_enter Try.func19, Try.ntmps19
  go_wp2
  rw [← hmb]
  have HB : Aside0 (Below w.heap.size w (w.alloc (.map #[] 0))) := ⟨below_alloc (Below.refl _ _) _⟩
  have HM : Aside0 (MapV.Is Try.prog 3 mb 0 (.bool false) (fun i => .bool (shF [] i)) (w.alloc (.map #[] 0))) := ⟨by rw [hmb]; exact MapV.made w Try.prog 3 (.bool false)⟩
  have HMB := Lib.hid hmb
  clear hmm hmb
  go_loopg [16] l.length (fun kq v16 w' => ∃ i : Nat, v16 = .int .i64 i ∧ Hid (i ≤ l.length ∧ kq = l.length - i) ∧ Aside0 (MapV.Is Try.prog 3 mb i (.bool false) (fun j => .bool (shF (l.take i) j)) w') ∧ Aside0 (Below w.heap.size w w'))
  case atStart => exact ⟨0, rfl, ⟨Nat.zero_le _, rfl⟩, HM, HB⟩
  case round =>
    clear HM HB
    obtain ⟨i, rfl, HI, HM, HB⟩ := hrel
    by_cases hi : i < l.length
    · obtain ⟨ad, had, hx⟩ := Kd.at_int HC.out (i : Int) (by omega) (by omega)
      cases had
      replace hx := (HB.out.cell (World.block_lt_of_cell? w _ hx)).trans hx
      have hrd : rd l (i : Int) = l[i] := by
        unfold rd
        rw [Int.toNat_natCast, List.getD_eq_getElem?_getD, List.getElem?_eq_getElem hi, Option.getD_some]
      rw [hrd, Int.toNat_natCast] at hx
      have hwx := HWF.out l[i] (List.getElem_mem hi)
      have htk := List.take_succ_eq_append_getElem hi
      generalize l[i] = x at hx hwx htk
      have HWX := Aside0.mk hwx
      have HTK := Aside0.mk htk
      have HLT := Lib.hid hi
      have p1 : (0 ≤ (i : Int)) = True := eq_true (by omega)
      have p2 : ((i : Int) < (l.length : Int)) = True := eq_true (by omega)
      have p2' : (i < l.length) = True := eq_true hi
      have k1 : decide (i < l.length) = true := decide_eq_true hi
      have k2 : decide ((i : Int) < (l.length : Int)) = true := decide_eq_true (by omega)
      clear hwx htk hrd hi
      obtain ⟨w6, hmu, hm6, hg6⟩ := HM.out.put keyed3 Try.underlying3 Try.underlying93 (by have := HL.out; have := HLT.out; unfold maxLen; omega) x HWX.out (.bool true)
      rw [shF_snoc, ← HTK.out] at hm6
      have HMU := Aside0.mk hmu
      have HM6 := Aside0.mk hm6
      have HB6 : Aside0 (Below w.heap.size w w6) := ⟨HB.out.grown hg6 HB.out.size (fun k hk => by injection hk with hk; have := HMB.out; omega)⟩
      clear hmu hm6 hg6
      have tok_m : True := trivial
      go_wp2_with (first | (clear tok_m; refine mu_event rfl rfl (mu_run HMU.out) ?_))
      go_roundg (l.length - (i + 1))
      case measure => have := HI.out; have := HLT.out; omega
      case rel => exact ⟨i + 1, by have := HLT.out; have := HL.out; rw [wrap_id (by omega) (by omega)]; rfl, ⟨by have := HLT.out; omega, rfl⟩, HM6, HB6⟩
    · obtain rfl : l.length = i := by have := HI.out; omega
      have k1 : decide (l.length < l.length) = false := decide_eq_false (by omega)
      have k2 : decide ((l.length : Int) < (l.length : Int)) = false := decide_eq_false (by omega)
      rw [List.take_length] at HM
      clear hi HI
      obtain ⟨wb, rfl⟩ : ∃ wb, wb = wr := ⟨_, rfl⟩
      have HB0 := HB
      clear HB
      have HB := Aside0.mk (Below.refl wb.heap.size wb)
      have HLK := Lib.hid (fun (W : World) (j : Int) (hb : Below wb.heap.size wb W) (h0 : 0 ≤ j) (h1 : j < n) => (HM.out.below hb).look keyed3 Try.underlying3 Try.underlying93 (zero4 W) j (key_wf (by omega) (by have := HGA.out.n_le; omega)))
      have tok_a : True := trivial
      have tok_b : True := trivial
      have HCL := Lib.hid (show (comesL R).length = n by unfold comesL; rw [List.length_map]; exact HRL.out)
      go_wp2_with (first | (clear tok_a; go_at_call 42; (with_reducible refine (HW.out _ _ (below_step HB0.out (pxb HB)) (fun W' j hj h0 h1 => HLK.out W' j (below_step (pxb HB) hj) h0 h1)).mono ?_); rintro e w1 ⟨bv, rfl, hr, hb⟩; obtain ⟨A1, c1, hbv⟩ := Kd.R_slice hr; subst hbv; have hc := Aside0.mk (Kd.R_reads' hr); have h1 := pxs HB hb; clear HB hb hr; have HB := h1; have HCC := hc; clear h1 hc) | (clear tok_b; go_at_call 41; (with_reducible refine (graph_reach.calls (R.length + 1) A1 c1 R _ _ HCC.out.2.2 HCC.out.2.1 HR.out).mono ?_); rintro e w2 ⟨cv, rfl, hr, hb⟩; obtain ⟨A2, c2, hcv⟩ := Kd.R_slice hr; rw [HCL.out] at hcv; subst hcv; have h1 := pxs HB hb; have HV := Aside0.mk (Kd.R_lower (R_exact hr rfl) (below_size (pxb HB))); clear HB hb hr; have HB := h1; clear h1; have GB := Aside0.mk (((below_step HB0.out (pxb HB)).block _ (blk_lt HGA.out.bk)).trans HGA.out.bk); obtain ⟨xGB0, xGB1, xGB2, yGB0, yGB1, yGB2⟩ := pxf3 GB))
      go_loopg [10, 32] es.length (fun kq v10 v32 w' => ∃ (dv : Value) (i : Nat), dv = v10 ∧ v32 = .int .i64 i ∧ Hid (i ≤ es.length ∧ kq = es.length - i) ∧ Aside0 (Kd.R k29 29 w' wb.heap.size (fun _ => True) dv ((es.take i).filter (cutE (comesL R) l))) ∧ Aside0 (Kd.R Kd.bool 4 w' wb.heap.size (fun k => (Value.slice A2 n c2).ownBlock = some k) (.slice A2 n c2) (comesL R)) ∧ Aside0 (Below wb.heap.size wb w'))
      case atStart => exact ⟨_, 0, rfl, rfl, ⟨Nat.zero_le _, rfl⟩, ⟨Kd.R_nil _ _ _ _ _⟩, ⟨pxr HV⟩, ⟨pxb HB⟩⟩
      case round =>
        clear HB HV GB xGB0 xGB1 xGB2 yGB0 yGB1 yGB2
        obtain ⟨dv, i, rfl, rfl, HI, HO, HV, HB⟩ := hrel
        by_cases hi : i < es.length
        · have hv := HGA.out.val i hi
          unfold Fm Tm at hv
          have hbt := below_step HB0.out HB.out
          obtain ⟨adE, hadE, he0, he1, he2, he3⟩ := at_T29 (Kd.R_reads' HGA.out.row).2.2 (i : Int) (by omega) (by omega)
          subst hadE
          replace he0 := (hbt.cell (World.block_lt_of_cell? w _ he0)).trans he0
          replace he1 := (hbt.cell (World.block_lt_of_cell? w _ he1)).trans he1
          replace he2 := (hbt.cell (World.block_lt_of_cell? w _ he2)).trans he2
          replace he3 := (hbt.cell (World.block_lt_of_cell? w _ he3)).trans he3
          rw [show rd_T29 es (i : Int) = es.getD i z29 from rfl, Int.toNat_natCast] at he0 he1 he2 he3
          have hge : es.getD i z29 = es[i] := by rw [List.getD_eq_getElem?_getD, List.getElem?_eq_getElem hi, Option.getD_some]
          have hflt : (es.take (i + 1)).filter (cutE (comesL R) l) = (es.take i).filter (cutE (comesL R) l) ++ if cutE (comesL R) l (es.getD i z29) = true then [es.getD i z29] else [] := by
            rw [List.take_succ_eq_append_getElem hi, List.filter_append, hge, List.filter_cons, List.filter_nil]
          have hal : ((es.take i).filter (cutE (comesL R) l)).length ≤ 16384 := Nat.le_trans (List.length_filter_le _ _) (by rw [List.length_take]; have := HGA.out.m_le; omega)
          generalize es.getD i z29 = e at *
          generalize (es.take i).filter (cutE (comesL R) l) = acc at hflt HO hal
          have HAL := Lib.hid hal
          have HEV := Lib.hid hv.2.2
          have p3 : (0 ≤ (i : Int)) = True := eq_true (by omega)
          have p4 : ((i : Int) < (es.length : Int)) = True := eq_true (by omega)
          have p4' : (i < es.length) = True := eq_true (by omega)
          have k4 : decide (i < es.length) = true := decide_eq_true hi
          have k5 : decide ((i : Int) < (es.length : Int)) = true := decide_eq_true (by omega)
          have HLT := Lib.hid hi
          have HBX := Aside0.mk (Below.refl wr.heap.size wr)
          have hF0 := Lib.hid (And.intro hv.1 hv.2.1)
          clear hi hge hal hbt hv k1 k2
          cases hb1 : shF l e.f1
          · have hlk := fun W hb => HLK.out W e.f1 hb HEV.out.1 HEV.out.2
            rw [hb1] at hlk
            have hq : cutE (comesL R) l e = false := by unfold cutE; first | (rw [hb1, Bool.false_and]; done) | (rw [hb1, Bool.false_and]; rfl)
            have HF := Aside0.mk (show (es.take (i + 1)).filter (cutE (comesL R) l) = acc by rw [hflt]; simp [hq])
            clear hq hflt hb1
            have tok_m : True := trivial
            go_wp2_with (first | ((with_reducible refine gate_dst (N := 12) rfl ?_); refine box_event ?hg (N := 12) ?hd (cs := #[.int .i64 0, .int .i64 0, .int .i64 0, .int .i64 0]) (t := 29) ?hr ?_; (case hd => rfl); (case hg => rfl); (case hr => first | (go_simp; done) | (go_simp; rfl)); intro gx hg w2 hbox hb; have NWXB := Aside0.mk hbox; have GWXB := Aside0.mk ((by rw [hg]; exact (below_size (pxb HB)) : wb.heap.size ≤ gx)); have GWHBXXB := Aside0.mk ((by rw [hg]; exact (below_size (pxb HBX))) : wr.heap.size ≤ gx); clear hg hbox; have n0_ := pxs HB hb; have nHBX_ := pxs HBX hb; clear HB HBX ; have HB := n0_; clear n0_; have HBX := nHBX_; clear nHBX_; have XB := NWXB; clear NWXB hb; obtain ⟨xXB0, xXB1, xXB2, xXB3, yXB0, yXB1, yXB2, yXB3⟩ := pxf4 XB) | (clear tok_m; at_lookup; refine Kd.event_run rfl (lk_run (hlk _ (pxb HB))) ?_))
            go_roundg (es.length - (i + 1))
            case measure => have := HI.out; have := HLT.out; omega
            case rel => exact ⟨dv, i + 1, rfl, by have := HLT.out; have := HGA.out.m_le; rw [wrap_id (by omega) (by omega)]; rfl, ⟨by have := HLT.out; omega, rfl⟩, ⟨by rw [HF.out]; exact Kd.R_below HO.out (pxb HBX)⟩, ⟨Kd.R_below HV.out (pxb HBX)⟩, ⟨pxb HB⟩⟩
          · have hlk := fun W hb => HLK.out W e.f1 hb HEV.out.1 HEV.out.2
            rw [hb1] at hlk
            by_cases h0 : e.f0 = -1
            · have k6 : (e.f0 == -1) = true := beq_iff_eq.2 h0
              have kk := decide_eq_true h0
              clear h0
              have hq : cutE (comesL R) l e = true := by unfold cutE; first | (rw [hb1, kk, Bool.true_or, Bool.true_and]; done) | (rw [hb1, kk, Bool.true_or, Bool.true_and]; rfl)
              have HF := Aside0.mk (show (es.take (i + 1)).filter (cutE (comesL R) l) = acc ++ [e] by rw [hflt]; simp [hq])
              clear hq hflt hb1 kk
              have tok_m : True := trivial
              go_wp2_with (first | ((with_reducible refine gate_dst (N := 12) rfl ?_); refine box_event ?hg (N := 12) ?hd (cs := #[.int .i64 0, .int .i64 0, .int .i64 0, .int .i64 0]) (t := 29) ?hr ?_; (case hd => rfl); (case hg => rfl); (case hr => first | (go_simp; done) | (go_simp; rfl)); intro gx hg w2 hbox hb; have NWXB := Aside0.mk hbox; have GWXB := Aside0.mk ((by rw [hg]; exact (below_size (pxb HB)) : wb.heap.size ≤ gx)); have GWHBXXB := Aside0.mk ((by rw [hg]; exact (below_size (pxb HBX))) : wr.heap.size ≤ gx); clear hg hbox; have n0_ := pxs HB hb; have nHBX_ := pxs HBX hb; clear HB HBX ; have HB := n0_; clear n0_; have HBX := nHBX_; clear nHBX_; have XB := NWXB; clear NWXB hb; obtain ⟨xXB0, xXB1, xXB2, xXB3, yXB0, yXB1, yXB2, yXB3⟩ := pxf4 XB) | (clear tok_m; at_lookup; refine Kd.event_run rfl (lk_run (hlk _ (pxb HB))) ?_) | ((with_reducible refine gate_builtin (b := .append) (xs := #[.tmp 52, .tmp 54]) rfl ?_); at_builtin; refine Kd.R_append k29 (w0 := wb) wb.heap.size rfl (.tmp 52) (.tmp 54) 22 29 (.agg #[.int .i64 0, .int .i64 0, .int .i64 0, .int .i64 0]) 32 rfl Try.underlying22 info29 rfl (by decide) (by omega) dv acc e [.int .i64 e.f0, .int .i64 e.f1, .int .i64 e.f2, .int .i64 e.f3] (fun _ => True) (fun _ => False) rfl (by first | (go_simp; done) | (go_simp; rfl)) ?aP (fun _ hk => hk.elim) ?aF ?aO ?aB ?aS ?aL ?_; (case aP => exact k29_mkM _ _ _ _); (case aF => exact fun _ _ => trivial); (case aO => exact Kd.R_below HO.out (pxb HBX)); (case aB => exact pxb HB); (case aS => exact (pxb HB).size); (case aL => have := HAL.out; omega); intro v1 w3 ho hb hg hat; have hoc := Kd.R_below HO.out (pxb HBX); have n1_ := Aside0.mk (Kd.R_move (Kd.R_below HV.out (pxb HBX)) (fun k' hk' => hg.block k' (row_own (Kd.R_below HV.out (pxb HBX)) hk').2.1 (fun e => by obtain ⟨_, _, cells, hcs⟩ := row_own (Kd.R_below HV.out (pxb HBX)) hk'; exact Kd.R_ne hoc hcs (by decide) e))); have n0_ := Aside0.mk hb; have n2_ := Aside0.mk ho; clear hoc HV HO HB HBX ho hb hg hat; have HB := n0_; have HV := n1_; have HO := n2_; clear n0_ n1_ n2_))
              go_roundg (es.length - (i + 1))
              case measure => have := HI.out; have := HLT.out; omega
              case rel => exact ⟨_, i + 1, rfl, by have := HLT.out; have := HGA.out.m_le; rw [wrap_id (by omega) (by omega)]; rfl, ⟨by have := HLT.out; omega, rfl⟩, ⟨by rw [HF.out]; exact pxr HO⟩, ⟨pxr HV⟩, ⟨pxb HB⟩⟩
            · have k6 : (e.f0 == -1) = false := beq_eq_false_iff_ne.2 h0
              have kk := decide_eq_false h0
              have q2 : (0 ≤ e.f0) = True := eq_true (by have := hF0.out; omega)
              have q3 : (e.f0 < (n : Int)) = True := eq_true hF0.out.2
              obtain ⟨adT, haT, YT⟩ := Kd.at_bool (Kd.R_reads' HV.out).2.2 e.f0 (by have := hF0.out; omega) (by have := hF0.out; have := HCL.out; omega)
              subst haT
              rw [show rdOf false (comesL R) e.f0 = bG (comesL R) e.f0 from rfl] at YT
              clear h0
              cases hb0 : bG (comesL R) e.f0
              · have YT := Aside0.mk (show wr.cell? (adT.add e.f0.toNat) = some (.bool false) by rw [← hb0]; exact YT)
                have hq : cutE (comesL R) l e = false := by unfold cutE; first | (rw [hb1, kk, hb0, Bool.true_and, Bool.false_or]; done) | (rw [hb1, kk, hb0, Bool.true_and, Bool.false_or]; rfl)
                have HF := Aside0.mk (show (es.take (i + 1)).filter (cutE (comesL R) l) = acc by rw [hflt]; simp [hq])
                clear hq hflt hb1 kk hb0
                have tok_m : True := trivial
                go_wp2_with (first | ((with_reducible refine gate_dst (N := 12) rfl ?_); refine box_event ?hg (N := 12) ?hd (cs := #[.int .i64 0, .int .i64 0, .int .i64 0, .int .i64 0]) (t := 29) ?hr ?_; (case hd => rfl); (case hg => rfl); (case hr => first | (go_simp; done) | (go_simp; rfl)); intro gx hg w2 hbox hb; have NWXB := Aside0.mk hbox; have GWXB := Aside0.mk ((by rw [hg]; exact (below_size (pxb HB)) : wb.heap.size ≤ gx)); have GWHBXXB := Aside0.mk ((by rw [hg]; exact (below_size (pxb HBX))) : wr.heap.size ≤ gx); clear hg hbox; have n0_ := pxs HB hb; have nHBX_ := pxs HBX hb; clear HB HBX ; have HB := n0_; clear n0_; have HBX := nHBX_; clear nHBX_; have XB := NWXB; clear NWXB hb; obtain ⟨xXB0, xXB1, xXB2, xXB3, yXB0, yXB1, yXB2, yXB3⟩ := pxf4 XB; have xT := far4 (gx := gx) (v0 := .int .i64 e.f0) (v1 := .int .i64 e.f1) (v2 := .int .i64 e.f2) (v3 := .int .i64 e.f3) ((HBX.out.cell (World.block_lt_of_cell? wr _ YT.out)).trans YT.out) (pxo' YT.out GWHBXXB)) | (clear tok_m; at_lookup; refine Kd.event_run rfl (lk_run (hlk _ (pxb HB))) ?_))
                go_roundg (es.length - (i + 1))
                case measure => have := HI.out; have := HLT.out; omega
                case rel => exact ⟨dv, i + 1, rfl, by have := HLT.out; have := HGA.out.m_le; rw [wrap_id (by omega) (by omega)]; rfl, ⟨by have := HLT.out; omega, rfl⟩, ⟨by rw [HF.out]; exact Kd.R_below HO.out (pxb HBX)⟩, ⟨Kd.R_below HV.out (pxb HBX)⟩, ⟨pxb HB⟩⟩
              · have YT := Aside0.mk (show wr.cell? (adT.add e.f0.toNat) = some (.bool true) by rw [← hb0]; exact YT)
                have hq : cutE (comesL R) l e = true := by unfold cutE; first | (rw [hb1, kk, hb0, Bool.true_and, Bool.false_or]; done) | (rw [hb1, kk, hb0, Bool.true_and, Bool.false_or]; rfl)
                have HF := Aside0.mk (show (es.take (i + 1)).filter (cutE (comesL R) l) = acc ++ [e] by rw [hflt]; simp [hq])
                clear hq hflt hb1 kk hb0
                have tok_m : True := trivial
                go_wp2_with (first | ((with_reducible refine gate_dst (N := 12) rfl ?_); refine box_event ?hg (N := 12) ?hd (cs := #[.int .i64 0, .int .i64 0, .int .i64 0, .int .i64 0]) (t := 29) ?hr ?_; (case hd => rfl); (case hg => rfl); (case hr => first | (go_simp; done) | (go_simp; rfl)); intro gx hg w2 hbox hb; have NWXB := Aside0.mk hbox; have GWXB := Aside0.mk ((by rw [hg]; exact (below_size (pxb HB)) : wb.heap.size ≤ gx)); have GWHBXXB := Aside0.mk ((by rw [hg]; exact (below_size (pxb HBX))) : wr.heap.size ≤ gx); clear hg hbox; have n0_ := pxs HB hb; have nHBX_ := pxs HBX hb; clear HB HBX ; have HB := n0_; clear n0_; have HBX := nHBX_; clear nHBX_; have XB := NWXB; clear NWXB hb; obtain ⟨xXB0, xXB1, xXB2, xXB3, yXB0, yXB1, yXB2, yXB3⟩ := pxf4 XB; have xT := far4 (gx := gx) (v0 := .int .i64 e.f0) (v1 := .int .i64 e.f1) (v2 := .int .i64 e.f2) (v3 := .int .i64 e.f3) ((HBX.out.cell (World.block_lt_of_cell? wr _ YT.out)).trans YT.out) (pxo' YT.out GWHBXXB)) | (clear tok_m; at_lookup; refine Kd.event_run rfl (lk_run (hlk _ (pxb HB))) ?_) | ((with_reducible refine gate_builtin (b := .append) (xs := #[.tmp 52, .tmp 54]) rfl ?_); at_builtin; refine Kd.R_append k29 (w0 := wb) wb.heap.size rfl (.tmp 52) (.tmp 54) 22 29 (.agg #[.int .i64 0, .int .i64 0, .int .i64 0, .int .i64 0]) 32 rfl Try.underlying22 info29 rfl (by decide) (by omega) dv acc e [.int .i64 e.f0, .int .i64 e.f1, .int .i64 e.f2, .int .i64 e.f3] (fun _ => True) (fun _ => False) rfl (by first | (go_simp; done) | (go_simp; rfl)) ?aP (fun _ hk => hk.elim) ?aF ?aO ?aB ?aS ?aL ?_; (case aP => exact k29_mkM _ _ _ _); (case aF => exact fun _ _ => trivial); (case aO => exact Kd.R_below HO.out (pxb HBX)); (case aB => exact pxb HB); (case aS => exact (pxb HB).size); (case aL => have := HAL.out; omega); intro v1 w3 ho hb hg hat; have hoc := Kd.R_below HO.out (pxb HBX); have n1_ := Aside0.mk (Kd.R_move (Kd.R_below HV.out (pxb HBX)) (fun k' hk' => hg.block k' (row_own (Kd.R_below HV.out (pxb HBX)) hk').2.1 (fun e => by obtain ⟨_, _, cells, hcs⟩ := row_own (Kd.R_below HV.out (pxb HBX)) hk'; exact Kd.R_ne hoc hcs (by decide) e))); have n0_ := Aside0.mk hb; have n2_ := Aside0.mk ho; clear hoc HV HO HB HBX ho hb hg hat; have HB := n0_; have HV := n1_; have HO := n2_; clear n0_ n1_ n2_))
                go_roundg (es.length - (i + 1))
                case measure => have := HI.out; have := HLT.out; omega
                case rel => exact ⟨_, i + 1, rfl, by have := HLT.out; have := HGA.out.m_le; rw [wrap_id (by omega) (by omega)]; rfl, ⟨by have := HLT.out; omega, rfl⟩, ⟨by rw [HF.out]; exact pxr HO⟩, ⟨pxr HV⟩, ⟨pxb HB⟩⟩
        · obtain rfl : es.length = i := by have := HI.out; omega
          have k4 : decide (es.length < es.length) = false := decide_eq_false (by omega)
          have k5 : decide ((es.length : Int) < (es.length : Int)) = false := decide_eq_false (by omega)
          rw [List.take_length] at HO
          go_wp2
          go_ret2
          exact ⟨_, _, rfl, Kd.R_mono (Kd.R_lower HV.out HB0.out.size) (fun _ _ => trivial), Kd.R_lower HO.out HB0.out.size, below_step HB0.out HB.out⟩
end Go.Proofs.Ytefgfnhhoidbdaa.GrW
