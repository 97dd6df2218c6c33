/- walk: the nearest nodes first. -/
import Derived.Test.YtefgfnhhoidbdaaGraphW3
namespace Go.Proofs.Ytefgfnhhoidbdaa.GrW
open Go.RowKit Go.Proofs.YtefgfnhhoidbdaaW.PrintWords Go.Proofs.YtefgfnhhoidbdaaW.PrintLast Go.Proofs.Ytefgfnhhoidbdaa.X Go.Proofs.Ytefgfnhhoidbdaa.Gr
set_option linter.unusedVariables false
set_option linter.unusedSimpArgs false
def fillN (n i : Nat) : List Int := List.replicate i (-1) ++ List.replicate (n - i) 0
theorem fillN_len {n i : Nat} (h : i ≤ n) : (fillN n i).length = n := by unfold fillN; simp; omega
theorem fillN_set {n i : Nat} (h : i < n) : (fillN n i).set i (-1) = fillN n (i + 1) := by
  unfold fillN
  obtain ⟨m, hm⟩ : ∃ m, n - i = m + 1 := ⟨n - i - 1, by omega⟩
  have h2 : n - (i + 1) = m := by omega
  rw [hm, h2, List.set_append_right _ _ (by simp), List.length_replicate, Nat.sub_self, List.replicate_succ, List.set_cons_zero, List.replicate_succ', List.append_assoc]
  rfl
theorem fillN_0 (n : Nat) : fillN n 0 = List.replicate n 0 := by unfold fillN; simp
theorem fillN_n (n : Nat) : fillN n n = none0 n := by unfold fillN none0; simp
/-- What has been gone along, of the edges that leave a node. -/
def vis (es : List S29) (sf : Int → Bool) (skip : Int) (a : Int) (by0 Q0 : List Int) (i : Nat) : List Int × List Int := ((outL es.length (Fm es) a).take i).foldl (visit (Tm es) sf skip) (by0, Q0)
theorem vis_0 (es : List S29) (sf : Int → Bool) (skip : Int) (a : Int) (by0 Q0 : List Int) : vis es sf skip a by0 Q0 0 = (by0, Q0) := rfl
theorem vis_s {es : List S29} {sf : Int → Bool} {skip : Int} {a : Int} {by0 Q0 : List Int} {i : Nat} (h : i < (outL es.length (Fm es) a).length) : vis es sf skip a by0 Q0 (i + 1) = visit (Tm es) sf skip (vis es sf skip a by0 Q0 i) (outL es.length (Fm es) a)[i] := by
  unfold vis
  rw [List.take_succ_eq_append_getElem h, List.foldl_append]
  rfl
theorem vis_n (es : List S29) (sf : Int → Bool) (skip : Int) (a : Int) (by0 Q0 : List Int) : vis es sf skip a by0 Q0 (outL es.length (Fm es) a).length = (outL es.length (Fm es) a).foldl (visit (Tm es) sf skip) (by0, Q0) := by
  unfold vis
  rw [List.take_length]
theorem visit_len (T : Nat → Int) (sf : Int → Bool) (skip : Int) (st : List Int × List Int) (k : Nat) : (visit T sf skip st k).1.length = st.1.length := by
  unfold visit
  split <;> simp
theorem vis_len (es : List S29) (sf : Int → Bool) (skip : Int) (a : Int) (by0 Q0 : List Int) : ∀ i, (vis es sf skip a by0 Q0 i).1.length = by0.length := by
  unfold vis
  generalize outL es.length (Fm es) a = L
  intro i
  generalize L.take i = M
  clear L
  revert by0 Q0
  induction M with
  | nil => intro by0 Q0; rfl
  | cons k M ih =>
    intro by0 Q0
    rw [List.foldl_cons]
    have := ih (visit (Tm es) sf skip (by0, Q0) k).1 (visit (Tm es) sf skip (by0, Q0) k).2
    rw [show ((visit (Tm es) sf skip (by0, Q0) k).1, (visit (Tm es) sf skip (by0, Q0) k).2) = visit (Tm es) sf skip (by0, Q0) k from rfl] at this
    rw [this, visit_len]
theorem visit_q {n : Nat} {T : Nat → Int} {sf : Int → Bool} {skip : Int} {st : List Int × List Int} {k : Nat} (hT : 0 ≤ T k ∧ T k < n) (h : ∀ v, v ∈ st.2 → -1 ≤ v ∧ v < n) : ∀ v, v ∈ (visit T sf skip st k).2 → -1 ≤ v ∧ v < n := by
  unfold visit
  split
  · exact h
  · intro v hv
    rcases List.mem_append.1 hv with hv | hv
    · exact h v hv
    · have := List.mem_singleton.1 hv
      subst this
      omega
theorem bfs_cons {m f : Nat} {F T : Nat → Int} {sf : Int → Bool} {skip : Int} {by_ Q : List Int} {a : Int} {R : List Int} (h : bfs m F T sf skip f by_ (a :: Q) = some R) : ∃ f', f = f' + 1 ∧ bfs m F T sf skip f' ((outL m F a).foldl (visit T sf skip) (by_, Q)).1 ((outL m F a).foldl (visit T sf skip) (by_, Q)).2 = some R := by
  cases f with
  | zero => simp [bfs] at h
  | succ f => exact ⟨f, rfl, by rw [bfs] at h; exact h⟩
theorem reps1 {W : World} {base : Nat} {okp : Nat → Prop} (x : Int) : Reps ((Kd.int .i64).M W base okp) (Kd.int .i64).sz [x] [.int .i64 x] := by
  refine ⟨rfl, fun j p hj => ?_⟩
  cases j with
  | zero =>
    have : x = p := by simpa using hj
    subst this
    rfl
  | succ j => simp at hj
theorem newQ {W W2 : World} {base : Nat} {v u : Value} {xs : List Int} (ho : Kd.R (Kd.int .i64) 3 W2 W.heap.size (fun _ => True) u xs) (hb : base ≤ W.heap.size) (hv : ∀ k, v.ownBlock = some k → k < W.heap.size) : Kd.Q (Kd.int .i64) 3 W2 base (fun k => v.ownBlock ≠ some k) u xs :=
  Kd.Q_mono (Kd.Q_of_R (Kd.R_lower (R_exact ho rfl) hb)) (fun k hk e => by have := hv k e; have := (row_own ho hk).1; omega)
set_option maxHeartbeats 16000000 in
set_option maxRecDepth 100000 in
theorem walk_any {g B n : Nat} {es : List S29} {O : Nat → Prop} (mv : Value) (sf : Int → Bool) (skip : Int) (w : World) (h : G g B n es O w)
    (hs : ∀ (W : World) (i : Int), Below w.heap.size w W → 0 ≤ i → i < n → (Instr.lookup 93 mv (.int .i64 i) false).run Try.prog W = .ok (.bool (sf i)) W) :
    Calls Try.prog 42 #[.pointer (some ⟨g, 0, none⟩), mv, .int .i64 skip] w fun e w' => ∃ bv, e = .returned bv ∧ Kd.R (Kd.int .i64) 3 w' w.heap.size (fun _ => True) bv (walkL n es.length (Fm es) (Tm es) sf skip) ∧ Below w.heap.size w w' := by
  obtain ⟨mb, cnt, A, c, f, hga, hO⟩ := h.edges
  have HB := Aside0.mk (Below.refl w.heap.size w)
  have GB := Aside0.mk hga.bk
  have HGA := Aside0.mk hga
  obtain ⟨xGB0, xGB1, xGB2, yGB0, yGB1, yGB2⟩ := pxf3 GB
  have HS := Aside0.mk hs
  have hwe := walkL_eq (F := Fm es) (shut := sf) (skip := skip) (fun k hk => (hga.val k hk).2.2)
  generalize walkL n es.length (Fm es) (Tm es) sf skip = R at hwe
  have HWE := Aside0.mk hwe
  have HN := Lib.hid hga.n_le
  clear hga h hO hs hwe
  go_enter Try.func42, Try.ntmps42
  go_wp2_with (first | ((with_reducible refine gate_dst (N := 18) rfl ?_); refine Kd.R_make (Kd.int .i64) _ 3 rfl (N := 18) rfl 43 _ _ rfl (n : Int) rfl rfl Try.underlying43 (.int .i64 0) 8 info3 rfl (by decide) (by omega) 0 (ok := fun _ => True) (okp := fun _ => True) rfl (fun _ hk => hk) trivial (by omega) (by have := HN.out; omega) (Below.refl _ _) (Nat.le_refl _) ?_; intro bv w1 ho hb hg_ hnew_; clear hg_ hnew_; rw [Int.toNat_natCast, ← fillN_0] at ho; obtain ⟨A1, c1, hbv⟩ := Kd.R_slice ho; rw [fillN_len (Nat.zero_le n)] at hbv; subst hbv; have HR := Aside0.mk (Kd.R_lower ho (below_size (pxb HB))); clear ho; have n0_ := pxs HB hb; have nGB_ : Aside0 (w1.heap[g]? = some (.cells #[.int .i64 n, .slice A es.length c, .map (some mb)] 88 (0, 0))) := ⟨blk_below (pxp GB) hb⟩; clear HB GB; have HB := n0_; clear n0_; have GB := nGB_; clear nGB_))
  go_loopg [21] n (fun kq v21 w' => ∃ i : Nat, v21 = .int .i64 i ∧ Hid (i ≤ n ∧ kq = n - i) ∧ Aside0 (Kd.R (Kd.int .i64) 3 w' w.heap.size (fun _ => True) (.slice A1 n c1) (fillN n i)) ∧ Aside0 (Below w.heap.size w w'))
  case atStart => exact ⟨0, rfl, ⟨Nat.zero_le _, rfl⟩, ⟨pxr HR⟩, ⟨pxb HB⟩⟩
  case round =>
    clear HR HB GB
    obtain ⟨i, rfl, HI, HR, HB⟩ := hrel
    by_cases hi : i < n
    · have hl := fillN_len (Nat.le_of_lt hi)
      have hR := HR.out
      rw [← hl] at hR
      obtain ⟨gb, cb, eb, hb1, hb2, _⟩ := Kd.R_form hR (by rw [hl]; omega)
      have HR0 := Aside0.mk hR
      clear hR
      rw [hl] at eb HR0
      injection eb with e1 e2 e3
      subst e1
      subst e3
      clear e2
      have p0 : (0 ≤ (i : Int)) = True := eq_true (by omega)
      have p1 : ((i : Int) < (n : Int)) = True := eq_true (by omega)
      have hcell := Kd.R_celln (0 : Int) (n := n) HR0.out (i : Int) (by omega) (by omega)
      rw [Int.toNat_natCast] at hcell
      obtain ⟨hx0, hf0⟩ := hcell
      have HP0 := Kd.R_putg HR0.out (i : Int) (-1)
      rw [Int.toNat_natCast, fillN_set hi] at HP0
      have HP := Aside0.mk HP0
      clear HP0
      have HLT := Lib.hid hi
      have hle := Aside0.mk hb1
      clear hi hl hb1 hb2
      go_wp2_with (first | ((with_reducible refine gate_store (t := 3) (p := 26) rfl ?_); refine store_event (t := 3) (p := 26) (v := ?vo) (w1 := (wr.setCell ⟨gb, i, none⟩ (.int .i64 (-1)))) ?hg ?ho ?hn ?hr ?_; (case ho => rfl); (case hg => rfl); (case hn => rfl); (case hr => first | (go_simp; done) | (go_simp; rfl)); intro w12 hw; have n0_ : Aside0 (Below w.heap.size w w12) := ⟨by rw [hw]; exact below_set HB.out hle.out⟩; have n1_ := HP.out.1; rw [← hw] at n1_; have n2_ := Aside0.mk n1_; clear n1_ HP HR HR0 HB hw hx0 hf0; have HB := n0_; have HR := n2_; clear n0_ n2_))
      go_roundg (n - (i + 1))
      case measure => have := HI.out; have := HLT.out; omega
      case rel => exact ⟨i + 1, by have := HLT.out; have := HN.out; rw [wrap_id (by omega) (by omega)]; rfl, ⟨by have := HLT.out; omega, rfl⟩, ⟨pxr HR⟩, ⟨pxb HB⟩⟩
    · obtain rfl : n = i := by have := HI.out; omega
      have hr := R_exact HR.out rfl
      rw [fillN_n] at hr
      have HR1 := Aside0.mk hr
      clear hr HR HI hi
      have k0 : decide ((n : Int) < (n : Int)) = false := decide_eq_false (by omega)
      go_wp2_with (first | ((with_reducible refine gate_dst (N := 28) rfl ?_); refine Kd.R_lit (Kd.int .i64) _ 3 ?hg (N := 28) ?hd (xs := ([-1] : List Int)) (inner := [.int .i64 (-1)]) (ok := fun _ => True) (okp := fun _ => False) ?hr ?hp (fun _ hk => hk.elim) trivial (Below.refl _ _) (Nat.le_refl _) (by simp) ?_; (case hd => rfl); (case hg => rfl); (case hr => first | (go_simp; done) | (go_simp; rfl)); (case hp => exact reps1 (-1)); intro qv w2 ho hb hg_ hnew_; clear hg_ hnew_; have n0_ := pxs HB hb; have HQ := Aside0.mk (newQ (base := w.heap.size) (v := Value.slice A1 n c1) ho HB.out.size (fun k hk => (row_own HR1.out hk).2.1)); have n1_ := Aside0.mk (Kd.R_below HR1.out hb); clear HB HR1 ho hb; have HB := n0_; have HR1 := n1_; clear n0_ n1_))
      go_loopg [9] (n + 1) (fun kq v9 w' => ∃ (by_ Q : List Int), Hid (bfs es.length (Fm es) (Tm es) sf skip kq by_ Q = some R ∧ by_.length = n ∧ (∀ v, v ∈ Q → -1 ≤ v ∧ v < n) ∧ un by_ + Q.length ≤ n + 1) ∧ Aside0 (Kd.R (Kd.int .i64) 3 w' w.heap.size (fun k => (Value.slice A1 n c1).ownBlock = some k) (.slice A1 n c1) by_) ∧ Aside0 (Kd.Q (Kd.int .i64) 3 w' w.heap.size (fun k => (Value.slice A1 n c1).ownBlock ≠ some k) v9 Q) ∧ Aside0 (Below w.heap.size w w'))
      case atStart => exact ⟨none0 n, [-1], ⟨HWE.out, by simp [none0], fun v hv => by have := List.mem_singleton.1 hv; omega, by rw [un_none0]; exact Nat.le_refl _⟩, ⟨pxr HR1⟩, HQ, ⟨pxb HB⟩⟩
      case round =>
        clear HR1 HQ HB
        obtain ⟨by_, Q, HI, HR, HQ, HB⟩ := hrel
        obtain ⟨Aq, cq, hqv, hcq⟩ := Kd.Q_slice HQ.out
        cases Q with
        | nil =>
          subst hqv
          have hR : by_ = R := by have := HI.out.1; cases gk <;> simpa [bfs] using this
          have k1 : decide ((0 : Int) < (0 : Int)) = false := rfl
          have HE := Aside0.mk hR
          clear hR
          go_wp2
          go_ret
          refine ⟨_, rfl, ?_, HB.out⟩
          rw [← HE.out]
          exact Kd.R_mono HR.out (fun _ _ => trivial)
        | cons a Q0 =>
          obtain ⟨f', rfl, hb2⟩ := bfs_cons HI.out.1
          have HA := Lib.hid (HI.out.2.2.1 a List.mem_cons_self)
          have HQ0 := Aside0.mk (fun v hv => HI.out.2.2.1 v (List.mem_cons_of_mem _ hv))
          have HLB := Lib.hid HI.out.2.1
          have HUN := Lib.hid (show un by_ + (Q0.length + 1) ≤ n + 1 from HI.out.2.2.2)
          have HF := Aside0.mk hb2
          clear hb2 HI
          obtain ⟨L, hL⟩ : ∃ L, L = Q0.length + 1 := ⟨_, rfl⟩
          rw [List.length_cons, ← hL] at hqv hcq
          subst hqv
          have hq := HQ.out
          obtain ⟨ad, had, hx1⟩ := Kd.at_int (Kd.Q_reads' hq).2.2 0 (by omega) (by rw [List.length_cons]; omega)
          subst had
          rw [show rd (a :: Q0) 0 = a from rfl, show ad.add (0 : Int).toNat = ad from by simp [Addr.add]] at hx1
          have k1 : decide ((0 : Int) < (L : Int)) = true := decide_eq_true (by omega)
          have k1' : decide (0 < L) = true := decide_eq_true (by omega)
          have p1' : (0 < L) = True := eq_true (by omega)
          have p1 : ((0 : Int) < (L : Int)) = True := eq_true (by omega)
          obtain ⟨i0, hi0, _, hsz, _⟩ := info_parts info3
          have hcut := cut_from (P := Try.prog) 43 3 .i64 Try.underlying43 hi0 1 hsz (some ad) L cq 1 (by omega) (by omega)
          have hdrop := Kd.Q_drop (k := 1) hq (by simp)
          have e1 : (1 : Int).toNat = 1 := rfl
          rw [e1] at hcut
          rw [show (Kd.int .i64).sz = 1 from rfl, List.drop_one, List.tail_cons] at hdrop
          obtain ⟨Aq2, hAq2⟩ : ∃ Aq2, Aq2 = (if cq = 1 then (some ad) else (some ad).map (·.add (1 * 1))) := ⟨_, rfl⟩
          rw [← hAq2] at hcut hdrop
          have e2 : L - 1 = Q0.length := by omega
          obtain ⟨c2, hc2⟩ : ∃ c2, c2 = cq - 1 := ⟨_, rfl⟩
          rw [e2, ← hc2] at hcut hdrop
          have HQ1 := Aside0.mk hdrop
          clear hdrop hAq2 hc2 hsz hi0 hcq HQ hq hL
          obtain ⟨A3, c3, hfa⟩ := Kd.R_slice (HGA.out.rows a HA.out.1 HA.out.2)
          have hlk := look43 (HGA.out.map.below HB.out) HA.out.1 (by have := HA.out; have := HN.out; omega)
          rw [hfa] at hlk
          have HFA := Aside0.mk hfa
          have HLK := Aside0.mk hlk
          clear hfa hlk
          obtain ⟨LL, hLL⟩ : ∃ LL, LL = (outI es a).length := ⟨_, rfl⟩
          rw [← hLL] at HLK HFA
          have hLo : LL = (outL es.length (Fm es) a).length := by rw [hLL]; unfold outI; rw [List.length_map]
          have HLL := Lib.hid hLL
          have HLO := Lib.hid hLo
          have HLLB := Lib.hid (show LL ≤ 16384 by have h1 := outI_len es a; have h2 := HGA.out.m_le; omega)
          clear hLL hLo
          have GB1 := Aside0.mk ((HB.out.block _ (blk_lt HGA.out.bk)).trans HGA.out.bk)
          obtain ⟨xGB0, xGB1, xGB2, yGB0, yGB1, yGB2⟩ := pxf3 GB1
          have tok_l : True := trivial
          go_wp2_with (first | (clear tok_l; at_lookup; refine Kd.event_run rfl (lk_run HLK.out) ?_))
          go_loopg [9, 44] LL (fun kq v9 v44 w' => ∃ i : Nat, v44 = .int .i64 i ∧ Hid (i ≤ LL ∧ kq = LL - i ∧ (∀ v, v ∈ (vis es sf skip a by_ Q0 i).2 → -1 ≤ v ∧ v < n)) ∧ Aside0 (Kd.R (Kd.int .i64) 3 w' w.heap.size (fun k => (Value.slice A1 n c1).ownBlock = some k) (.slice A1 n c1) (vis es sf skip a by_ Q0 i).1) ∧ Aside0 (Kd.Q (Kd.int .i64) 3 w' w.heap.size (fun k => (Value.slice A1 n c1).ownBlock ≠ some k) v9 (vis es sf skip a by_ Q0 i).2) ∧ Aside0 (Below w.heap.size w w'))
          case atStart => exact ⟨0, rfl, ⟨Nat.zero_le _, rfl, HQ0.out⟩, HR, HQ1, HB⟩
          case round =>
            clear HR HQ1 HB GB1 xGB0 xGB1 xGB2 yGB0 yGB1 yGB2 hx1 hcut
            obtain ⟨i, rfl, HI, HR, HQ, HB⟩ := hrel
            by_cases hi : i < LL
            · have hL' : i < (outL es.length (Fm es) a).length := by rw [← HLO.out]; exact hi
              have hvs := vis_s (sf := sf) (skip := skip) (by0 := by_) (Q0 := Q0) hL'
              have hmem := mem_outL.1 (List.getElem_mem hL')
              have hrd : rd (outI es a) (i : Int) = ((outL es.length (Fm es) a)[i] : Int) := by
                unfold rd outI
                rw [Int.toNat_natCast, List.getD_eq_getElem?_getD, List.getElem?_map, List.getElem?_eq_getElem hL']
                rfl
              generalize (outL es.length (Fm es) a)[i] = k at hvs hmem hrd
              obtain ⟨hk, _⟩ := hmem
              have hv := HGA.out.val k hk
              obtain ⟨t, ht⟩ : ∃ t : Nat, Tm es k = (t : Int) := ⟨(Tm es k).toNat, by omega⟩
              have htn : t < n := by omega
              have hun := (visits_un (n := n) (shut := sf) (skip := skip) (fun k hk => (HGA.out.val k hk).2.2) ((outL es.length (Fm es) a).take i) by_ Q0 HLB.out (fun j hj => (mem_outL.1 (List.mem_of_mem_take hj)).1)).1
              rw [show ((outL es.length (Fm es) a).take i).foldl (visit (Tm es) sf skip) (by_, Q0) = vis es sf skip a by_ Q0 i from rfl] at hun
              have hql : (vis es sf skip a by_ Q0 i).2.length ≤ n + 1 := by have := HUN.out; omega
              have HQL := Lib.hid hql
              have hC3 := HGA.out.rows a HA.out.1 HA.out.2
              rw [HFA.out] at hC3
              obtain ⟨ad3, had3, hx3⟩ := Kd.at_int (Kd.R_reads' hC3).2.2 (i : Int) (by omega) (by rw [← HLL.out]; omega)
              clear hC3
              subst had3
              replace hx3 := (HB.out.cell (World.block_lt_of_cell? w _ hx3)).trans hx3
              rw [hrd, Int.toNat_natCast] at hx3
              have p3 : (0 ≤ (i : Int)) = True := eq_true (by omega)
              have p4 : ((i : Int) < (LL : Int)) = True := eq_true (by omega)
              have p4' : (i < LL) = True := eq_true (by omega)
              obtain ⟨adE, hadE, he0, he1, he2, he3⟩ := at_T29 (Kd.R_reads' HGA.out.row).2.2 (k : Int) (by omega) (by omega)
              subst hadE
              replace he1 := (HB.out.cell (World.block_lt_of_cell? w _ he1)).trans he1
              rw [show (rd_T29 es (k : Int)).f1 = (t : Int) from ht, Int.toNat_natCast] at he1
              clear he0 he2 he3
              have p5 : (0 ≤ (k : Int)) = True := eq_true (by omega)
              have p6 : ((k : Int) < (es.length : Int)) = True := eq_true (by omega)
              have p6' : (k < es.length) = True := eq_true (by omega)
              have p7 : (0 ≤ (t : Int)) = True := eq_true (by omega)
              have p8 : ((t : Int) < (n : Int)) = True := eq_true (by omega)
              have p8' : (t < n) = True := eq_true (by omega)
              have hlk := HS.out wr (t : Int) HB.out (by omega) (by omega)
              have GB2 := Aside0.mk ((HB.out.block _ (blk_lt HGA.out.bk)).trans HGA.out.bk)
              obtain ⟨xGB0, xGB1, xGB2, yGB0, yGB1, yGB2⟩ := pxf3 GB2
              have hl : (vis es sf skip a by_ Q0 i).1.length = n := (vis_len es sf skip a by_ Q0 i).trans HLB.out
              have hR := HR.out
              rw [← hl] at hR
              obtain ⟨gb, cb, eb, hb1, hb2, _⟩ := Kd.R_form hR (by rw [hl]; omega)
              clear hR
              rw [hl] at eb
              injection eb with e1 e2 e3
              subst e1
              subst e3
              clear e2
              have hcell := Kd.R_celln (0 : Int) (n := n) HR.out (t : Int) (by omega) (by omega)
              rw [Int.toNat_natCast] at hcell
              obtain ⟨hx0, hf0⟩ := hcell
              obtain ⟨y, hy⟩ : ∃ y, y = rdOf 0 (vis es sf skip a by_ Q0 i).1 (t : Int) := ⟨_, rfl⟩
              rw [← hy] at hx0
              have hy2 : (vis es sf skip a by_ Q0 i).1.getD t (-1) = y := by
                rw [hy]
                unfold rdOf
                rw [Int.toNat_natCast, List.getD_eq_getElem?_getD, List.getD_eq_getElem?_getD, List.getElem?_eq_getElem (by omega)]
                rfl
              have hrule : vis es sf skip a by_ Q0 (i + 1) = if (k : Int) = skip ∨ sf (t : Int) = true ∨ 0 ≤ y then vis es sf skip a by_ Q0 i else ((vis es sf skip a by_ Q0 i).1.set t (k : Int), (vis es sf skip a by_ Q0 i).2 ++ [(t : Int)]) := by
                rw [hvs]
                unfold visit
                rw [ht, Int.toNat_natCast, hy2]
              have HRULE := Aside0.mk hrule
              have HLT := Lib.hid hi
              have HTN := Lib.hid (And.intro htn hb1)
              clear hrule hvs hrd hy hy2 hun hql hi hL' ht hv hk htn hb1 hb2 hl
              by_cases hsk : (k : Int) = skip
              · have k9 : ((k : Int) == skip) = true := beq_iff_eq.2 hsk
                have hv : vis es sf skip a by_ Q0 (i + 1) = vis es sf skip a by_ Q0 i := by rw [HRULE.out, if_pos (.inl hsk)]
                have HV := Aside0.mk hv
                clear hv
                clear hsk
                try clear hy
                try clear hsf
                go_wp2
                go_roundg (LL - (i + 1))
                case measure => have := HI.out; have := HLT.out; omega
                case rel => exact ⟨i + 1, by have := HLT.out; have := HI.out; rw [wrap_id (by omega) (by have := HLLB.out; omega)]; rfl, ⟨by have := HLT.out; omega, rfl, by rw [HV.out]; exact HI.out.2.2⟩, ⟨by rw [HV.out]; exact HR.out⟩, ⟨by rw [HV.out]; exact HQ.out⟩, HB⟩
              · have k9 : ((k : Int) == skip) = false := beq_eq_false_iff_ne.2 hsk
                cases hsf : sf (t : Int)
                · rw [hsf] at hlk
                  by_cases hy : 0 ≤ y
                  · have k10 : decide (0 ≤ y) = true := decide_eq_true hy
                    have hv : vis es sf skip a by_ Q0 (i + 1) = vis es sf skip a by_ Q0 i := by rw [HRULE.out, if_pos (.inr (.inr hy))]
                    have HV := Aside0.mk hv
                    clear hv
                    clear hsk
                    try clear hy
                    try clear hsf
                    have tok_m : True := trivial
                    go_wp2_with (first | (clear tok_m; at_lookup; refine gate_guard (by rfl) ?_; refine Kd.event_run rfl (lk_run hlk) ?_))
                    go_roundg (LL - (i + 1))
                    case measure => have := HI.out; have := HLT.out; omega
                    case rel => exact ⟨i + 1, by have := HLT.out; have := HI.out; rw [wrap_id (by omega) (by have := HLLB.out; omega)]; rfl, ⟨by have := HLT.out; omega, rfl, by rw [HV.out]; exact HI.out.2.2⟩, ⟨by rw [HV.out]; exact HR.out⟩, ⟨by rw [HV.out]; exact HQ.out⟩, HB⟩
                  · have k10 : decide (0 ≤ y) = false := decide_eq_false hy
                    have hv : vis es sf skip a by_ Q0 (i + 1) = ((vis es sf skip a by_ Q0 i).1.set t (k : Int), (vis es sf skip a by_ Q0 i).2 ++ [(t : Int)]) := by rw [HRULE.out, if_neg (fun h => h.elim hsk (fun h => h.elim (fun h => by rw [hsf] at h; cases h) hy))]
                    have HV := Aside0.mk hv
                    clear hv hsk hy hsf HRULE
                    obtain ⟨Aq5, c5, hq5, _⟩ := Kd.Q_slice HQ.out
                    have hvq : ∀ v, v ∈ (vis es sf skip a by_ Q0 (i + 1)).2 → -1 ≤ v ∧ v < n := by rw [HV.out]; intro v hv; rcases List.mem_append.1 hv with hv | hv; exact HI.out.2.2 v hv; have := List.mem_singleton.1 hv; have := HTN.out.1; omega
                    have HVQ := Aside0.mk hvq
                    clear hvq
                    generalize hb0 : (vis es sf skip a by_ Q0 i).1 = B0 at HV HR
                    generalize hq0 : (vis es sf skip a by_ Q0 i).2 = QQ at HV HQ HQL hq5
                    clear hb0 hq0
                    obtain ⟨LQ, hLQ⟩ : ∃ LQ, LQ = QQ.length := ⟨_, rfl⟩
                    rw [← hLQ] at hq5
                    subst hq5
                    have HLQ := Aside0.mk hLQ
                    clear hLQ
                    have HP0 := Kd.R_putg HR.out (t : Int) (k : Int)
                    rw [Int.toNat_natCast] at HP0
                    have HP := Aside0.mk HP0
                    clear HP0
                    have tok_m : True := trivial
                    go_wp2_with (first | (clear tok_m; at_lookup; refine gate_guard (by rfl) ?_; refine Kd.event_run rfl (lk_run hlk) ?_) | ((with_reducible refine gate_store (t := 3) (p := 74) rfl ?_); refine store_event (t := 3) (p := 74) (v := ?vo2) (w1 := (wr.setCell ⟨gb, t, none⟩ (.int .i64 (k : Int)))) ?hg ?ho ?hn ?hr ?_; (case ho => rfl); (case hg => rfl); (case hn => rfl); (case hr => first | (go_simp; done) | (go_simp; rfl)); intro w12 hw; have hgr := HP.out.2; have n1_ := HP.out.1; rw [← hw] at n1_ hgr; have n2_ := Aside0.mk n1_; have n3_ := Aside0.mk (Kd.Q_grown HQ.out hgr (fun k' hk' e => hk' (by rw [e]; rfl))); have n0_ : Aside0 (Below w.heap.size w w12) := ⟨HB.out.grown hgr HB.out.size (fun k' hk' => by have := HTN.out.2; injection hk' with hk'; omega)⟩; clear n1_ HP HR HB HQ hw hx0 hf0 hgr; have HB := n0_; have HR := n2_; have HQ := n3_; clear n0_ n2_ n3_) | ((with_reducible refine gate_builtin (b := .append) (xs := #[.tmp 75, .tmp 77]) rfl ?_); at_builtin; refine Kd.Q_append (Kd.int .i64) (w0 := w) w.heap.size rfl (.tmp 75) (.tmp 77) 43 3 (.int .i64 0) 8 rfl Try.underlying43 info3 rfl (by decide) (by omega) (.slice Aq5 LQ c5) QQ (t : Int) [.int .i64 (t : Int)] (fun k => (Value.slice (some ⟨gb, 0, none⟩) n c1).ownBlock ≠ some k) (fun _ => False) rfl rfl ?aP (fun _ hk => hk.elim) ?aF ?aO ?aB ?aS ?aL ?_; (case aP => rfl); (case aF => exact fun k' hk' e => by have := (row_own HR.out e).2.1; omega); (case aO => exact HQ.out); (case aB => exact HB.out); (case aS => exact HB.out.size); (case aL => have := HQL.out; have := HN.out; omega); intro v1 w13 ho hb hg hat; have n1_ : Aside0 (Kd.R (Kd.int .i64) 3 w13 w.heap.size (fun k => (Value.slice (some ⟨gb, 0, none⟩) n c1).ownBlock = some k) (.slice (some ⟨gb, 0, none⟩) n c1) (B0.set t (k : Int))) := ⟨Kd.R_move HR.out (fun k' hk' => hg.block k' (row_own HR.out hk').2.1 (fun e => (HQ.out.1 k' e.symm) hk'))⟩; have n2_ := Aside0.mk ho; have n0_ := Aside0.mk hb; clear HR HQ HB ho hb hg hat; have HB := n0_; have HR := n1_; have HQ := n2_; clear n0_ n1_ n2_))
                    go_roundg (LL - (i + 1))
                    case measure => have := HI.out; have := HLT.out; omega
                    case rel => exact ⟨i + 1, by have := HLT.out; have := HI.out; rw [wrap_id (by omega) (by have := HLLB.out; omega)]; rfl, ⟨by have := HLT.out; omega, rfl, HVQ.out⟩, ⟨by rw [HV.out]; exact HR.out⟩, ⟨by rw [HV.out]; exact HQ.out⟩, HB⟩
                · rw [hsf] at hlk
                  have hv : vis es sf skip a by_ Q0 (i + 1) = vis es sf skip a by_ Q0 i := by rw [HRULE.out, if_pos (.inr (.inl hsf))]
                  have HV := Aside0.mk hv
                  clear hv
                  clear hsk
                  try clear hy
                  try clear hsf
                  have tok_m : True := trivial
                  go_wp2_with (first | (clear tok_m; at_lookup; refine gate_guard (by rfl) ?_; refine Kd.event_run rfl (lk_run hlk) ?_))
                  go_roundg (LL - (i + 1))
                  case measure => have := HI.out; have := HLT.out; omega
                  case rel => exact ⟨i + 1, by have := HLT.out; have := HI.out; rw [wrap_id (by omega) (by have := HLLB.out; omega)]; rfl, ⟨by have := HLT.out; omega, rfl, by rw [HV.out]; exact HI.out.2.2⟩, ⟨by rw [HV.out]; exact HR.out⟩, ⟨by rw [HV.out]; exact HQ.out⟩, HB⟩
            · obtain rfl : LL = i := by have := HI.out; omega
              have k20 : decide ((LL : Int) < (LL : Int)) = false := decide_eq_false (by omega)
              have k21 : decide (LL < LL) = false := decide_eq_false (by omega)
              have hend := vis_n es sf skip a by_ Q0
              rw [← HLO.out] at hend
              have hun := visits_un (n := n) (shut := sf) (skip := skip) (fun k hk => (HGA.out.val k hk).2.2) (outL es.length (Fm es) a) by_ Q0 HLB.out (fun j hj => (mem_outL.1 hj).1)
              rw [← hend] at hun
              have hF := HF.out
              rw [← hend] at hF
              have HEND := Aside0.mk (And.intro hF hun)
              clear hend hun hF hi
              go_wp2
              go_roundg f'
              case measure => omega
              case rel => exact ⟨_, _, ⟨HEND.out.1, HEND.out.2.2, HI.out.2.2, by rw [HEND.out.2.1]; have := HUN.out; omega⟩, HR, HQ, HB⟩
end Go.Proofs.Ytefgfnhhoidbdaa.GrW
