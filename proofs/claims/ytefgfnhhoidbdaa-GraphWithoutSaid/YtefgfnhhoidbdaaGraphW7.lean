/- Path: the way by which something comes to a node. -/
import Derived.Test.YtefgfnhhoidbdaaGraphW5
import Derived.Test.YtefgfnhhoidbdaaGraphRev
namespace Go.Proofs.Ytefgfnhhoidbdaa.GrW
open Go.RowKit Go.Proofs.YtefgfnhhoidbdaaW.PrintWords Go.Proofs.YtefgfnhhoidbdaaW.PrintLast Go.Proofs.Ytefgfnhhoidbdaa.X Go.Proofs.Ytefgfnhhoidbdaa.Gr
set_option linter.unusedVariables false
set_option linter.unusedSimpArgs false
/-- Back from a node. -/
def pathR (R : List Int) (es : List S29) : Nat → Int → List S29
  | 0, _ => []
  | f + 1, v => if v = -1 ∨ R.getD v.toNat (-1) < 0 then [] else es.getD (R.getD v.toNat (-1)).toNat z29 :: pathR R es f (Fm es (R.getD v.toNat (-1)).toNat)
noncomputable def pathV (n : Nat) (es : List S29) (v : Int) : List S29 := if 0 ≤ v ∧ v < n then (pathR (wL n es (fun _ => false) (-1)) es (n + 1) v).reverse else []
theorem cellB {W W' : World} {a : Addr} {v : Value} (hb : Below W.heap.size W W') (h : W.cell? a = some v) : W'.cell? a = some v := (hb.cell (World.block_lt_of_cell? W _ h)).trans h
theorem pathR_stop {R : List Int} {es : List S29} {f : Nat} {v : Int} (h : v = -1 ∨ R.getD v.toNat (-1) < 0) : pathR R es f v = [] := by
  cases f with
  | zero => rfl
  | succ f => rw [pathR, if_pos h]
theorem pathR_go {R : List Int} {es : List S29} {f k : Nat} {v : Int} (h : v ≠ -1) (hk : R.getD v.toNat (-1) = (k : Int)) : pathR R es (f + 1) v = es.getD k z29 :: pathR R es f (Fm es k) := by
  rw [pathR, if_neg (by rw [hk]; omega), hk, Int.toNat_natCast]
set_option maxHeartbeats 16000000 in
set_option maxRecDepth 100000 in
theorem path_r1 {g B n : Nat} {es : List S29} {O : Nat → Prop} (node : Int) (w : World) (h : G g B n es O w) (h1 : node < 0) : Calls Try.prog 23 #[.pointer (some ⟨g, 0, none⟩), .int .i64 node] w fun e w' => ∃ bv, e = .returned bv ∧ Kd.R k29 29 w' w.heap.size (fun _ => True) bv (pathV n es node) ∧ Below w.heap.size w w' := by
  obtain ⟨mb, cnt, A, c, f, hga, hO⟩ := h.edges
  have HB := Aside0.mk (Below.refl w.heap.size w)
  have GB := Aside0.mk hga.bk
  have HGA := Aside0.mk hga
  have HG := Aside0.mk h
  obtain ⟨xGB0, xGB1, xGB2, yGB0, yGB1, yGB2⟩ := pxf3 GB
  have k1 : decide (node < 0) = true := decide_eq_true h1
  have hp : pathV n es node = [] := by unfold pathV; rw [if_neg (by omega)]
  rw [hp]
  clear h1 hga hO h hp HG
  go_enter Try.func23, Try.ntmps23
  go_wp2
  go_ret
  exact ⟨_, rfl, Kd.R_nil _ _ _ _ _, pxb HB⟩
set_option maxHeartbeats 16000000 in
set_option maxRecDepth 100000 in
theorem path_r2 {g B n : Nat} {es : List S29} {O : Nat → Prop} (node : Int) (w : World) (h : G g B n es O w) (h1 : (n : Int) ≤ node) : Calls Try.prog 23 #[.pointer (some ⟨g, 0, none⟩), .int .i64 node] w fun e w' => ∃ bv, e = .returned bv ∧ Kd.R k29 29 w' w.heap.size (fun _ => True) bv (pathV n es node) ∧ Below w.heap.size w w' := by
  obtain ⟨mb, cnt, A, c, f, hga, hO⟩ := h.edges
  have HB := Aside0.mk (Below.refl w.heap.size w)
  have GB := Aside0.mk hga.bk
  have HGA := Aside0.mk hga
  have HG := Aside0.mk h
  obtain ⟨xGB0, xGB1, xGB2, yGB0, yGB1, yGB2⟩ := pxf3 GB
  have k1 : decide (node < 0) = false := decide_eq_false (by omega)
  have k2 : decide ((n : Int) ≤ node) = true := decide_eq_true h1
  have hp : pathV n es node = [] := by unfold pathV; rw [if_neg (by omega)]
  rw [hp]
  clear h1 hga hO h hp HG
  go_enter Try.func23, Try.ntmps23
  go_wp2
  go_ret
  exact ⟨_, rfl, Kd.R_nil _ _ _ _ _, pxb HB⟩
set_option maxHeartbeats 16000000 in
set_option maxRecDepth 100000 in
theorem path_walk {g B n : Nat} {es : List S29} {O : Nat → Prop} (node : Int) (w : World) (h : G g B n es O w) (h1 : 0 ≤ node) (h2 : node < n) : Calls Try.prog 23 #[.pointer (some ⟨g, 0, none⟩), .int .i64 node] w fun e w' => ∃ bv, e = .returned bv ∧ Kd.R k29 29 w' w.heap.size (fun _ => True) bv (pathV n es node) ∧ Below w.heap.size w w' := by
  obtain ⟨mb, cnt, A, c, f, hga, hO⟩ := h.edges
  have HB := Aside0.mk (Below.refl w.heap.size w)
  have GB := Aside0.mk hga.bk
  have HGA := Aside0.mk hga
  have HG := Aside0.mk h
  obtain ⟨xGB0, xGB1, xGB2, yGB0, yGB1, yGB2⟩ := pxf3 GB
  have k1 : decide (node < 0) = false := decide_eq_false (by omega)
  have k2 : decide ((n : Int) ≤ node) = false := decide_eq_false (by omega)
  obtain ⟨dp, hfin⟩ := walkL_fin (n := n) (F := Fm es) (shut := fun _ => false) (skip := -1) (fun k hk => (hga.val k hk).2.2)
  have HW := Lib.hid (fun (W : World) (hb : Below w.heap.size w W) => walk_any (.map none) (fun _ => false) (-1) W (h.below hb) (fun W' i _ h0 h1 => nil_look W' (by omega) (by have := hga.n_le; omega)))
  have hp : pathV n es node = (pathR (wL n es (fun _ => false) (-1)) es (n + 1) node).reverse := by unfold pathV; rw [if_pos ⟨h1, h2⟩]
  rw [hp]
  unfold wL
  generalize walkL n es.length (Fm es) (Tm es) (fun _ => false) (-1) = R at hfin HW ⊢
  generalize hPP : pathR R es (n + 1) node = PP
  have HFIN := Aside0.mk hfin
  have HPP := Aside0.mk hPP
  have HN := Lib.hid hga.n_le
  have HND := Lib.hid (And.intro h1 h2)
  have hRL := hfin.len
  clear hp hfin hPP hga hO h h1 h2
  have tok_a : True := trivial
  go_enter Try.func23, Try.ntmps23
  go_wp2_with (first | (clear tok_a; go_at_call 42; (with_reducible refine (HW.out _ (pxb HB)).mono ?_); rintro e w1 ⟨bv, rfl, hr, hb⟩; obtain ⟨A1, c1, hbv⟩ := Kd.R_slice hr; rw [hRL] at hbv; subst hbv; have h1 := pxs HB hb; have HR := Aside0.mk (Kd.R_lower (R_exact hr rfl) (below_size (pxb HB))); clear HB hb hr GB; have HB := h1; clear h1))
  go_loopg [6, 7] (n + 1) (fun kq v6 v7 w' => ∃ (ov : Value) (acc : List S29) (v : Int), ov = v6 ∧ v7 = .int .i64 v ∧ Hid (acc ++ pathR R es kq v = PP ∧ -1 ≤ v ∧ v < n ∧ (V n R v → dp v ≤ kq) ∧ acc.length + kq ≤ n + 1) ∧ Aside0 (Kd.R k29 29 w' w.heap.size (fun _ => True) ov acc) ∧ Aside0 (Kd.R (Kd.int .i64) 3 w' w.heap.size (fun k => (Value.slice A1 n c1).ownBlock = some k) (.slice A1 n c1) R) ∧ Aside0 (Below w.heap.size w w'))
  case atStart => exact ⟨_, [], node, rfl, rfl, ⟨by rw [List.nil_append]; exact HPP.out, by have := HND.out.1; omega, HND.out.2, fun hv => by have := HFIN.out.cap _ hv; omega, by simp⟩, ⟨Kd.R_nil _ _ _ _ _⟩, ⟨pxr HR⟩, ⟨pxb HB⟩⟩
  case round =>
    clear HR HB
    obtain ⟨ov, acc, v, rfl, rfl, HI, HO, HR, HB⟩ := hrel
    have FINISH : Aside0 (v = -1 ∨ R.getD v.toNat (-1) < 0 → acc = PP) := ⟨fun h => by have := HI.out.1; rw [pathR_stop h, List.append_nil] at this; exact this⟩
    by_cases hv : v = -1
    · have k3 : (v != -1) = false := by rw [hv]; rfl
      have HACC := Aside0.mk (FINISH.out (.inl hv))
      clear hv
      have hal : acc.length ≤ n + 1 := by have := HI.out; omega
      have HC := Lib.hid (fun (W : World) (ov : Value) (hb : Below w.heap.size w W) (hr : Kd.R k29 29 W w.heap.size (fun _ => True) ov acc) => graph_Edge_43.calls (acc.length + 1) (fun _ => True) ov acc acc.reverse w W hb hr (rev_any acc (by have := HN.out; omega)))
      clear hal
      have tok_r : True := trivial
      go_wp2_with (first | (clear tok_r; go_at_call 43; (with_reducible refine (HC.out _ _ (pxb HB) (pxr HO)).mono ?_); rintro e w5 ⟨rfl, hr, hb, _⟩; have HO5 := Aside0.mk hr; have HB5 := Aside0.mk hb; clear hr hb))
      go_ret
      rw [← HACC.out]
      exact ⟨_, rfl, Kd.R_mono (pxr HO5) (fun _ _ => trivial), HB5.out⟩
    · have k3 : (v != -1) = true := bne_iff_ne.2 hv
      obtain ⟨t, rfl⟩ : ∃ t : Nat, v = (t : Int) := ⟨v.toNat, by have := HI.out.2.1; omega⟩
      have htn : t < n := by have := HI.out.2.2.1; omega
      have hR := HR.out
      rw [← hRL] at hR
      obtain ⟨gb, cb, eb, hb1, hb2, _⟩ := Kd.R_form hR (by rw [hRL]; omega)
      clear hR
      rw [hRL] at eb
      injection eb with e1 e2 e3
      subst e1
      subst e3
      clear e2
      have hcell := Kd.R_celln (0 : Int) (n := n) HR.out (t : Int) (by omega) (by omega)
      rw [Int.toNat_natCast] at hcell
      obtain ⟨hx0, hf0⟩ := hcell
      obtain ⟨y, hy⟩ : ∃ y, y = rdOf 0 R (t : Int) := ⟨_, rfl⟩
      rw [← hy] at hx0
      have hy2 : R.getD t (-1) = y := by
        rw [hy]
        unfold rdOf
        rw [Int.toNat_natCast, List.getD_eq_getElem?_getD, List.getD_eq_getElem?_getD, List.getElem?_eq_getElem (by omega)]
        rfl
      have p7 : (0 ≤ (t : Int)) = True := eq_true (by omega)
      have p8 : ((t : Int) < (n : Int)) = True := eq_true (by omega)
      have p8' : (t < n) = True := eq_true (by omega)
      have HTN := Lib.hid (And.intro htn hb1)
      clear hv htn hb1 hb2 hy
      by_cases hy0 : 0 ≤ y
      · have k4 : decide (0 ≤ y) = true := decide_eq_true hy0
        obtain ⟨k, hk1, hk2, hk3, hk4, hk5⟩ := HFIN.out.tree t HTN.out.1 (by rw [hy2]; exact hy0)
        rw [hy2] at hk1
        subst hk1
        have hVt : V n R (t : Int) := .inr ⟨by omega, by have := HTN.out.1; omega, by rw [Int.toNat_natCast, hy2]; omega⟩
        obtain ⟨f', hf'⟩ : ∃ f', gk = f' + 1 := ⟨gk - 1, by have := HI.out.2.2.2.1 hVt; omega⟩
        subst hf'
        have hstep := pathR_go (R := R) (es := es) (f := f') (k := k) (v := (t : Int)) (by omega) (by rw [Int.toNat_natCast]; exact hy2)
        have hI1 := HI.out.1
        rw [hstep] at hI1
        have hkv := HGA.out.val k hk2.1
        have hk0 := hk2.1
        have hnew : (acc ++ [es.getD k z29]) ++ pathR R es f' (Fm es k) = PP := by rw [List.append_assoc]; exact hI1
        have hdp : V n R (Fm es k) → dp (Fm es k) ≤ f' := fun _ => by have := HI.out.2.2.2.1 hVt; omega
        have hal : acc.length ≤ n + 1 := by have := HI.out; omega
        have hFx : Fm es k = (es.getD k z29).f0 := rfl
        obtain ⟨adE, hadE, he0, he1, he2, he3⟩ := at_T29 (Kd.R_reads' HGA.out.row).2.2 (k : Int) (by omega) (by omega)
        subst hadE
        have hadlt := World.block_lt_of_cell? w _ he0
        replace he0 := (HB.out.cell (World.block_lt_of_cell? w _ he0)).trans he0
        replace he1 := (HB.out.cell (World.block_lt_of_cell? w _ he1)).trans he1
        replace he2 := (HB.out.cell (World.block_lt_of_cell? w _ he2)).trans he2
        replace he3 := (HB.out.cell (World.block_lt_of_cell? w _ he3)).trans he3
        rw [show rd_T29 es (k : Int) = es.getD k z29 from rfl, Int.toNat_natCast] at he0 he1 he2 he3
        rw [Int.toNat_natCast] at hadlt
        rw [hFx] at hnew hdp hkv
        generalize es.getD k z29 = x at *
        have p5 : (0 ≤ (k : Int)) = True := eq_true (by omega)
        have p6 : ((k : Int) < (es.length : Int)) = True := eq_true (by omega)
        have p6' : (k < es.length) = True := eq_true (by omega)
        have HNEW := Lib.hid (And.intro hnew (And.intro hdp (And.intro hkv (And.intro hal hadlt))))
        have HI9 := Lib.hid HI.out.2.2.2.2
        clear hk2 hk3 hk4 hk5 hstep hI1 hkv hk0 hnew hdp hal hFx hadlt hVt HI hy0 hy2 FINISH
        have GB2 := Aside0.mk ((HB.out.block _ (blk_lt HGA.out.bk)).trans HGA.out.bk)
        clear xGB0 xGB1 xGB2 yGB0 yGB1 yGB2
        have HX := Aside0.mk (And.intro hx0 (And.intro he0 (And.intro he1 (And.intro he2 he3))))
        have HO1 := Aside0.mk (Kd.R_drew HO.out)
        have HR1 := Aside0.mk (Kd.R_drew HR.out)
        clear HO HR
        go_wp2
        refine start_ (n := 14) (S := fun w' => w'.cell? ⟨g, 0, none⟩ = some (.int .i64 n) ∧ w'.cell? ⟨g, 1, none⟩ = some (.slice (some adE) es.length c) ∧ w'.cell? ⟨g, 2, none⟩ = some (.map (some mb)) ∧ w'.cell? ⟨gb, t, none⟩ = some (.int .i64 (k : Int)) ∧ w'.cell? (adE.add (k * 4)) = some (.int .i64 x.f0) ∧ w'.cell? ⟨(adE.add (k * 4)).block, (adE.add (k * 4)).off + 1, none⟩ = some (.int .i64 x.f1) ∧ w'.cell? ⟨(adE.add (k * 4)).block, (adE.add (k * 4)).off + 2, none⟩ = some (.int .i64 x.f2) ∧ w'.cell? ⟨(adE.add (k * 4)).block, (adE.add (k * 4)).off + 3, none⟩ = some (.int .i64 x.f3)) (ds := []) #[false, false, false, false, false, false, false, false, false, false, false, false, false, false] (by kernel_rfl) rfl rfl ⟨(pxf3 ⟨blk_drew (pxp (o := .cells #[.int .i64 n, .slice (some adE) es.length c, .map (some mb)] 88 (0, 0)) GB2)⟩).1, (pxf3 ⟨blk_drew (pxp (o := .cells #[.int .i64 n, .slice (some adE) es.length c, .map (some mb)] 88 (0, 0)) GB2)⟩).2.1, (pxf3 ⟨blk_drew (pxp (o := .cells #[.int .i64 n, .slice (some adE) es.length c, .map (some mb)] 88 (0, 0)) GB2)⟩).2.2.1, hx0, he0, he1, he2, he3⟩ (fun hHeld => ?_); refine with_tab rfl (fun HT_ => ?_)
        generalize hW_ : World.drew _ = w2 at hHeld HO1 HR1 ⊢
        have n0_ : Aside0 (Below w.heap.size w w2) := ⟨by rw [← hW_]; exact below_drew1 (pxb HB)⟩
        have nGB2_ : Aside0 (w2.heap[g]? = some (.cells #[.int .i64 n, .slice (some adE) es.length c, .map (some mb)] 88 (0, 0))) := ⟨by rw [← hW_]; exact blk_drew (pxp GB2)⟩
        clear hW_ HB GB2
        have HB := n0_
        have GB2 := nGB2_
        clear n0_ nGB2_
        refine pS 0 41 HT_ ?_
        refine pS 1 42 HT_ ?_
        refine pS 2 43 HT_ ?_
        refine pS 3 44 HT_ ?_
        refine pS 5 46 HT_ ?_
        refine pS 6 47 HT_ ?_
        refine pS 7 48 HT_ ?_
        refine tT 4 45 HT_ hHeld ?_
        refine tT 8 49 HT_ hHeld ?_
        refine pS 9 50 HT_ ?_
        refine tT 10 51 HT_ hHeld ?_
        clear hx0 he0 he1 he2 he3
        have hh0 := hHeld
        obtain ⟨_, _, _, hx0, he0, he1, he2, he3⟩ := hh0
        refine oS 11 HT_ (fun K hK => ?_)
        refine value_ (w1 := ?_) (v := ?_) (by rfl) rfl ?_ ?_
        rotate_left 2
        · go_simp
          constructor
          · rfl
          · rfl
        refine hK.out _ _ ⟨(blk_cell (blk_alloc GB2.out _) 0).trans rfl, (blk_cell (blk_alloc GB2.out _) 1).trans rfl, (blk_cell (blk_alloc GB2.out _) 2).trans rfl, (cellB (below_alloc (Below.refl _ _) _) hx0), (cellB (below_alloc (Below.refl _ _) _) he0), (cellB (below_alloc (Below.refl _ _) _) he1), (cellB (below_alloc (Below.refl _ _) _) he2), (cellB (below_alloc (Below.refl _ _) _) he3)⟩ (fun hHeld => ?_)
        clear hK K
        refine nS 52 ?_
        refine oS 12 HT_ (fun K hK => ?_)
        refine Kd.R_append_step k29 (w0 := w) w.heap.size (by rfl) (.tmp 41) (.tmp 52) 22 29 (.agg #[.int .i64 0, .int .i64 0, .int .i64 0, .int .i64 0]) 32 rfl Try.underlying22 info29 rfl (by decide) (by omega) ov acc x [.int .i64 x.f0, .int .i64 x.f1, .int .i64 x.f2, .int .i64 x.f3] (fun _ => True) (fun _ => False) rfl rfl ?aP (fun _ hk => hk.elim) ?aF ?aO ?aB ?aS ?aL ?_
        (case aP => exact k29_mkM _ _ _ _)
        (case aF => exact fun _ _ => trivial)
        (case aO => exact HO1.out)
        (case aB => exact HB.out)
        (case aS => exact HB.out.size)
        (case aL => have := HNEW.out.2.2.2.1; have := HN.out; omega)
        intro v1 w3 ho hb hg hat
        obtain ⟨_, _, cgb, hgbk⟩ := row_own HR1.out (k := gb) rfl
        have n1 := Kd.R_ne HO1.out GB2.out (by decide)
        have n2 := Kd.R_ne HO1.out hgbk (by decide)
        have n3 : some (adE.add (k * 4)).block ≠ ov.ownBlock := fun e => by have := (row_own HO1.out e.symm).1; have := HNEW.out.2.2.2.2; omega
        replace hx0 := hg.cell hx0 n2
        replace he0 := hg.cell he0 n3
        replace he1 := hg.cell he1 n3
        replace he2 := hg.cell he2 n3
        replace he3 := hg.cell he3 n3
        have GB3 := Aside0.mk ((hg.block g (blk_lt GB2.out) n1).trans GB2.out)
        have HR3 := Aside0.mk (Kd.R_move HR1.out (fun k' hk' => hg.block k' (row_own HR1.out hk').2.1 (fun e => n2 (by injection hk' with hk'; exact (congrArg some hk').trans e))))
        have HO3 := Aside0.mk ho
        have HB3 := Aside0.mk hb
        obtain ⟨xGB0, xGB1, xGB2, yGB0, yGB1, yGB2⟩ := pxf3 GB3
        clear HO1 HR1 HB GB2 ho hb hg hat hgbk n1 n2 n3
        refine hK.out _ _ ⟨xGB0, xGB1, xGB2, hx0, he0, he1, he2, he3⟩ (fun hHeld => ?_)
        clear hK K
        refine nS 53 ?_
        refine pS 13 6 HT_ ?_
        refine done_ (done_of HT_.out (by kernel_rfl)) ?_
        clear HT_ hHeld
        go_wp2
        go_quiet (fail)
        go_wp2
        go_roundg f'
        case measure => omega
        case rel => exact ⟨_, acc ++ [x], x.f0, rfl, rfl, ⟨HNEW.out.1, HNEW.out.2.2.1.1, HNEW.out.2.2.1.2.1, HNEW.out.2.1, by rw [List.length_append, List.length_singleton]; have := HI9.out; omega⟩, ⟨pxr HO3⟩, ⟨pxr HR3⟩, ⟨pxb HB3⟩⟩
      · have k4 : decide (0 ≤ y) = false := decide_eq_false hy0
        have HACC := Aside0.mk (FINISH.out (.inr (by rw [Int.toNat_natCast, hy2]; omega)))
        clear hy0 hy2
        have hal : acc.length ≤ n + 1 := by have := HI.out; omega
        have HC := Lib.hid (fun (W : World) (ov : Value) (hb : Below w.heap.size w W) (hr : Kd.R k29 29 W w.heap.size (fun _ => True) ov acc) => graph_Edge_43.calls (acc.length + 1) (fun _ => True) ov acc acc.reverse w W hb hr (rev_any acc (by have := HN.out; omega)))
        clear hal
        have tok_r : True := trivial
        go_wp2_with (first | (clear tok_r; go_at_call 43; (with_reducible refine (HC.out _ _ (pxb HB) (pxr HO)).mono ?_); rintro e w5 ⟨rfl, hr, hb, _⟩; have HO5 := Aside0.mk hr; have HB5 := Aside0.mk hb; clear hr hb))
        go_ret
        rw [← HACC.out]
        exact ⟨_, rfl, Kd.R_mono (pxr HO5) (fun _ _ => trivial), HB5.out⟩
end Go.Proofs.Ytefgfnhhoidbdaa.GrW
