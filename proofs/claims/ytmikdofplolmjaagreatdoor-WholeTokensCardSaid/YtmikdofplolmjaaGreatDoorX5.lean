/- What the program's functions answer, as Lean functions, and that each call does just that; no condition. Written by a program (px.py) out of the translation. -/
import Derived.Test.YtmikdofplolmjaaGreatDoorX0
import Derived.Test.YtmikdofplolmjaaGreatDoorM38
import Derived.Test.YtmikdofplolmjaaGreatDoorShort3
namespace Go.Proofs.YtmikdofplolmjaaGreatDoor.X
open Go.RowKit Go.Proofs.YtmikdofplolmjaaGreatDoorW.PrintWords Go.Proofs.YtmikdofplolmjaaGreatDoorW.PrintLast Go.Proofs.YtmikdofplolmjaaGreatDoorW.PrintMore
attribute [local go_sem] max2_int min2_int max_two min_two max_three min_three max_four min_four   -- for this text's walks alone
set_option linter.unusedVariables false
set_option linter.unusedSimpArgs false

/-! ### lex_Lex: function 5 -/
def tokS (t : Nat × Nat × Nat) : S33 := ⟨t.1, ⟨t.2.1, t.2.2⟩⟩
def lex_Lex.f (a0 : ByteArray) : Option (List (S33) × Int × Int) := if (a0.size : Int) > 65536 then some ([], 2, 0) else some ((Lx.lexN (a0.size + 1) 0 0 a0.data.toList).1.map tokS, ((Lx.lexN (a0.size + 1) 0 0 a0.data.toList).2.1 : Nat), ((Lx.lexN (a0.size + 1) 0 0 a0.data.toList).2.2 : Nat))
namespace LexLoop
open LexW Lx
/-- What has been cut, and what is left to cut. -/
def Left (l : List (S33)) (f at_ n : Nat) (s : ByteArray) (r1 : List (S33)) (r2 r3 : Int) : Prop :=
  (if (lexN f at_ n (s.data.toList.drop at_)).2.1 = 0 then (l ++ (lexN f at_ n (s.data.toList.drop at_)).1.map tokS, (0 : Int), (0 : Int)) else ([], (((lexN f at_ n (s.data.toList.drop at_)).2.1 : Nat) : Int), (((lexN f at_ n (s.data.toList.drop at_)).2.2 : Nat) : Int))) = (r1, r2, r3)
theorem lexN_skip {f at_ n : Nat} {l : List UInt8} : lexN (f + 1) at_ n l = lexN (f + 1) (at_ + skipN false l) n (l.drop (skipN false l)) := by
  have h := skipN_drop false l
  rw [lexN, lexN, h, List.drop_zero]
  rfl
theorem len_drop {s : ByteArray} {at_ : Nat} : (s.data.toList.drop at_).length = s.size - at_ := by rw [List.length_drop, Array.length_toList]; rfl
theorem Left.long {l : List (S33)} {f at_ n : Nat} {s : ByteArray} {r1 : List (S33)} {r2 r3 : Int} (h : Left l (f + 1) at_ n s r1 r2 r3) (hk : skipN false (s.data.toList.drop at_) = 0) (hlt : at_ < s.size) (hn : 16384 ≤ n) : r1 = [] ∧ r2 = 2 ∧ r3 = (at_ : Int) := by
  unfold Left at h
  rw [lexN_long (by rw [hk, len_drop]; omega) hn, hk] at h
  simp only [Nat.add_zero] at h
  rw [if_neg (by decide)] at h
  simp only [Prod.mk.injEq] at h
  exact ⟨h.1.symm, h.2.1.symm, h.2.2.symm⟩
theorem Left.bad {l : List (S33)} {f at_ n : Nat} {s : ByteArray} {r1 : List (S33)} {r2 r3 : Int} (h : Left l (f + 1) at_ n s r1 r2 r3) (hk : skipN false (s.data.toList.drop at_) = 0) (hlt : at_ < s.size) (hn : n < 16384) (hc : (oneN (s.data.toList.drop at_)).2.2 ≠ 0) :
    r1 = [] ∧ r2 = (((oneN (s.data.toList.drop at_)).2.2 : Nat) : Int) ∧ r3 = (at_ : Int) := by
  unfold Left at h
  have e := lexN_bad (f := f) (at_ := at_) (n := n) (l := s.data.toList.drop at_) (by rw [hk, len_drop]; omega) hn (by rw [hk, List.drop_zero]; exact hc)
  rw [hk, List.drop_zero, Nat.add_zero] at e
  rw [e, if_neg hc] at h
  simp only [Prod.mk.injEq] at h
  exact ⟨h.1.symm, h.2.1.symm, h.2.2.symm⟩
theorem Left.done {l : List (S33)} {f at_ n : Nat} {s : ByteArray} {r1 : List (S33)} {r2 r3 : Int} (h : Left l (f + 1) at_ n s r1 r2 r3) (hs : at_ = s.size) : r1 = l ++ [(⟨0, ⟨(s.size : Int), (s.size : Int)⟩⟩ : S33)] ∧ r2 = 0 ∧ r3 = 0 := by
  subst hs
  unfold Left at h
  have e0 : s.data.toList.drop s.size = [] := List.drop_eq_nil_of_le (Nat.le_of_eq Array.length_toList)
  rw [e0, lexN_end (by rfl), if_pos rfl] at h
  simp only [Prod.mk.injEq] at h
  exact ⟨h.1.symm, h.2.1.symm, h.2.2.symm⟩
theorem Left.one {l : List (S33)} {f at_ n k len : Nat} {s : ByteArray} {r1 : List (S33)} {r2 r3 : Int} (h : Left l (f + 2) at_ n s r1 r2 r3) (hk : skipN false (s.data.toList.drop at_) = 0) (hlt : at_ < s.size) (hn : n < 16384) (hc : oneN (s.data.toList.drop at_) = (k, len, 0)) :
    Left (l ++ [(⟨k, ⟨(at_ : Int), ((at_ + len : Nat) : Int)⟩⟩ : S33)]) (f + 1) (at_ + len + skipN false (s.data.toList.drop (at_ + len))) (n + 1) s r1 r2 r3 := by
  unfold Left at h ⊢
  have e := lexN_one (f := f + 1) (at_ := at_) (n := n) (l := s.data.toList.drop at_) (k := 0) (len := len) hk (by rw [len_drop]; omega) hn rfl (by rw [List.drop_zero, hc]) (by rw [List.drop_zero, hc]) (l2 := s.data.toList.drop (at_ + len)) (by rw [List.drop_zero, List.drop_drop])
  rw [List.drop_zero, hc] at e
  simp only [Nat.add_zero] at e
  rw [lexN_skip (f := f) (at_ := at_ + len), List.drop_drop] at e
  rw [e] at h
  generalize lexN (f + 1) (at_ + len + skipN false (s.data.toList.drop (at_ + len))) (n + 1) (s.data.toList.drop (at_ + len + skipN false (s.data.toList.drop (at_ + len)))) = q at h ⊢
  by_cases hq : q.2.1 = 0
  · rw [if_pos hq, if_pos rfl] at h
    rw [if_pos hq, ← h]
    simp [tokS]
  · rw [if_neg hq, if_neg hq] at h
    rw [if_neg hq]
    exact h
structure St (g1 gr B : Nat) (w : World) (s : ByteArray) (at_ : Nat) (lv : Value) (l : List (S33)) (W : World) : Prop where
  rd : Rd gr s at_ lv W
  bk : W.heap[g1]? = some (.cells #[.int .i64 0, .int .i64 0] 27 (0, 0))
  row : Kd.R k33 33 W B (fun k => k ≠ g1 ∧ k ≠ gr) lv l
  hb : Below B w W
theorem St.only {g1 gr B : Nat} {w : World} {s : ByteArray} {at_ j : Nat} {lv : Value} {l : List (S33)} {W W' : World} (h : St g1 gr B w s at_ lv l W) (hne : g1 ≠ gr) (hB : B ≤ gr) (hr : Rd gr s j lv W') (ho : Only gr W W') : St g1 gr B w s j lv l W' :=
  ⟨hr, (ho.rest g1 hne).trans h.bk, Kd.R_step h.row (fun k hk _ => ho.rest k hk.2), h.hb.trans (ho.to hB)⟩
theorem St.drewN {g1 gr B : Nat} {w : World} {s : ByteArray} {at_ : Nat} {lv : Value} {l : List (S33)} {W : World} (h : St g1 gr B w s at_ lv l W) (n : Nat) : St g1 gr B w s at_ lv l (W.drewN n) :=
  ⟨h.rd.drewN n, by rw [heap_drewN]; exact h.bk, Kd.R_step h.row (fun k _ _ => by rw [heap_drewN]), pw_below_drewN h.hb n⟩
theorem St.grown {g1 gr B : Nat} {w : World} {s : ByteArray} {at_ : Nat} {lv : Value} {l : List (S33)} {W w1 : World} (h : St g1 gr B w s at_ lv l W) (hg : W.grownBy w1 lv.ownBlock) : Rd gr s at_ lv w1 ∧ w1.heap[g1]? = some (.cells #[.int .i64 0, .int .i64 0] 27 (0, 0)) :=
  ⟨(hg.block gr h.rd.lt (fun e => (h.row.1 gr e.symm).2 rfl)).trans h.rd, (hg.block g1 (blk_lt h.bk) (fun e => (h.row.1 g1 e.symm).1 rfl)).trans h.bk⟩
theorem St.fresh {g1 gr B : Nat} {w : World} {s : ByteArray} {at_ : Nat} {lv : Value} {l : List (S33)} {W : World} (h : St g1 gr B w s at_ lv l W) : ∀ k, W.heap.size ≤ k → k ≠ g1 ∧ k ≠ gr := fun k hk => ⟨fun e => by have := blk_lt h.bk; omega, fun e => by have := h.rd.lt; omega⟩
theorem St.put2 {g1 gr B : Nat} {w : World} {s : ByteArray} {at_ : Nat} {lv v1 : Value} {l1 : List (S33)} {w1 : World} (hne : g1 ≠ gr) (hB : B ≤ gr) (hr : Rd gr s at_ lv w1) (hk : w1.heap[g1]? = some (.cells #[.int .i64 0, .int .i64 0] 27 (0, 0))) (ho : Kd.R k33 33 w1 B (fun k => k ≠ g1 ∧ k ≠ gr) v1 l1) (hb : Below B w w1) : St g1 gr B w s at_ v1 l1 (w1.setCell ⟨gr, 2, none⟩ v1) :=
  ⟨blk_put (cs := #[.string s, .int .i64 at_, lv]) hr 2 _ rfl, (Below.heap_setCell _ ⟨gr, 2, none⟩ _ g1 hne).trans hk, Kd.R_far (p := ⟨gr, 2, none⟩) ho (fun k hk => hk.2) _, hb.setCell (p := ⟨gr, 2, none⟩) hB _⟩
end LexLoop
set_option maxHeartbeats 8000000 in
set_option maxRecDepth 100000 in
theorem lex_Lex.calls (a0 : ByteArray) (r1 : List (S33)) (r2 : Int) (r3 : Int) (w : World) (h : lex_Lex.f a0 = some (r1, r2, r3)) (hgv : LexW.GV w) :
    Calls Tryz.prog 5 #[.string a0] w fun e w' => ∃ v0_ : Value, e = .returned (.tuple #[v0_, .agg #[.int .i64 r2, .int .i64 r3]]) ∧ Kd.R k33 33 w' w.heap.size (fun _ => True) v0_ r1 ∧ Below w.heap.size w w' := by
  have HB := Aside0.mk (Below.refl w.heap.size w)
  have HGV := Aside0.mk hgv.1
  clear hgv
  unfold lex_Lex.f at h
  by_cases c0 : (a0.size : Int) > 65536
  · rw [if_pos c0] at h
    have c0b : decide ((a0.size : Int) > 65536) = true := decide_eq_true c0
    clear c0
    simp only [Option.some.injEq, Prod.mk.injEq] at h
    obtain ⟨rfl, rfl, rfl⟩ := h
    go_enter Tryz.func5, Tryz.ntmps5
    go_wp2_with ((with_reducible refine gate_dst (N := 3) rfl ?_); refine box_event ?hg (N := 3) ?hd (cs := #[.int .i64 0, .int .i64 0]) (t := 27) ?hr ?_; (case hd => rfl); (case hg => rfl); (case hr => first | (go_simp; done) | (go_simp; rfl)); intro g1 hg w4 hbox hb; have n0_ := pxs HB hb; have BK1 := Aside0.mk (hbox); have GW1 := Aside0.mk ((by rw [hg]; exact (below_size (pxb HB)) : w.heap.size ≤ g1)); clear HB; have HB := n0_; clear n0_ hb hbox hg; have hcza_0 : w4.cell? ⟨g1, 0, none⟩ = some (.int .i64 0) := (blk_cell BK1.out 0).trans rfl; have hcza_1 : w4.cell? ⟨g1, 1, none⟩ = some (.int .i64 0) := (blk_cell BK1.out 1).trans rfl; have hfza_0 := blk_frozen BK1.out 0; have hfza_1 := blk_frozen BK1.out 1)
    refine bodyPost_ret (results_tc rfl _ _ g1 27 #[.int .i64 2, .int .i64 0] (0, 0) _ rfl (blk_put (cs := #[.int .i64 2, .int .i64 0]) (blk_put (cs := #[.int .i64 0, .int .i64 0]) BK1.out 0 _ rfl) 1 _ rfl) Tryz.underlying27 rfl (by kernel_rfl)) rfl ?_
    exact ⟨_, rfl, Kd.R_nil _ _ _ _ _, pxb HB⟩
  · rw [if_neg c0] at h
    have c0b : decide ((a0.size : Int) > 65536) = false := decide_eq_false c0
    simp only [Option.some.injEq, Prod.mk.injEq] at h
    have HRES := Aside0.mk h
    have HS := Lib.hid (show a0.size ≤ 4611686018427387904 by omega)
    have HS2 := Lib.hid (show a0.size ≤ 65536 by omega)
    clear c0 h
    go_enter Tryz.func5, Tryz.ntmps5
    go_wp2_with (first | ((with_reducible refine gate_dst (N := 3) rfl ?_); refine box_event ?hg (N := 3) ?hd (cs := #[.int .i64 0, .int .i64 0]) (t := 27) ?hr ?_; (case hd => rfl); (case hg => rfl); (case hr => first | (go_simp; done) | (go_simp; rfl)); intro g1 hg w4 hbox hb; have n0_ := pxs HB hb; have BK1 := Aside0.mk (hbox); have GW1 := Aside0.mk ((by rw [hg]; exact (below_size (pxb HB)) : w.heap.size ≤ g1)); clear HB; have HB := n0_; clear n0_ hb hbox hg) | ((with_reducible refine gate_dst (N := 14) rfl ?_); refine box_event ?hg (N := 14) ?hd (cs := #[.string a0, .int .i64 0, .slice none 0 0]) (t := 52) ?hr ?_; (case hd => rfl); (case hg => rfl); (case hr => first | (go_simp; done) | (go_simp; rfl)); intro gr hg w5 hbox hb; have n0_ := pxs HB hb; have n1_ := pxk BK1 hb; have NE := Aside0.mk ((by rw [hg]; exact Nat.ne_of_lt (blk_lt (pxq BK1)) : g1 ≠ gr)); have GW2 := Aside0.mk ((by rw [hg]; exact (below_size (pxb HB)) : w.heap.size ≤ gr)); have HRD := Aside0.mk (hbox); clear HB BK1; have HB := n0_; have BK1 := n1_; clear n0_ n1_ hb hbox hg) | (go_at_call 18; refine (LexW.skip_any gr a0 (.slice none 0 0) 0 _ (Nat.zero_le _) HS.out HRD.out).mono ?_; rintro e w6 ⟨rfl, hr, ho⟩))
    have hst0 : LexLoop.St g1 gr w.heap.size w a0 0 (.slice none 0 0) [] w5 := ⟨HRD.out, BK1.out, Kd.R_nil _ _ _ _ _, HB.out⟩
    rw [List.drop_zero, Nat.zero_add] at hr
    have HST := Aside0.mk (hst0.only NE.out GW2.out hr ho)
    have HSK := Aside0.mk (Lx.skipN_drop false a0.data.toList)
    have hsz : a0.data.toList.length = a0.size := Array.length_toList
    have HLE := Aside0.mk (show Lx.skipN false a0.data.toList ≤ a0.size by rw [← hsz]; exact Lx.skipN_le _ _)
    have HLF : Aside0 (LexLoop.Left [] (a0.size + 1) (Lx.skipN false a0.data.toList) 0 a0 r1 r2 r3) := ⟨by
      have h1 := HRES.out
      have h2 := LexLoop.lexN_skip (f := a0.size) (at_ := 0) (n := 0) (l := a0.data.toList)
      rw [Nat.zero_add] at h2
      unfold LexLoop.Left
      rw [← h2]
      obtain ⟨rfl, rfl, rfl⟩ := h1
      by_cases h3 : (Lx.lexN (a0.size + 1) 0 0 a0.data.toList).2.1 = 0
      · rw [if_pos h3, List.nil_append, h3, Lx.lexN_zero _ _ _ _ h3]
        rfl
      · rw [if_neg h3, Lx.lexN_none _ _ _ _ h3]
        rfl⟩
    clear hst0 hr ho hsz HRD BK1 HB HRES
    go_loopg [] (a0.size - Lx.skipN false a0.data.toList) (fun kq w' => ∃ (at_ f : Nat) (lv : Value) (l : List (S33)), Aside0 (at_ ≤ a0.size ∧ kq = a0.size - at_ ∧ Lx.skipN false (a0.data.toList.drop at_) = 0 ∧ a0.size - at_ < f ∧ l.length ≤ 16384 ∧ LexLoop.Left l f at_ l.length a0 r1 r2 r3) ∧ Aside0 (LexLoop.St g1 gr w.heap.size w a0 at_ lv l w'))
    case atStart => exact ⟨_, a0.size + 1, _, [], ⟨HLE.out, rfl, HSK.out, by omega, by decide, HLF.out⟩, HST⟩
    case round =>
      clear HLE HSK HLF HST
      obtain ⟨at_, f, lv, l, HI, HST⟩ := hrel
      obtain ⟨A, c, rfl⟩ := Kd.R_slice HST.out.row
      obtain ⟨q0, q1, q2, p0, p1, p2⟩ := HST.out.rd.at
      have hcza_0 : wr.cell? ⟨g1, 0, none⟩ = some (.int .i64 0) := (blk_cell HST.out.bk 0).trans rfl
      have hcza_1 : wr.cell? ⟨g1, 1, none⟩ = some (.int .i64 0) := (blk_cell HST.out.bk 1).trans rfl
      have hfza_0 := blk_frozen HST.out.bk 0
      have hfza_1 := blk_frozen HST.out.bk 1
      obtain ⟨f, rfl⟩ : ∃ m, f = m + 1 := ⟨f - 1, by have := HI.out.2.2.2.1; omega⟩
      by_cases hlt : at_ < a0.size
      · have HLT := Aside0.mk hlt
        by_cases hn : 16384 ≤ l.length
        · have k1 : decide ((16384 : Int) ≤ (l.length : Int)) = true := decide_eq_true (by omega)
          have HRR := Aside0.mk (HI.out.2.2.2.2.2.long HI.out.2.2.1 hlt hn)
          go_wp2
          obtain ⟨rfl, rfl, rfl⟩ := HRR.out
          refine bodyPost_ret (results_tc rfl _ _ g1 27 #[.int .i64 2, .int .i64 at_] (0, 0) _ rfl (blk_put (cs := #[.int .i64 2, .int .i64 0]) (blk_put (cs := #[.int .i64 0, .int .i64 0]) HST.out.bk 0 _ rfl) 1 _ rfl) Tryz.underlying27 rfl (by kernel_rfl)) rfl ?_
          exact ⟨_, rfl, Kd.R_nil _ _ _ _ _, (HST.out.hb.setCell (p := ⟨g1, 0, none⟩) GW1.out _).setCell (p := ⟨g1, 1, none⟩) GW1.out _⟩
        · have k1 : decide ((16384 : Int) ≤ (l.length : Int)) = false := decide_eq_false (by omega)
          have HN := Aside0.mk hn
          clear hn
          by_cases hc : (Lx.oneN (a0.data.toList.drop at_)).2.2 = 0
          · have HC := Aside0.mk hc
            clear hc
            obtain ⟨kk, len, hone⟩ : ∃ kk len, Lx.oneN (a0.data.toList.drop at_) = (kk, len, 0) := ⟨_, _, by rw [← HC.out]⟩
            have HONE := Aside0.mk hone
            have HLN := Aside0.mk (HI.out.2.2.2.2.2)
            have hle := Lx.oneN_le (a0.data.toList.drop at_)
            have hpos := Lx.oneN_pos (a0.data.toList.drop at_) HC.out
            rw [hone, LexLoop.len_drop] at hle
            rw [hone] at hpos
            dsimp only at hle hpos
            have HLEN := Aside0.mk hle
            have HPOS := Aside0.mk hpos
            clear hone HC hle hpos
            obtain ⟨f, rfl⟩ : ∃ m, f = m + 1 := ⟨f - 1, by have := HI.out.2.2.2.1; have := HLEN.out; have := HPOS.out; omega⟩
            go_wp2_with ((go_at_call 19; refine (LexW.one_any gr a0 (.slice A l.length c) at_ _ HLT.out HS.out (Nat.lt_of_lt_of_le HGV.out.pos GW2.out) (HGV.out.later HST.out.hb) HST.out.rd).mono ?_; rintro e w1 ⟨ho, j, k, hr, hjk, he⟩; rw [HONE.out] at hjk he; dsimp only at hjk he; obtain ⟨rfl, hk_⟩ := hjk rfl; replace hk_ := hk_.symm; subst hk_; subst he; have HST1 := Aside0.mk (HST.out.only NE.out GW2.out hr ho); clear hr ho hjk hcza_0 hcza_1 hfza_0 hfza_1 q0 q1 q2 p0 p1 p2))
            have hst2 : LexLoop.St g1 gr w.heap.size w a0 (at_ + len) (.slice A l.length c) l w1.drew := HST1.out.drewN 1
            obtain ⟨q0, q1, q2, p0, p1, p2⟩ := hst2.rd.at
            have HST2 := Aside0.mk hst2
            clear hst2 HST1 q0 p0 p1
            refine start_ (n := 18) (S := fun w' => w'.cell? ⟨gr, 1, none⟩ = some (.int .i64 ((at_ + len : Nat) : Int)) ∧ w'.cell? ⟨gr, 2, none⟩ = some (.slice A l.length c)) (ds := [17]) #[false, false, false, false, false, false, false, false, false, false, false, false, false, false, false, false, false, false] (by kernel_rfl) rfl rfl ⟨q1, q2⟩ (fun hHeld => ?_); refine with_tab rfl (fun HT_ => ?_)
            generalize w1.drew = w2 at HST2 q1 q2 p2 hHeld ⊢
            refine pS 0 48 HT_ ?_
            refine pS 1 49 HT_ ?_
            refine pS 2 50 HT_ ?_
            refine pS 3 51 HT_ ?_
            refine pS 5 53 HT_ ?_
            refine pS 6 54 HT_ ?_
            refine pS 7 55 HT_ ?_
            refine pS 8 56 HT_ ?_
            refine pS 9 57 HT_ ?_
            refine tT 4 52 HT_ hHeld ?_
            refine tT 10 58 HT_ hHeld ?_
            refine pS 11 59 HT_ ?_
            refine pS 12 60 HT_ ?_
            refine oS 13 HT_ (fun K hK => ?_)
            refine value_ (w1 := ?_) (v := ?_) (by rfl) rfl ?_ ?_
            rotate_left 2
            · go_simp
              constructor
              · rfl
              · rfl
            have hrd : w2.heap[gr]? = some (.cells #[.string a0, .int .i64 ((at_ + len : Nat) : Int), .slice A l.length c] 52 (0, 0)) := HST2.out.rd
            refine hK.out _ _ ⟨(blk_cell (blk_alloc hrd _) 1).trans rfl, (blk_cell (blk_alloc hrd _) 2).trans rfl⟩ (fun hHeld => ?_)
            clear hK K hrd
            refine nS 61 ?_
            refine oS 14 HT_ (fun K hK => ?_)
            refine Kd.R_append_step k33 (w0 := w) w.heap.size (by rfl) (.tmp 52) (.tmp 61) 25 33 (.agg #[.int .i64 0, .int .i64 0, .int .i64 0]) 24 rfl Tryz.underlying25 info33 rfl (by decide) (by omega) (.slice A l.length c) l (⟨kk, ⟨(at_ : Int), ((at_ + len : Nat) : Int)⟩⟩ : S33) [.int .i64 kk, .int .i64 at_, .int .i64 ((at_ + len : Nat) : Int)] (fun k => k ≠ g1 ∧ k ≠ gr) (fun _ => False) rfl rfl ?aP (fun _ hk => hk.elim) ?aF ?aO ?aB ?aS ?aL ?_
            (case aP => exact k33_mkM _ _ _ _)
            (case aF => exact HST2.out.fresh)
            (case aO => exact HST2.out.row)
            (case aB => exact HST2.out.hb)
            (case aS => exact HST2.out.hb.size)
            (case aL => have := HI.out.2.2.2.2.1; omega)
            intro v1 w3 ho hb hg hat
            obtain ⟨hr3, hk3⟩ := HST2.out.grown hg
            obtain ⟨q0, q1, q2, p0, p1, p2⟩ := hr3.at
            obtain ⟨A2, cc2, hv1⟩ := Kd.R_slice ho
            rw [List.length_append, List.length_singleton] at hv1
            subst hv1
            have HST3 := Aside0.mk (LexLoop.St.put2 NE.out GW2.out hr3 hk3 ho hb)
            clear ho hb hg hat hr3 hk3 q0 p0 p1
            refine hK.out _ _ ⟨q1, q2⟩ (fun hHeld => ?_)
            clear hK K
            refine nS 62 ?_
            refine pS 15 63 HT_ ?_
            refine pS 16 64 HT_ ?_
            refine lS 17 HT_ (fun K hK => ?_)
            refine skip_ (w1 := ?_) (by rfl) rfl ?_ ?_
            rotate_left 1
            · go_simp
              rfl
            refine hK.out _ _ ?_
            clear hK K
            refine done_ (done_of HT_.out (by kernel_rfl)) ?_
            clear HT_ hHeld q1 q2 p2
            go_wp2_with ((go_at_call 18; refine (LexW.skip_any gr a0 _ (at_ + len) _ (by have := HLEN.out; have := HLT.out; omega) HS.out HST3.out.rd).mono ?_; rintro e w4 ⟨rfl, hr, ho⟩; have HST4 := Aside0.mk (HST3.out.only NE.out GW2.out hr ho); clear hr ho))
            have hskl := Lx.skipN_le false (a0.data.toList.drop (at_ + len))
            rw [LexLoop.len_drop] at hskl
            have hll : (l ++ [(⟨kk, ⟨(at_ : Int), ((at_ + len : Nat) : Int)⟩⟩ : S33)]).length = l.length + 1 := by simp
            have HLL := Aside0.mk hll
            clear hll
            have HSKL := Aside0.mk hskl
            clear hskl
            go_roundg (a0.size - (at_ + len + Lx.skipN false (a0.data.toList.drop (at_ + len))))
            case measure => have := HI.out.2.1; have := HPOS.out; have := HLT.out; have := HLEN.out; omega
            case rel =>
              refine ⟨_, f + 1, _, l ++ [(⟨kk, ⟨(at_ : Int), ((at_ + len : Nat) : Int)⟩⟩ : S33)], ⟨?_, rfl, ?_, ?_, ?_, ?_⟩, HST4⟩
              · have := HSKL.out; have := HLEN.out; have := HLT.out; omega
              · rw [← List.drop_drop]; exact Lx.skipN_drop false _
              · have := HI.out.2.2.2.1; have := HPOS.out; omega
              · rw [HLL.out]; have := HN.out; omega
              · rw [HLL.out]
                exact HLN.out.one HI.out.2.2.1 HLT.out (by have := HN.out; omega) HONE.out
          · obtain ⟨C, hC⟩ : ∃ C, (Lx.oneN (a0.data.toList.drop at_)).2.2 = C := ⟨_, rfl⟩
            have HRR := HI.out.2.2.2.2.2.bad HI.out.2.2.1 hlt (by have := HN.out; omega) hc
            rw [hC] at hc HRR
            have HRR := Aside0.mk HRR
            have HC := Aside0.mk hC
            have t1 : ((C : Int) == 0) = false := beq_eq_false_iff_ne.2 (by omega)
            have t2 : ((C : Int) != 0) = true := bne_iff_ne.2 (by omega)
            clear hC hc
            go_wp2_with ((go_at_call 19; refine (LexW.one_any gr a0 (.slice A l.length c) at_ _ HLT.out HS.out (Nat.lt_of_lt_of_le HGV.out.pos GW2.out) (HGV.out.later HST.out.hb) HST.out.rd).mono ?_; rintro e w1 ⟨ho, j, k, hr, hjk, he⟩; rw [HC.out] at he; subst he; have HST1 := Aside0.mk (HST.out.only NE.out GW2.out hr ho); clear hr ho hjk hcza_0 hcza_1 hfza_0 hfza_1 q0 q1 q2 p0 p1 p2; have hcza_0 := (blk_cell HST1.out.bk 0).trans rfl; have hcza_1 := (blk_cell HST1.out.bk 1).trans rfl; have hfza_0 := blk_frozen HST1.out.bk 0; have hfza_1 := blk_frozen HST1.out.bk 1))
            obtain ⟨rfl, rfl, rfl⟩ := HRR.out
            refine bodyPost_ret (results_tc rfl _ _ g1 27 #[.int .i64 C, .int .i64 at_] (0, 0) _ rfl (blk_put (cs := #[.int .i64 C, .int .i64 0]) (blk_put (cs := #[.int .i64 0, .int .i64 0]) HST1.out.bk 0 _ rfl) 1 _ rfl) Tryz.underlying27 rfl (by kernel_rfl)) rfl ?_
            exact ⟨_, rfl, Kd.R_nil _ _ _ _ _, (HST1.out.hb.setCell (p := ⟨g1, 0, none⟩) GW1.out _).setCell (p := ⟨g1, 1, none⟩) GW1.out _⟩
      · have hes : at_ = a0.size := by have := HI.out.1; omega
        have HRR := Aside0.mk (HI.out.2.2.2.2.2.done hes)
        go_wp2_with (((with_reducible refine gate_builtin (b := .append) (xs := #[.tmp 68, .tmp 75]) rfl ?_); at_builtin; refine Kd.R_append k33 (w0 := w) w.heap.size rfl (.tmp 68) (.tmp 75) 25 33 (.agg #[.int .i64 0, .int .i64 0, .int .i64 0]) 24 rfl Tryz.underlying25 info33 rfl (by decide) (by omega) (.slice A l.length c) l (⟨0, ⟨(a0.size : Int), (a0.size : Int)⟩⟩ : S33) [.int .i64 0, .int .i64 a0.size, .int .i64 a0.size] (fun k => k ≠ g1 ∧ k ≠ gr) (fun _ => False) rfl rfl ?aP (fun _ hk => hk.elim) ?aF ?aO ?aB ?aS ?aL ?_; (case aP => exact k33_mkM _ _ _ _); (case aF => exact HST.out.fresh); (case aO => exact HST.out.row); (case aB => exact HST.out.hb); (case aS => exact HST.out.hb.size); (case aL => have := HI.out.2.2.2.2.1; omega); intro v1 w1 ho hb hg hat; obtain ⟨hr1, hk1⟩ := HST.out.grown hg; have HO := Aside0.mk ho; have HB1 := Aside0.mk hb; have HR1 := Aside0.mk hr1; have HK1 := Aside0.mk hk1; clear ho hb hg hat hr1 hk1); have hczb_0 : w1.cell? ⟨g1, 0, none⟩ = some (.int .i64 0) := (blk_cell HK1.out 0).trans rfl; have hczb_1 : w1.cell? ⟨g1, 1, none⟩ = some (.int .i64 0) := (blk_cell HK1.out 1).trans rfl; have hfzb_0 := blk_frozen HK1.out 0; have hfzb_1 := blk_frozen HK1.out 1)
        obtain ⟨rfl, rfl, rfl⟩ := HRR.out
        refine bodyPost_ret (results_tc rfl _ _ g1 27 #[.int .i64 0, .int .i64 0] (0, 0) _ rfl (blk_put (cs := #[.int .i64 0, .int .i64 0]) (blk_put (cs := #[.int .i64 0, .int .i64 0]) HK1.out 0 _ rfl) 1 _ rfl) Tryz.underlying27 rfl (by kernel_rfl)) rfl ?_
        exact ⟨_, rfl, Kd.R_mono (Kd.R_far (p := ⟨g1, 1, none⟩) (Kd.R_far (p := ⟨g1, 0, none⟩) HO.out (fun k hk => hk.1) _) (fun k hk => hk.1) _) (fun _ _ => trivial), (HB1.out.setCell (p := ⟨g1, 0, none⟩) GW1.out _).setCell (p := ⟨g1, 1, none⟩) GW1.out _⟩

end Go.Proofs.YtmikdofplolmjaaGreatDoor.X
