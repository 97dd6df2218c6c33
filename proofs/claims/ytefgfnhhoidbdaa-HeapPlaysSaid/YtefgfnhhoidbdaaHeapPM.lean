/- The law HeapPlays, walked. -/
import Derived.Test.YtefgfnhhoidbdaaHeapP8
import Derived.Test.YtefgfnhhoidbdaaHeapP7
namespace Go.Proofs.Ytefgfnhhoidbdaa.HpW
open Go.RowKit Go.Proofs.YtefgfnhhoidbdaaW.PrintWords Go.Proofs.YtefgfnhhoidbdaaW.PrintLast Go.Proofs.Ytefgfnhhoidbdaa.H
set_option linter.unusedVariables false
set_option linter.unusedSimpArgs false
set_option maxHeartbeats 32000000 in
set_option maxRecDepth 100000 in
theorem plays_any (A0 : Option Addr) (c0 : Nat) (xs : List S63) (w : World) (hC : Kd.C k63 w A0 xs.length xs) : Calls Try.prog 7 #[.slice A0 xs.length c0] w fun e w' => e = .returned (.bool true) ∧ Below w.heap.size w w' := by
  have HB := Aside0.mk (Below.refl w.heap.size w)
  have HC := Aside0.mk hC
  clear hC
  have tok_k : True := trivial
  by_cases hl : 40 < xs.length
  · have k0 : decide (40 < (xs.length : Int)) = true := decide_eq_true (by omega)
    have k1 : decide (40 < xs.length) = true := decide_eq_true (by omega)
    clear hl
    go_enter Try.func7, Try.ntmps7
    go_wp2_with (first | (clear tok_k; go_at_call 24; (with_reducible refine (keeps_any _).mono ?_); rintro e w1 ⟨rfl, hb⟩; replace HB := pxs HB hb; clear hb))
    go_ret
    exact ⟨rfl, pxb HB⟩
  have HLEN := Lib.hid (show xs.length ≤ 40 by omega)
  have k0 : decide (40 < (xs.length : Int)) = false := decide_eq_false (by omega)
  have k1 : decide (40 < xs.length) = false := decide_eq_false (by omega)
  clear hl
  go_enter Try.func7, Try.ntmps7
  go_upto_region 9 with (first | (clear tok_k; go_at_call 24; (with_reducible refine (keeps_any _).mono ?_); rintro e w1 ⟨rfl, hb⟩; replace HB := pxs HB hb; clear hb) | ((with_reducible refine gate_dst (N := 3) rfl ?_); refine box_event ?hg (N := 3) ?hd (cs := #[.slice none 0 0, .int .i64 0]) (t := 55) ?hr ?_; (case hd => rfl); (case hg => rfl); (case hr => first | (go_simp; done) | (go_simp; rfl)); intro g hg w2 hbox hb; have NWGB := Aside0.mk hbox; have GWGB := Aside0.mk ((by rw [hg]; exact (below_size (pxb HB)) : w.heap.size ≤ g)); clear hg hbox; have n0_ := pxs HB hb; clear HB ; have HB := n0_; clear n0_; have GB := NWGB; clear NWGB hb; obtain ⟨xGB0, xGB1, yGB0, yGB1⟩ := pxf2 GB))
  rename_i Q0_ K6 hK6
  have HK6 := Aside0.mk hK6
  clear hK6
  have hg := GWGB.out
  go_loopg [4, 5, 40] xs.length (fun kq v4 v5 v40 w' => ∃ (i : Nat) (n : Int) (lv : Value) (O P : Nat → Prop) (cs : List S105), v5 = .int .i64 n ∧ v40 = .int .i64 i ∧ Hid (i ≤ xs.length ∧ kq = xs.length - i ∧ cs.length ≤ i ∧ 0 ≤ n ∧ n ≤ 65536) ∧ Aside0 (Below w.heap.size w w') ∧ Aside0 (LP g w.heap.size O P lv v4 cs n w'))
  case atStart => exact ⟨0, _, _, _, _, [], rfl, rfl, ⟨Nat.zero_le _, rfl, Nat.zero_le _, by decide, by decide⟩, ⟨pxb HB⟩, ⟨LP.start (HP.init (pxp GB) GWGB.out)⟩⟩
  case round => as_aux_lemma =>
    clear HB GB xGB0 xGB1 yGB0 yGB1
    obtain ⟨i, n, lv, O, P, cs, rfl, rfl, HI, HB, HP1⟩ := hrel
    have HI0 := Lib.hid (show cs.length ≤ xs.length by have := HI.out; omega)
    by_cases hi : i < xs.length
    · have HLT := Lib.hid hi
      have k4 : decide ((i : Int) < (xs.length : Int)) = true := decide_eq_true (by omega)
      have k5 : decide (i < xs.length) = true := decide_eq_true hi
      have p0 : (0 ≤ (i : Int)) = True := eq_true (by omega)
      have p1 : ((i : Int) < (xs.length : Int)) = True := eq_true (by omega)
      have p2 : (i < xs.length) = True := eq_true (by omega)
      obtain ⟨ad, A2, c2, rfl, t0, t1, t2, t3, t4, t5, t6, t7, t8, t9, t10, t11, t12, t13, hT2⟩ := at_T63b HC.out HB.out (i : Int) (by omega) (by omega)
      rw [Int.toNat_natCast] at t0 t1 t2 t3 t4 t5 t6 t7 t8 t9 t10 t11 t12 t13
      clear hi
      have HX := Aside0.mk (Below.refl wr.heap.size wr)
      go_upto_region 11 with (fail)
      generalize hW_ : World.alloc wr _ = w3
      generalize hgo_ : wr.heap.size = go
      have OB : Aside0 (w3.heap[go]? = some (.cells #[.int .i64 (rd_T63 xs (i : Int)).f0, .string (rd_T63 xs (i : Int)).f1, .slice A2 (rd_T63 xs (i : Int)).f2.length c2, .int .i64 (rd_T63 xs (i : Int)).f3.f0, .string (rd_T63 xs (i : Int)).f3.f1, .int .i64 (rd_T63 xs (i : Int)).f3.f2, .string (rd_T63 xs (i : Int)).f3.f3, .int .i64 (rd_T63 xs (i : Int)).f4, .int .i64 (rd_T63 xs (i : Int)).f5.f0, .int .i64 (rd_T63 xs (i : Int)).f5.f1, .string (rd_T63 xs (i : Int)).f5.f2, .int .i64 (rd_T63 xs (i : Int)).f6.f0, .int .i64 (rd_T63 xs (i : Int)).f6.f1, .string (rd_T63 xs (i : Int)).f6.f2] 63 (0, 0))) := ⟨by rw [← hW_, ← hgo_]; exact blk_new _ _⟩
      have HB3 : Aside0 (Below w.heap.size w w3) := ⟨by rw [← hW_]; exact pxb HB⟩
      have HX3 : Below wr.heap.size wr w3 := by rw [← hW_]; exact pxb HX
      have HP3 := Aside0.mk (HP1.out.below HX3)
      have HT3 := Aside0.mk hT2
      have HGO := Aside0.mk (show w.heap.size ≤ go by rw [← hgo_]; exact HB.out.size)
      have HPO : Aside0 (∀ k, (O k ∨ P k) → k ≠ go) := ⟨fun k hk e => by rcases hk with h1 | h1; have := HP1.out.hp.lt k h1; omega; have := (HP1.out.off k h1).2; omega⟩
      clear hW_ hgo_ HX HX3 HB HP1 hT2 t0 t1 t2 t3 t4 t5 t6 t7 t8 t9 t10 t11 t12 t13
      have HB := HB3
      have HX := Aside0.mk (Below.refl w3.heap.size w3)
      clear HB3
      obtain ⟨xOB0, xOB1, xOB2, xOB3, xOB4, xOB5, xOB6, xOB7, xOB8, xOB9, xOB10, xOB11, xOB12, xOB13, yOB0, yOB1, yOB2, yOB3, yOB4, yOB5, yOB6, yOB7, yOB8, yOB9, yOB10, yOB11, yOB12, yOB13⟩ := pxf14 OB
      by_cases c1 : 20 < (rd_T63 xs (i : Int)).f2.length
      · have k6 : decide (20 < ((rd_T63 xs (i : Int)).f2.length : Int)) = true := decide_eq_true (by omega)
        have k7 : decide (20 < (rd_T63 xs (i : Int)).f2.length) = true := decide_eq_true c1
        clear c1
        go_wp2_with (fail)
        go_ret
        exact ⟨rfl, pxb HB⟩
      have HTL := Lib.hid (show (rd_T63 xs (i : Int)).f2.length ≤ 20 by omega)
      have k6 : decide (20 < ((rd_T63 xs (i : Int)).f2.length : Int)) = false := decide_eq_false (by omega)
      have k7 : decide (20 < (rd_T63 xs (i : Int)).f2.length) = false := decide_eq_false c1
      clear c1
      by_cases c2 : 60 < (rd_T63 xs (i : Int)).f1.size
      · have k8 : decide (60 < ((rd_T63 xs (i : Int)).f1.size : Int)) = true := decide_eq_true (by omega)
        have k9 : decide (60 < (rd_T63 xs (i : Int)).f1.size) = true := decide_eq_true c2
        clear c2
        go_wp2_with (fail)
        go_ret
        exact ⟨rfl, pxb HB⟩
      have k8 : decide (60 < ((rd_T63 xs (i : Int)).f1.size : Int)) = false := decide_eq_false (by omega)
      have k9 : decide (60 < (rd_T63 xs (i : Int)).f1.size) = false := decide_eq_false c2
      clear c2
      by_cases c3 : 50 < (rd_T63 xs (i : Int)).f3.f3.size
      · have k10 : decide (50 < ((rd_T63 xs (i : Int)).f3.f3.size : Int)) = true := decide_eq_true (by omega)
        have k11 : decide (50 < (rd_T63 xs (i : Int)).f3.f3.size) = true := decide_eq_true c3
        clear c3
        go_wp2_with (fail)
        go_ret
        exact ⟨rfl, pxb HB⟩
      have HMK := Lib.hid (show (rd_T63 xs (i : Int)).f3.f3.size ≤ 50 by omega)
      have k10 : decide (50 < ((rd_T63 xs (i : Int)).f3.f3.size : Int)) = false := decide_eq_false (by omega)
      have k11 : decide (50 < (rd_T63 xs (i : Int)).f3.f3.size) = false := decide_eq_false c3
      clear c3
      go_upto_region 14 with (fail)
      go_loopg [64] (rd_T63 xs (i : Int)).f2.length (fun kq v64 w' => ∃ j : Nat, v64 = .int .i64 j ∧ Hid (j ≤ (rd_T63 xs (i : Int)).f2.length ∧ kq = (rd_T63 xs (i : Int)).f2.length - j) ∧ Aside0 (Below w.heap.size w w') ∧ Aside0 (Below w3.heap.size w3 w') ∧ Aside0 (w'.heap[go]? = some (.cells #[.int .i64 (rd_T63 xs (i : Int)).f0, .string (rd_T63 xs (i : Int)).f1, .slice A2 (rd_T63 xs (i : Int)).f2.length c2, .int .i64 (rd_T63 xs (i : Int)).f3.f0, .string (rd_T63 xs (i : Int)).f3.f1, .int .i64 (rd_T63 xs (i : Int)).f3.f2, .string (rd_T63 xs (i : Int)).f3.f3, .int .i64 (rd_T63 xs (i : Int)).f4, .int .i64 (rd_T63 xs (i : Int)).f5.f0, .int .i64 (rd_T63 xs (i : Int)).f5.f1, .string (rd_T63 xs (i : Int)).f5.f2, .int .i64 (rd_T63 xs (i : Int)).f6.f0, .int .i64 (rd_T63 xs (i : Int)).f6.f1, .string (rd_T63 xs (i : Int)).f6.f2] 63 (0, 0))) ∧ Aside0 (∀ q : Nat, q < j → (rd_T59 (rd_T63 xs (i : Int)).f2 (q : Int)).f3.size ≤ 50))
      case atStart => exact ⟨0, rfl, ⟨Nat.zero_le _, rfl⟩, ⟨pxb HB⟩, ⟨pxb HX⟩, ⟨pxp OB⟩, ⟨fun q hq => absurd hq (Nat.not_lt_zero _)⟩⟩
      case round => as_aux_lemma =>
        clear HB OB HX
        clear xOB0 yOB0 xOB1 yOB1 xOB2 yOB2 xOB3 yOB3 xOB4 yOB4 xOB5 yOB5 xOB6 yOB6 xOB7 yOB7 xOB8 yOB8 xOB9 yOB9 xOB10 yOB10 xOB11 yOB11 xOB12 yOB12 xOB13 yOB13
        obtain ⟨j, rfl, HJ, HB, HX, OB, HMS⟩ := hrel
        obtain ⟨xOB0, xOB1, xOB2, xOB3, xOB4, xOB5, xOB6, xOB7, xOB8, xOB9, xOB10, xOB11, xOB12, xOB13, yOB0, yOB1, yOB2, yOB3, yOB4, yOB5, yOB6, yOB7, yOB8, yOB9, yOB10, yOB11, yOB12, yOB13⟩ := pxf14 OB
        by_cases hj : j < (rd_T63 xs (i : Int)).f2.length
        · have HJT := Lib.hid hj
          have m4 : decide ((j : Int) < ((rd_T63 xs (i : Int)).f2.length : Int)) = true := decide_eq_true (by omega)
          have m5 : decide (j < (rd_T63 xs (i : Int)).f2.length) = true := decide_eq_true hj
          obtain ⟨ad2, rfl, s0, s1, s2, s3⟩ := at_T59 (Kd.C_below HT3.out HB.out) (j : Int) (by omega) (by omega)
          rw [Int.toNat_natCast] at s0 s1 s2 s3
          have q0 : (0 ≤ (j : Int)) = True := eq_true (by omega)
          have q1 : ((j : Int) < ((rd_T63 xs (i : Int)).f2.length : Int)) = True := eq_true (by omega)
          have q2 : (j < (rd_T63 xs (i : Int)).f2.length) = True := eq_true (by omega)
          clear hj
          have HY := Aside0.mk (Below.refl wr.heap.size wr)
          go_upto_region 16 with (fail)
          generalize hW_ : World.alloc wr _ = w5
          generalize hgt_ : wr.heap.size = gt
          have TB : Aside0 (w5.heap[gt]? = some (.cells #[.int .i64 (rd_T59 (rd_T63 xs (i : Int)).f2 (j : Int)).f0, .string (rd_T59 (rd_T63 xs (i : Int)).f2 (j : Int)).f1, .int .i64 (rd_T59 (rd_T63 xs (i : Int)).f2 (j : Int)).f2, .string (rd_T59 (rd_T63 xs (i : Int)).f2 (j : Int)).f3] 59 (0, 0))) := ⟨by rw [← hW_, ← hgt_]; exact blk_new _ _⟩
          have HB5 : Aside0 (Below w.heap.size w w5) := ⟨by rw [← hW_]; exact pxb HB⟩
          have HX5 : Aside0 (Below w3.heap.size w3 w5) := ⟨by rw [← hW_]; exact pxb HX⟩
          have OB5 : Aside0 (w5.heap[go]? = some (.cells #[.int .i64 (rd_T63 xs (i : Int)).f0, .string (rd_T63 xs (i : Int)).f1, .slice (some ad2) (rd_T63 xs (i : Int)).f2.length c2, .int .i64 (rd_T63 xs (i : Int)).f3.f0, .string (rd_T63 xs (i : Int)).f3.f1, .int .i64 (rd_T63 xs (i : Int)).f3.f2, .string (rd_T63 xs (i : Int)).f3.f3, .int .i64 (rd_T63 xs (i : Int)).f4, .int .i64 (rd_T63 xs (i : Int)).f5.f0, .int .i64 (rd_T63 xs (i : Int)).f5.f1, .string (rd_T63 xs (i : Int)).f5.f2, .int .i64 (rd_T63 xs (i : Int)).f6.f0, .int .i64 (rd_T63 xs (i : Int)).f6.f1, .string (rd_T63 xs (i : Int)).f6.f2] 63 (0, 0))) := ⟨by rw [← hW_]; exact blk_below OB.out (pxb HY)⟩
          clear hW_ hgt_ HB HX OB HY s0 s1 s2 s3 xOB0 yOB0 yOB1 yOB2 yOB3 yOB4 yOB5 yOB6 yOB7 yOB8 yOB9 yOB10 yOB11 yOB12 yOB13
          obtain ⟨xTB0, xTB1, xTB2, xTB3, yTB0, yTB1, yTB2, yTB3⟩ := pxf4 TB
          by_cases cm : 50 < (rd_T59 (rd_T63 xs (i : Int)).f2 (j : Int)).f3.size
          · have n1 : decide (50 < ((rd_T59 (rd_T63 xs (i : Int)).f2 (j : Int)).f3.size : Int)) = true := decide_eq_true (by omega)
            have n2 : decide (50 < (rd_T59 (rd_T63 xs (i : Int)).f2 (j : Int)).f3.size) = true := decide_eq_true cm
            clear cm
            go_wp2_with (fail)
            go_ret
            exact ⟨rfl, pxb HB5⟩
          have n1 : decide (50 < ((rd_T59 (rd_T63 xs (i : Int)).f2 (j : Int)).f3.size : Int)) = false := decide_eq_false (by omega)
          have n2 : decide (50 < (rd_T59 (rd_T63 xs (i : Int)).f2 (j : Int)).f3.size) = false := decide_eq_false cm
          have HCM := Lib.hid (show (rd_T59 (rd_T63 xs (i : Int)).f2 (j : Int)).f3.size ≤ 50 by omega)
          clear cm
          go_wp2_with (fail)
          go_roundg ((rd_T63 xs (i : Int)).f2.length - (j + 1))
          case measure => have := HJ.out; have := HJT.out; omega
          case rel => exact ⟨j + 1, by first | rfl | (rw [wrap_id (by omega) (by have := HJT.out; have := HTL.out; omega)]; rfl), ⟨by have := HJT.out; omega, rfl⟩, ⟨pxb HB5⟩, ⟨pxb HX5⟩, ⟨pxp OB5⟩, ⟨fun q hq => by rcases Nat.lt_succ_iff_lt_or_eq.1 hq with h1 | h1; exact HMS.out q h1; subst h1; exact HCM.out⟩⟩
        · have m4 : decide ((j : Int) < ((rd_T63 xs (i : Int)).f2.length : Int)) = false := decide_eq_false (by omega)
          have m5 : decide (j < (rd_T63 xs (i : Int)).f2.length) = false := decide_eq_false hj
          have hje : j = (rd_T63 xs (i : Int)).f2.length := by have := HJ.out; omega
          have HM : Aside0 (∀ t ∈ (rd_T63 xs (i : Int)).f2, t.f3.size ≤ 1000000000) := ⟨fun t ht => by obtain ⟨q, hq, rfl⟩ := List.mem_iff_getElem.1 ht; have h1 := HMS.out q (by omega); unfold rd_T59 at h1; rw [Int.toNat_natCast, List.getD_eq_getElem?_getD, List.getElem?_eq_getElem hq] at h1; exact Nat.le_trans h1 (by decide)⟩
          clear hj hje HJ HMS
          have HPw := Aside0.mk (HP3.out.below HX.out)
          clear HP3 HX
          obtain ⟨Aa, ca, rfl, hca, hCa⟩ := HPw.out.form
          have HCA := Aside0.mk hCa
          clear hCa
          go_upto_region 19 with (fail)
          go_cut [10] from 41 to 331 (fun c wx => c = .bool (decide (isAt cs (rd_T63 xs (i : Int)).f5)) ∧ wx = wr)
          case first => as_aux_lemma =>
            by_cases d5 : (rd_T63 xs (i : Int)).f5.f0 = 5
            · have e5 : ((rd_T63 xs (i : Int)).f5.f0 == 5) = true := beq_iff_eq.2 d5
              by_cases d0 : 0 ≤ (rd_T63 xs (i : Int)).f5.f1
              · have e0 : decide (0 ≤ (rd_T63 xs (i : Int)).f5.f1) = true := decide_eq_true d0
                by_cases d1 : (rd_T63 xs (i : Int)).f5.f1 < (cs.length : Int)
                · have e1 : decide ((rd_T63 xs (i : Int)).f5.f1 < (cs.length : Int)) = true := decide_eq_true d1
                  have hx : decide (isAt cs (rd_T63 xs (i : Int)).f5) = true := decide_eq_true ⟨d5, d0, d1⟩
                  have HXX := Aside0.mk hx
                  clear hx d5 d0 d1
                  go_wp2_with (fail)
                  go_meet
                  exact ⟨by rw [HXX.out], rfl⟩
                · have e1 : decide ((rd_T63 xs (i : Int)).f5.f1 < (cs.length : Int)) = false := decide_eq_false d1
                  have HXX := Aside0.mk (show decide (isAt cs (rd_T63 xs (i : Int)).f5) = false from decide_eq_false (fun h => d1 h.2.2))
                  clear d5 d0 d1
                  go_wp2_with (fail)
                  go_meet
                  exact ⟨by rw [HXX.out], rfl⟩
              · have e0 : decide (0 ≤ (rd_T63 xs (i : Int)).f5.f1) = false := decide_eq_false d0
                have HXX := Aside0.mk (show decide (isAt cs (rd_T63 xs (i : Int)).f5) = false from decide_eq_false (fun h => d0 h.2.1))
                clear d5 d0
                go_wp2_with (fail)
                go_meet
                exact ⟨by rw [HXX.out], rfl⟩
            · have e5 : ((rd_T63 xs (i : Int)).f5.f0 == 5) = false := beq_eq_false_iff_ne.2 d5
              have HXX := Aside0.mk (show decide (isAt cs (rd_T63 xs (i : Int)).f5) = false from decide_eq_false (fun h => d5 h.1))
              clear d5
              go_wp2_with (fail)
              go_meet
              exact ⟨by rw [HXX.out], rfl⟩
          case rest => as_aux_lemma =>
            obtain ⟨rfl, rfl⟩ := hcut
            have hA : True := trivial
            generalize hbt_ : decide (isAt cs (rd_T63 xs (i : Int)).f5) = bt
            have HBT := Aside0.mk hbt_
            have HLC := Lib.hid (show cs.length ≤ 40 by have := HI0.out; have := HLEN.out; omega)
            have HNN := Lib.hid (show 0 ≤ n ∧ n ≤ 65536 by have := HI.out; omega)
            clear hbt_ hA
            go_upto_block 4 with (fail)
            refine sw _ _ _ _ _ _ _ _ _ _ _ _ _ _ _ _ _ _ _ _ _ _ _ _ _ _ _ _ _ _ _ _ _ _ _ _ _ _ _ _ _ _ _ _ _ _ _ _ _ _ _ _ _ _ _ _ _ _ _ _ _ _ _ _ _ _ _ _ _ _ _ _ _ _ _ _ _ _ _ _ _ _ _ _ _ _ _ _ _ _ _ _ _ _ _ _ _ _ _ _ _ _ _ _ _ _ _ _ _ _ _ _ _ _ _ _ _ _ _ _ _ _ _ _ _ _ _ _ _ _ _ _ _ _ _ _ _ _ _ _ _ _ _ _ _ _ _ _ _ _ _ _ _ _ _ _ _ _ _ _ _ _ _ _ _ _ _ _ _ _ _ _ _ _ _ _ _ _ _ _ _ _ _ _ _ _ _ _ _ _ _ _ _ _ _ _ _ _ _ _ _ _ _ _ _ _ _ _ _ _ _ _ _ _ _ _ _ _ _ _ _ _ _ _ _ _ _ _ _ _ _ _ _ _ _ _ _ _ _ _ _ _ _ _ _ _ _ _ _ _ _ _ _ _ _ _ _ _ _ _ _ _ _ _ _ _ _ _ _ _ _ _ _ _ _ _ _ _ _ _ _ _ _ _ _ _ _ _ _ _ _ _ _ _ _ _ _ _ _ _ _ _ _ _ _ _ _ _ _ _ _ _ _ _ _ _ _ _ _ _ _ _ _ _ _ _ _ _ _ _ _ _ _ _ _ _ _ _ _ _ _ _ _ _ _ _ _ _ _ _ _ _ _ _ _ _ _ _ _ _ _ _ _ _ _ _ _ _ _ _ _ _ _ _ _ _ _ _ _ _ _ _ _ _ _ _ _ _ _ _ _ _ _ _ _ _ _ _ _ _ _ _ _ _ _ _ _ _ _ _ _ _ _ _ w wc g go O P lv _ _ cs n (rd_T63 xs (i : Int)) _ _ _ _ HLC.out HNN.out hg HGO.out HB.out HPw.out HPO.out OB.out HT3.out HTL.out HM.out HMK.out HBT.out ?_
            intro z7 z9 z10 z11 z12 z13 z15 z16 z17 z18 z19 z20 z21 z41 z42 z43 z44 z45 z46 z47 z48 z49 z50 z51 z52 z53 z54 z55 z56 z57 z58 z59 z60 z61 z62 z63 z64 z65 z66 z67 z68 z69 z70 z71 z72 z73 z74 z75 z76 z77 z78 z79 z80 z81 z82 z83 z84 z85 z86 z87 z88 z89 z90 z91 z92 z93 z94 z95 z96 z97 z98 z99 z100 z101 z102 z103 z104 z105 z106 z107 z108 z109 z110 z111 z112 z113 z114 z115 z116 z117 z118 z119 z120 z121 z122 z123 z124 z125 z126 z127 z128 z129 z130 z131 z132 z133 z134 z135 z136 z137 z138 z139 z140 z141 z142 z143 z144 z145 z146 z147 z148 z149 z150 z151 z152 z153 z154 z155 z156 z157 z158 z159 z160 z161 z162 z163 z164 z165 z166 z167 z168 z169 z170 z171 z172 z173 z174 z175 z176 z177 z178 z179 z180 z181 z182 z183 z184 z185 z186 z187 z188 z189 z190 z191 z192 z193 z194 z195 z196 z197 z198 z199 z200 z201 z202 z203 z204 z205 z206 z207 z208 z209 z210 z211 z212 z213 z214 z215 z216 z217 z218 z219 z220 z221 z222 z223 z224 z225 z226 z227 z228 z229 z230 z231 z232 z233 z234 z235 z236 z237 z238 z239 z240 z241 z242 z243 z244 z245 z246 z247 z248 z249 z250 z251 z252 z253 z254 z255 z256 z257 z258 z259 z260 z261 z262 z263 z264 z265 z266 z267 z268 z269 z270 z271 z272 z273 z274 z275 z276 z277 z278 z279 z280 z281 z282 z283 z284 z285 z286 z287 z288 z289 z290 z291 z292 z293 z294 z295 z296 z297 z298 z299 z300 z301 z302 z303 z304 z305 z306 z307 z308 z309 z310 z311 z312 z313 z314 z315 z316 z317 z318 z319 z320 z321 z322 z323 z324 z325 z326 z327 z328 z329 z330 z331 O1 P1 lv1 av cs1 n1 w9 hh hb1 hp1
            go_wp2_with (fail)
            go_roundg (xs.length - (i + 1))
            case measure => have := HI.out; have := HLT.out; omega
            case rel => exact ⟨i + 1, n1, lv1, O1, P1, cs1, rfl, by first | rfl | (rw [wrap_id (by omega) (by have := HLT.out; have := HLEN.out; omega)]; rfl), ⟨by have := HLT.out; omega, rfl, by have := hh.out.1; have := HI.out.2.2.1; omega, hh.out.2⟩, hb1, hp1⟩
    · have k4 : decide ((i : Int) < (xs.length : Int)) = false := decide_eq_false (by omega)
      have k5 : decide (i < xs.length) = false := decide_eq_false hi
      clear hi HI
      obtain ⟨Aa, ca, rfl, _, _⟩ := HP1.out.form
      have HLC := Lib.hid (show cs.length ≤ 40 by have := HI0.out; have := HLEN.out; omega)
      go_wp2_with (fail)
      exact HK6.out _ _ (tail _ _ _ _ _ _ _ _ _ _ _ _ _ _ _ _ _ _ _ _ _ _ _ _ _ _ _ _ _ _ _ _ _ _ _ _ _ _ _ _ _ _ _ _ _ _ _ _ _ _ _ _ _ _ _ _ _ _ _ _ _ _ _ _ _ _ _ _ _ _ _ _ _ _ _ _ _ _ _ _ _ _ _ _ _ _ _ _ _ _ _ _ _ _ _ _ _ _ _ _ _ _ _ _ _ _ _ _ _ _ _ _ _ _ _ _ _ _ _ _ _ _ _ _ _ _ _ _ _ _ _ _ _ _ _ _ _ _ _ _ _ _ _ _ _ _ _ _ _ _ _ _ _ _ _ _ _ _ _ _ _ _ _ _ _ _ _ _ _ _ _ _ _ _ _ _ _ _ _ _ _ _ _ _ _ _ _ _ _ _ _ _ _ _ _ _ _ _ _ _ _ _ _ _ _ _ _ _ _ _ _ _ _ _ _ _ _ _ _ _ _ _ _ _ _ _ _ _ _ _ _ _ _ _ _ _ _ _ _ _ _ _ _ _ _ _ _ _ _ _ _ _ _ _ _ _ _ _ _ _ _ _ _ _ _ _ _ _ _ _ _ _ _ _ _ _ _ _ _ _ _ _ _ _ _ _ _ _ _ _ _ _ _ _ _ _ _ _ _ _ _ _ _ _ _ _ _ _ _ _ _ _ _ _ _ _ _ _ _ _ _ _ _ _ _ _ _ _ _ _ _ _ _ _ _ _ _ _ _ _ _ _ _ _ _ _ _ _ _ _ _ _ _ _ _ _ _ _ _ _ _ _ _ _ _ _ _ _ _ _ _ _ _ _ _ _ _ _ _ _ _ _ _ _ _ _ _ _ _ _ _ _ _ _ _ _ _ _ _ _ _ _ _ _ _ _ _ _ _ _ _ _ _ _ _ w wr g O P lv _ ca cs n HLC.out HB.out HP1.out)
end Go.Proofs.Ytefgfnhhoidbdaa.HpW
