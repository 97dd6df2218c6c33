/- As many objects, cells, bytes as may be, and one more: the law HeapFull, walked. -/
import Derived.Test.YtefgfnhhoidbdaaHeapW9
namespace Go.Proofs.Ytefgfnhhoidbdaa.HpW
open Go.RowKit Go.Proofs.YtefgfnhhoidbdaaW.PrintWords Go.Proofs.YtefgfnhhoidbdaaW.PrintLast Go.Proofs.Ytefgfnhhoidbdaa.H
set_option linter.unusedVariables false
set_option linter.unusedSimpArgs false
abbrev oc : S105 := ⟨⟨#[65]⟩, z59, false, []⟩
abbrev tI : S59 := ⟨1, ⟨#[]⟩, 0, ⟨#[32]⟩⟩
/-- The objects of a heap to which i were to be added. -/
def fullC (i : Nat) : List S105 := List.replicate (min i 4096) oc
theorem fullC_len (i : Nat) : (fullC i).length = min i 4096 := List.length_replicate
theorem fullC_more {i : Nat} (h : i < 4096) : fullC i ++ [oc] = fullC (i + 1) := by
  unfold fullC
  rw [Nat.min_eq_left (by omega), Nat.min_eq_left (by omega), List.replicate_succ']
theorem fullC_same {i : Nat} (h : ¬ i < 4096) : fullC i = fullC (i + 1) := by
  unfold fullC
  rw [Nat.min_eq_right (by omega), Nat.min_eq_right (by omega)]
theorem C_nil (w : World) : Kd.C k59 w none 0 [] := by
  obtain ⟨A, c, e, _, h⟩ := Kd.S_reads (Kd.S_nil k59 59 w 0 (fun _ => True))
  injection e with e
  subst e
  exact h
/-- One object more, where there is room, and where there is none. -/
theorem full_obj {g B i : Nat} {O : Nat → Prop} {lv : Value} (w : World) (h : HP g B O lv (fullC i) 0 w) : Calls Try.prog 25 #[.pointer (some ⟨g, 0, none⟩), .string ⟨#[65]⟩, .slice none 0 0] w fun e w' => ∃ v : S61, e = .returned (.tuple #[vV v, .int .i64 (if i < 4096 then 0 else 2)]) ∧ ∃ lv' O', HP g B O' lv' (fullC (i + 1)) 0 w' ∧ Keeps B O w w' ∧ ∀ k, O' k → O k ∨ w.heap.size ≤ k := by
  have hl := fullC_len i
  by_cases hi : i < 4096
  · refine (object_ok ⟨#[65]⟩ none 0 [] w h (C_nil w) (by intro t ht; cases ht) (by decide) (by decide) (by omega) (by unfold roomB; rw [hl]; simp; omega)).mono ?_
    rintro e w' ⟨rfl, lv', O', hp, hk, hs⟩
    refine ⟨⟨5, _, ⟨#[]⟩⟩, by rw [if_pos hi], lv', O', ?_, hk, hs⟩
    rw [← fullC_more hi]
    exact hp
  · refine (object_no ⟨#[65]⟩ none 0 [] w h (C_nil w) (by intro t ht; cases ht) (by decide) (by decide) (by omega) (by unfold roomB; rw [hl]; simp; omega)).mono ?_
    rintro e w' ⟨rfl, hb⟩
    refine ⟨⟨0, 0, ⟨#[]⟩⟩, by rw [if_neg hi], lv, O, ?_, Keeps.of_below hb (Nat.le_trans h.le (Nat.le_of_lt (blk_lt h.bk))), fun k hk => .inl hk⟩
    rw [← fullC_same hi]
    exact h.below hb
/-- An array more, of whole numbers. -/
theorem full_arr {g B : Nat} {O : Nat → Prop} {lv : Value} {cs : List S105} {n : Int} (q : Int) (w : World) (h : HP g B O lv cs n w) (h0 : 0 ≤ q) (hn : 0 ≤ n ∧ n ≤ 65536) (hl : cs.length < 4096) : Calls Try.prog 28 #[.pointer (some ⟨g, 0, none⟩), .agg #[.int .i64 1, .string ⟨#[]⟩, .int .i64 0, .string ⟨#[32]⟩], .int .i64 q] w fun e w' => ∃ v : S61, e = .returned (.tuple #[vV v, .int .i64 (if n + q ≤ 65536 then 0 else 2)]) ∧ ∃ lv' O' cs', HP g B O' lv' cs' (if n + q ≤ 65536 then n + q else n) w' ∧ cs'.length ≤ cs.length + 1 ∧ Keeps B O w w' ∧ ∀ k, O' k → O k ∨ w.heap.size ≤ k := by
  have hm : tI.f3.size ≤ 1000000000 := by decide
  by_cases hq : n + q ≤ 65536
  · refine (array_ok tI q w h hm (by omega) (by omega) h0 (by omega) (by unfold roomB; simp; omega)).mono ?_
    rintro e w' ⟨rfl, lv', O', hp, hk, hs⟩
    refine ⟨⟨5, _, ⟨#[]⟩⟩, by rw [if_pos hq], lv', O', _, by rw [if_pos hq]; exact hp, by rw [List.length_append]; simp, hk, hs⟩
  · have fin : ∀ w', Below w.heap.size w w' → ∃ lv' O' cs', HP g B O' lv' cs' (if n + q ≤ 65536 then n + q else n) w' ∧ cs'.length ≤ cs.length + 1 ∧ Keeps B O w w' ∧ ∀ k, O' k → O k ∨ w.heap.size ≤ k := fun w' hb =>
      ⟨lv, O, cs, by rw [if_neg hq]; exact h.below hb, by omega, Keeps.of_below hb (Nat.le_trans h.le (Nat.le_of_lt (blk_lt h.bk))), fun k hk => .inl hk⟩
    by_cases hb : 65536 < q
    · refine (array_big tI q w h hm (by omega) (by omega) hb).mono ?_
      rintro e w' ⟨rfl, hb⟩
      exact ⟨⟨0, 0, ⟨#[]⟩⟩, by rw [if_neg hq], fin w' hb⟩
    · refine (array_no tI q w h hm (by omega) (by omega) h0 (by omega) (by unfold roomB; simp; omega)).mono ?_
      rintro e w' ⟨rfl, hb⟩
      exact ⟨⟨0, 0, ⟨#[]⟩⟩, by rw [if_neg hq], fin w' hb⟩
theorem full_obj' {g B i : Nat} {O : Nat → Prop} {lv : Value} (code : Int) (w : World) (h : HP g B O lv (fullC i) 0 w) (hc : (if i < 4096 then (0 : Int) else 2) = code) : Calls Try.prog 25 #[.pointer (some ⟨g, 0, none⟩), .string ⟨#[65]⟩, .slice none 0 0] w fun e w' => ∃ v : S61, e = .returned (.tuple #[vV v, .int .i64 code]) ∧ ∃ lv' O', HP g B O' lv' (fullC (i + 1)) 0 w' ∧ Keeps B O w w' ∧ ∀ k, O' k → O k ∨ w.heap.size ≤ k := by
  subst hc
  exact full_obj w h
theorem full_arr' {g B : Nat} {O : Nat → Prop} {lv : Value} {cs : List S105} {n : Int} (q code n' : Int) (w : World) (h : HP g B O lv cs n w) (h0 : 0 ≤ q) (hn : 0 ≤ n ∧ n ≤ 65536) (hl : cs.length ≤ 10) (hc : (if n + q ≤ 65536 then (0 : Int) else 2) = code) (hc2 : (if n + q ≤ 65536 then n + q else n) = n') : Calls Try.prog 28 #[.pointer (some ⟨g, 0, none⟩), .agg #[.int .i64 1, .string ⟨#[]⟩, .int .i64 0, .string ⟨#[32]⟩], .int .i64 q] w fun e w' => ∃ v : S61, e = .returned (.tuple #[vV v, .int .i64 code]) ∧ ∃ lv' O' cs', HP g B O' lv' cs' n' w' ∧ cs'.length ≤ cs.length + 1 ∧ Keeps B O w w' ∧ ∀ k, O' k → O k ∨ w.heap.size ≤ k := by
  subst hc
  subst hc2
  exact full_arr q w h h0 hn (by omega)
theorem join_is (a b : ByteArray) (r : ByteArray) (code : Int) (w : World) (ha : a.size ≤ 100000) (hb : b.size ≤ 100000) (h : joinV a b = (r, code)) : Calls Try.prog 36 #[.string a, .string b] w fun e w' => e = .returned (.tuple #[.string r, .int .i64 code]) ∧ Below w.heap.size w w' := by
  have h1 := join_any a b w ha hb
  rw [h] at h1
  exact h1
theorem info5 : (Try.prog.info? 5).map (fun i => (i.zero, i.size, i.bytes)) = some (some (.int .u8 0), 1, 1) := by kernel_rfl
set_option maxHeartbeats 32000000 in
set_option maxRecDepth 100000 in
theorem full_out (a b c : Int) (w : World) (h : a < 0 ∨ 4200 < a ∨ b < 0 ∨ 70000 < b ∨ c < 0 ∨ 2000 < c) : Calls Try.prog 8 #[.int .i64 a, .int .i64 b, .int .i64 c] w fun e w' => e = .returned (.bool true) ∧ Below w.heap.size w w' := by
  have HB := Aside0.mk (Below.refl w.heap.size w)
  have tok_k : True := trivial
  by_cases h0 : a < 0
  · have k0 : decide (a < 0) = true := decide_eq_true h0
    clear h
    go_enter Try.func8, Try.ntmps8
    go_wp2_with (first | (clear tok_k; go_at_call 24; (with_reducible refine (keeps_any _).mono ?_); rintro e w1 ⟨rfl, hb⟩; replace HB := pxs HB hb; clear hb))
    go_ret
    exact ⟨rfl, pxb HB⟩
  · have k0 : decide (a < 0) = false := decide_eq_false h0
    by_cases h1 : 4200 < a
    · have k1 : decide (4200 < a) = true := decide_eq_true h1
      clear h
      go_enter Try.func8, Try.ntmps8
      go_wp2_with (first | (clear tok_k; go_at_call 24; (with_reducible refine (keeps_any _).mono ?_); rintro e w1 ⟨rfl, hb⟩; replace HB := pxs HB hb; clear hb))
      go_ret
      exact ⟨rfl, pxb HB⟩
    · have k1 : decide (4200 < a) = false := decide_eq_false h1
      by_cases h2 : b < 0
      · have k2 : decide (b < 0) = true := decide_eq_true h2
        clear h
        go_enter Try.func8, Try.ntmps8
        go_wp2_with (first | (clear tok_k; go_at_call 24; (with_reducible refine (keeps_any _).mono ?_); rintro e w1 ⟨rfl, hb⟩; replace HB := pxs HB hb; clear hb))
        go_ret
        exact ⟨rfl, pxb HB⟩
      · have k2 : decide (b < 0) = false := decide_eq_false h2
        by_cases h3 : 70000 < b
        · have k3 : decide (70000 < b) = true := decide_eq_true h3
          clear h
          go_enter Try.func8, Try.ntmps8
          go_wp2_with (first | (clear tok_k; go_at_call 24; (with_reducible refine (keeps_any _).mono ?_); rintro e w1 ⟨rfl, hb⟩; replace HB := pxs HB hb; clear hb))
          go_ret
          exact ⟨rfl, pxb HB⟩
        · have k3 : decide (70000 < b) = false := decide_eq_false h3
          by_cases h4 : c < 0
          · have k4 : decide (c < 0) = true := decide_eq_true h4
            clear h
            go_enter Try.func8, Try.ntmps8
            go_wp2_with (first | (clear tok_k; go_at_call 24; (with_reducible refine (keeps_any _).mono ?_); rintro e w1 ⟨rfl, hb⟩; replace HB := pxs HB hb; clear hb))
            go_ret
            exact ⟨rfl, pxb HB⟩
          · have k4 : decide (c < 0) = false := decide_eq_false h4
            have k5 : decide (2000 < c) = true := decide_eq_true (by omega)
            clear h
            go_enter Try.func8, Try.ntmps8
            go_wp2_with (first | (clear tok_k; go_at_call 24; (with_reducible refine (keeps_any _).mono ?_); rintro e w1 ⟨rfl, hb⟩; replace HB := pxs HB hb; clear hb))
            go_ret
            exact ⟨rfl, pxb HB⟩
set_option maxHeartbeats 32000000 in
set_option maxRecDepth 100000 in
theorem full_in (N M T : Nat) (w : World) (hN : N ≤ 4200) (hM : M ≤ 70000) (hT : T ≤ 2000) : Calls Try.prog 8 #[.int .i64 (N : Int), .int .i64 (M : Int), .int .i64 (T : Int)] w fun e w' => e = .returned (.bool true) ∧ Below w.heap.size w w' := by
  have HB := Aside0.mk (Below.refl w.heap.size w)
  have HN := Lib.hid hN
  have HM := Lib.hid hM
  have HT := Lib.hid hT
  have a0 : decide ((N : Int) < 0) = false := decide_eq_false (by omega)
  have a1 : decide (4200 < (N : Int)) = false := decide_eq_false (by omega)
  have a2 : decide ((M : Int) < 0) = false := decide_eq_false (by omega)
  have a3 : decide (70000 < (M : Int)) = false := decide_eq_false (by omega)
  have a4 : decide ((T : Int) < 0) = false := decide_eq_false (by omega)
  have a5 : decide (2000 < (T : Int)) = false := decide_eq_false (by omega)
  have b1 : decide (4200 < N) = false := decide_eq_false (by omega)
  have b3 : decide (70000 < M) = false := decide_eq_false (by omega)
  have b5 : decide (2000 < T) = false := decide_eq_false (by omega)
  clear hN hM hT
  have tok_k : True := trivial
  go_enter Try.func8, Try.ntmps8
  go_upto_region 7 with (first | (clear tok_k; go_at_call 24; (with_reducible refine (keeps_any _).mono ?_); rintro e w1 ⟨rfl, hb⟩; replace HB := pxs HB hb; clear hb) | ((with_reducible refine gate_dst (N := 7) rfl ?_); refine box_event ?hg (N := 7) ?hd (cs := #[.slice none 0 0, .int .i64 0]) (t := 55) ?hr ?_; (case hd => rfl); (case hg => rfl); (case hr => first | (go_simp; done) | (go_simp; rfl)); intro g hg w2 hbox hb; have NWGB := Aside0.mk hbox; have GWGB := Aside0.mk ((by rw [hg]; exact (below_size (pxb HB)) : w.heap.size ≤ g)); clear hg hbox; have n0_ := pxs HB hb; clear HB ; have HB := n0_; clear n0_; have GB := NWGB; clear NWGB hb; obtain ⟨xGB0, xGB1, yGB0, yGB1⟩ := pxf2 GB))
  go_loopg [46] N (fun kq v46 w' => ∃ (i : Nat) (lv : Value) (O : Nat → Prop), v46 = .int .i64 i ∧ Hid (i ≤ N ∧ kq = N - i) ∧ Aside0 (Below w.heap.size w w') ∧ Aside0 (HP g w.heap.size O lv (fullC i) 0 w'))
  case atStart => exact ⟨0, _, _, rfl, ⟨Nat.zero_le _, rfl⟩, ⟨pxb HB⟩, ⟨HP.init (pxp GB) GWGB.out⟩⟩
  case round =>
    clear HB GB xGB0 xGB1 yGB0 yGB1
    obtain ⟨i, lv, O, rfl, HI, HB, HP1⟩ := hrel
    by_cases hi : i < N
    · have HLT := Lib.hid hi
      have k4 : decide ((i : Int) < (N : Int)) = true := decide_eq_true (by omega)
      have k5 : decide (i < N) = true := decide_eq_true hi
      clear hi
      have tok_o : True := trivial
      by_cases hf : i < 4096
      · have k6 : decide ((i : Int) < 4096) = true := decide_eq_true (by omega)
        have k7 : decide (i < 4096) = true := decide_eq_true hf
        have hc : (if i < 4096 then (0 : Int) else 2) = 0 := if_pos hf
        clear hf
        go_wp2_with (first | (clear tok_o; go_at_call 25; (with_reducible refine (full_obj' 0 _ HP1.out hc).mono ?_); rintro e w3 ⟨vv, rfl, lv', O', hp, hk, hs⟩; have nHB := Aside0.mk ((pxb HB).trans hk.1); have HP2 := Aside0.mk hp; have HX := Aside0.mk (Below.refl w3.heap.size w3); clear HB HP1 hp hk hs; have HB := nHB; clear nHB) | ((with_reducible refine gate_dst (N := 9) rfl ?_); refine box_event ?hg (N := 9) ?hd (cs := #[.int .i64 0, .int .i64 0, .string ⟨#[]⟩]) (t := 61) ?hr ?_; (case hd => rfl); (case hg => rfl); (case hr => first | (go_simp; done) | (go_simp; rfl)); intro gs hg w4 hbox hb; have NWSB := Aside0.mk hbox; have GWSB := Aside0.mk ((by rw [hg]; exact (below_size (pxb HB)) : w.heap.size ≤ gs)); have GWHXSB := Aside0.mk ((by rw [hg]; exact (below_size (pxb HX))) : w3.heap.size ≤ gs); clear hg hbox; have n0_ := pxs HB hb; have nHX_ := pxs HX hb; clear HB HX ; have HB := n0_; clear n0_; have HX := nHX_; clear nHX_; have SB := NWSB; clear NWSB hb; obtain ⟨xSB0, xSB1, xSB2, ySB0, ySB1, ySB2⟩ := pxf3 SB; have hgSB := GWSB.out; have hxSB := GWHXSB.out))
        go_roundg (N - (i + 1))
        case measure => have := HI.out; have := HLT.out; omega
        case rel => exact ⟨i + 1, _, _, by first | rfl | (rw [wrap_id (by omega) (by have := HLT.out; have := HN.out; omega)]; rfl), ⟨by have := HLT.out; omega, rfl⟩, ⟨pxb HB⟩, ⟨HP2.out.below (pxb HX)⟩⟩
      · have k6 : decide ((i : Int) < 4096) = false := decide_eq_false (by omega)
        have k7 : decide (i < 4096) = false := decide_eq_false hf
        have hc : (if i < 4096 then (0 : Int) else 2) = 2 := if_neg hf
        clear hf
        go_wp2_with (first | (clear tok_o; go_at_call 25; (with_reducible refine (full_obj' 2 _ HP1.out hc).mono ?_); rintro e w3 ⟨vv, rfl, lv', O', hp, hk, hs⟩; have nHB := Aside0.mk ((pxb HB).trans hk.1); have HP2 := Aside0.mk hp; have HX := Aside0.mk (Below.refl w3.heap.size w3); clear HB HP1 hp hk hs; have HB := nHB; clear nHB) | ((with_reducible refine gate_dst (N := 9) rfl ?_); refine box_event ?hg (N := 9) ?hd (cs := #[.int .i64 0, .int .i64 0, .string ⟨#[]⟩]) (t := 61) ?hr ?_; (case hd => rfl); (case hg => rfl); (case hr => first | (go_simp; done) | (go_simp; rfl)); intro gs hg w4 hbox hb; have NWSB := Aside0.mk hbox; have GWSB := Aside0.mk ((by rw [hg]; exact (below_size (pxb HB)) : w.heap.size ≤ gs)); have GWHXSB := Aside0.mk ((by rw [hg]; exact (below_size (pxb HX))) : w3.heap.size ≤ gs); clear hg hbox; have n0_ := pxs HB hb; have nHX_ := pxs HX hb; clear HB HX ; have HB := n0_; clear n0_; have HX := nHX_; clear nHX_; have SB := NWSB; clear NWSB hb; obtain ⟨xSB0, xSB1, xSB2, ySB0, ySB1, ySB2⟩ := pxf3 SB; have hgSB := GWSB.out; have hxSB := GWHXSB.out))
        go_roundg (N - (i + 1))
        case measure => have := HI.out; have := HLT.out; omega
        case rel => exact ⟨i + 1, _, _, by first | rfl | (rw [wrap_id (by omega) (by have := HLT.out; have := HN.out; omega)]; rfl), ⟨by have := HLT.out; omega, rfl⟩, ⟨pxb HB⟩, ⟨HP2.out.below (pxb HX)⟩⟩
    · have k4 : decide ((i : Int) < (N : Int)) = false := decide_eq_false (by omega)
      have k5 : decide (i < N) = false := decide_eq_false hi
      clear hi HI HP1
      obtain ⟨sT, hst⟩ : ∃ sT, strOfNums (List.replicate T (0 : Int)) = sT := ⟨_, rfl⟩
      have hsz : sT.size = T := by rw [← hst, strOfNums_size, List.length_replicate]
      have hST := Aside0.mk hst
      have HSZ := Lib.hid (show sT.size ≤ 100000 by have := HT.out; omega)
      have pA : (sT.size + (⟨#[120]⟩ : ByteArray).size ≤ 9223372036854775807) = True := eq_true (by have e : (⟨#[120]⟩ : ByteArray).size = 1 := rfl; have := HT.out; omega)
      have pA2 : (sT.size + 1 ≤ 9223372036854775807) = True := eq_true (by have := HT.out; omega)
      have pB : (sT.size + sT.size ≤ 9223372036854775807) = True := eq_true (by have := HT.out; omega)
      have e1 : (⟨#[120]⟩ : ByteArray).size = 1 := rfl
      have w2 : wrap64 (2 * (T : Int)) = 2 * (T : Int) := wrap_id (by omega) (by have := HT.out; omega)
      have tok_a : True := trivial
      have tok_b : True := trivial
      have tok_j1 : True := trivial
      have tok_j2 : True := trivial
      by_cases m1 : M < 65536
      · skip
        by_cases t0 : 2 * T ≤ 1024
        · have f1 : decide ((M : Int) ≤ 65536) = true := decide_eq_true (by omega)
          have f2 : decide (M ≤ 65536) = true := decide_eq_true (by omega)
          have f3 : ((M : Int) < 65536) = True := eq_true (by omega)
          have f4 : decide (M < 65536) = true := decide_eq_true (by omega)
          have hc1 : (if (0 : Int) + (M : Int) ≤ 65536 then (0 : Int) else 2) = 0 := if_pos (by omega)
          have hn1 : (if (0 : Int) + (M : Int) ≤ 65536 then (0 : Int) + (M : Int) else 0) = (M : Int) := by rw [if_pos (by omega)]; omega
          have hc2 : (if (M : Int) + 1 ≤ 65536 then (0 : Int) else 2) = 0 := if_pos (by omega)
          have t1 : decide ((T : Int) < 1024) = true := decide_eq_true (by omega)
          have t2 : decide (T < 1024) = true := decide_eq_true (by omega)
          have t3 : decide (wrap64 (2 * (T : Int)) ≤ 1024) = true := decide_eq_true (by omega)
          have t4 : decide (2 * (T : Int) ≤ 1024) = true := decide_eq_true (by omega)
          have t5 : decide (2 * T ≤ 1024) = true := decide_eq_true (by omega)
          have hj1 : joinV sT ⟨#[120]⟩ = (sT ++ ⟨#[120]⟩, 0) := if_pos (by omega)
          have hj2 : joinV sT sT = (sT ++ sT, 0) := if_pos (by omega)
          have HMM := Lib.hid m1
          clear m1
          have HC1 := Aside0.mk hc1
          have HN1 := Aside0.mk hn1
          have HC2 := Aside0.mk hc2
          have HJ1 := Aside0.mk hj1
          have HJ2 := Aside0.mk hj2
          clear hsz w2 hc1 hn1 hc2 hj1 hj2 hst e1
          go_wp2_with (first | ((with_reducible refine gate_dst (N := 11) rfl ?_); refine box_event ?hg (N := 11) ?hd (cs := #[.slice none 0 0, .int .i64 0]) (t := 55) ?hr ?_; (case hd => rfl); (case hg => rfl); (case hr => first | (go_simp; done) | (go_simp; rfl)); intro h hg w5 hbox hb; have NWGH := Aside0.mk hbox; have GWGH := Aside0.mk ((by rw [hg]; exact (below_size (pxb HB)) : w.heap.size ≤ h)); clear hg hbox; have n0_ := pxs HB hb; clear HB ; have HB := n0_; clear n0_; have GH := NWGH; clear NWGH hb; obtain ⟨xGH0, xGH1, yGH0, yGH1⟩ := pxf2 GH; have HPa := Aside0.mk (HP.init (B := w.heap.size) (pxp GH) GWGH.out); have HX := Aside0.mk (Below.refl w5.heap.size w5); clear GH xGH0 xGH1 yGH0 yGH1) | (clear tok_a; go_at_call 28; (with_reducible refine (full_arr' (M : Int) 0 (M : Int) _ (HPa.out.below (pxb HX)) (by omega) ⟨by decide, by decide⟩ (by decide) HC1.out HN1.out).mono ?_); rintro e w6 ⟨va, rfl, lva, Oa, csa, hp, hlen, hk, hs⟩; have nHB := Aside0.mk ((pxb HB).trans hk.1); have HPb := Aside0.mk hp; have HLENa := Lib.hid hlen; clear HB hp hlen hk hs HX; have HB := nHB; clear nHB; have HX := Aside0.mk (Below.refl w6.heap.size w6)) | ((with_reducible refine gate_dst (N := 12) rfl ?_); refine box_event ?hg (N := 12) ?hd (cs := #[.int .i64 0, .int .i64 0, .string ⟨#[]⟩]) (t := 61) ?hr ?_; (case hd => rfl); (case hg => rfl); (case hr => first | (go_simp; done) | (go_simp; rfl)); intro gc hg w7 hbox hb; have NWSC := Aside0.mk hbox; have GWSC := Aside0.mk ((by rw [hg]; exact (below_size (pxb HB)) : w.heap.size ≤ gc)); have GWHXSC := Aside0.mk ((by rw [hg]; exact (below_size (pxb HX))) : w6.heap.size ≤ gc); clear hg hbox; have n0_ := pxs HB hb; have nHX_ := pxs HX hb; clear HB HX ; have HB := n0_; clear n0_; have HX := nHX_; clear nHX_; have SC := NWSC; clear NWSC hb; obtain ⟨xSC0, xSC1, xSC2, ySC0, ySC1, ySC2⟩ := pxf3 SC; have hgSC := GWSC.out; have hxSC := GWHXSC.out; clear SC) | (clear tok_b; go_at_call 28; (with_reducible refine (full_arr' 1 0 _ _ (HPb.out.below (pxb HX)) (by decide) (by have := HMM.out; omega) (by have := HLENa.out; simp at this; omega) HC2.out rfl).mono ?_); rintro e w8 ⟨vb, rfl, lvb, Ob, csb, hp, hlen, hk, hs⟩; have nHB := Aside0.mk ((pxb HB).trans hk.1); have HPc := Aside0.mk hp; have HLENb := Lib.hid hlen; clear HB hp hlen hk hs HX; have HB := nHB; clear nHB; have HX := Aside0.mk (Below.refl w8.heap.size w8)) | ((with_reducible refine gate_dst (N := 14) rfl ?_); refine box_event ?hg (N := 14) ?hd (cs := #[.int .i64 0, .int .i64 0, .string ⟨#[]⟩]) (t := 61) ?hr ?_; (case hd => rfl); (case hg => rfl); (case hr => first | (go_simp; done) | (go_simp; rfl)); intro gd hg w9 hbox hb; have NWSD := Aside0.mk hbox; have GWSD := Aside0.mk ((by rw [hg]; exact (below_size (pxb HB)) : w.heap.size ≤ gd)); have GWHXSD := Aside0.mk ((by rw [hg]; exact (below_size (pxb HX))) : w8.heap.size ≤ gd); clear hg hbox; have n0_ := pxs HB hb; have nHX_ := pxs HX hb; clear HB HX ; have HB := n0_; clear n0_; have HX := nHX_; clear nHX_; have SD := NWSD; clear NWSD hb; obtain ⟨xSD0, xSD1, xSD2, ySD0, ySD1, ySD2⟩ := pxf3 SD; have hgSD := GWSD.out; have hxSD := GWHXSD.out; clear SD) | ((with_reducible refine gate_dst (N := 85) rfl ?_); refine Kd.R_make (Kd.int .u8) _ 5 rfl (N := 85) rfl 80 (.tmp 84) (.tmp 84) rfl (T : Int) rfl rfl Try.underlying80 (.int .u8 0) 1 info5 rfl (by decide) (by omega) 0 (ok := fun _ => True) (okp := fun _ => True) rfl (fun _ hk => hk) trivial (by omega) (by have := HT.out; rw [Int.toNat_natCast]; omega) (Below.refl _ _) (Nat.le_refl _) ?_; intro bv w10 ho hb hg_ hnew_; clear hg_ hnew_; replace HB := pxs HB hb; clear hb; rw [Int.toNat_natCast] at ho; have hcv := own_string (P := Try.prog) (dst := 9) Try.underlying80 Try.underlying5 Try.underlying9 (Kd.own_of_R ho); obtain ⟨Ab, cb, rfl⟩ := Kd.R_slice ho; clear ho; have hsz0 := strOfNums_size (List.replicate T (0 : Int)); rw [hST.out, List.length_replicate] at hcv; clear hsz0) | (clear tok_j1; go_at_call 36; (with_reducible refine (join_is sT ⟨#[120]⟩ (sT ++ ⟨#[120]⟩) 0 _ HSZ.out (by decide) HJ1.out).mono ?_); rintro e w11 ⟨rfl, hb⟩; replace HB := pxs HB hb; clear hb) | (clear tok_j2; go_at_call 36; (with_reducible refine (join_is sT sT (sT ++ sT) 0 _ HSZ.out HSZ.out HJ2.out).mono ?_); rintro e w12 ⟨rfl, hb⟩; replace HB := pxs HB hb; clear hb))
          all_goals (try (rename_i hx_; exact absurd hx_ (by have e1 : (⟨#[120]⟩ : ByteArray).size = 1 := rfl; have := HSZ.out; omega)))
          go_ret
          exact ⟨rfl, pxb HB⟩
        · skip
          by_cases t00 : T < 1024
          · have f1 : decide ((M : Int) ≤ 65536) = true := decide_eq_true (by omega)
            have f2 : decide (M ≤ 65536) = true := decide_eq_true (by omega)
            have f3 : ((M : Int) < 65536) = True := eq_true (by omega)
            have f4 : decide (M < 65536) = true := decide_eq_true (by omega)
            have hc1 : (if (0 : Int) + (M : Int) ≤ 65536 then (0 : Int) else 2) = 0 := if_pos (by omega)
            have hn1 : (if (0 : Int) + (M : Int) ≤ 65536 then (0 : Int) + (M : Int) else 0) = (M : Int) := by rw [if_pos (by omega)]; omega
            have hc2 : (if (M : Int) + 1 ≤ 65536 then (0 : Int) else 2) = 0 := if_pos (by omega)
            have t1 : decide ((T : Int) < 1024) = true := decide_eq_true (by omega)
            have t2 : decide (T < 1024) = true := decide_eq_true (by omega)
            have t3 : decide (wrap64 (2 * (T : Int)) ≤ 1024) = false := decide_eq_false (by omega)
            have t4 : decide (2 * (T : Int) ≤ 1024) = false := decide_eq_false (by omega)
            have t5 : decide (2 * T ≤ 1024) = false := decide_eq_false (by omega)
            have hj1 : joinV sT ⟨#[120]⟩ = (sT ++ ⟨#[120]⟩, 0) := if_pos (by omega)
            have hj2 : joinV sT sT = (⟨#[]⟩, 2) := if_neg (by omega)
            have HMM := Lib.hid m1
            clear m1
            have HC1 := Aside0.mk hc1
            have HN1 := Aside0.mk hn1
            have HC2 := Aside0.mk hc2
            have HJ1 := Aside0.mk hj1
            have HJ2 := Aside0.mk hj2
            clear hsz w2 hc1 hn1 hc2 hj1 hj2 hst e1
            go_wp2_with (first | ((with_reducible refine gate_dst (N := 11) rfl ?_); refine box_event ?hg (N := 11) ?hd (cs := #[.slice none 0 0, .int .i64 0]) (t := 55) ?hr ?_; (case hd => rfl); (case hg => rfl); (case hr => first | (go_simp; done) | (go_simp; rfl)); intro h hg w5 hbox hb; have NWGH := Aside0.mk hbox; have GWGH := Aside0.mk ((by rw [hg]; exact (below_size (pxb HB)) : w.heap.size ≤ h)); clear hg hbox; have n0_ := pxs HB hb; clear HB ; have HB := n0_; clear n0_; have GH := NWGH; clear NWGH hb; obtain ⟨xGH0, xGH1, yGH0, yGH1⟩ := pxf2 GH; have HPa := Aside0.mk (HP.init (B := w.heap.size) (pxp GH) GWGH.out); have HX := Aside0.mk (Below.refl w5.heap.size w5); clear GH xGH0 xGH1 yGH0 yGH1) | (clear tok_a; go_at_call 28; (with_reducible refine (full_arr' (M : Int) 0 (M : Int) _ (HPa.out.below (pxb HX)) (by omega) ⟨by decide, by decide⟩ (by decide) HC1.out HN1.out).mono ?_); rintro e w6 ⟨va, rfl, lva, Oa, csa, hp, hlen, hk, hs⟩; have nHB := Aside0.mk ((pxb HB).trans hk.1); have HPb := Aside0.mk hp; have HLENa := Lib.hid hlen; clear HB hp hlen hk hs HX; have HB := nHB; clear nHB; have HX := Aside0.mk (Below.refl w6.heap.size w6)) | ((with_reducible refine gate_dst (N := 12) rfl ?_); refine box_event ?hg (N := 12) ?hd (cs := #[.int .i64 0, .int .i64 0, .string ⟨#[]⟩]) (t := 61) ?hr ?_; (case hd => rfl); (case hg => rfl); (case hr => first | (go_simp; done) | (go_simp; rfl)); intro gc hg w7 hbox hb; have NWSC := Aside0.mk hbox; have GWSC := Aside0.mk ((by rw [hg]; exact (below_size (pxb HB)) : w.heap.size ≤ gc)); have GWHXSC := Aside0.mk ((by rw [hg]; exact (below_size (pxb HX))) : w6.heap.size ≤ gc); clear hg hbox; have n0_ := pxs HB hb; have nHX_ := pxs HX hb; clear HB HX ; have HB := n0_; clear n0_; have HX := nHX_; clear nHX_; have SC := NWSC; clear NWSC hb; obtain ⟨xSC0, xSC1, xSC2, ySC0, ySC1, ySC2⟩ := pxf3 SC; have hgSC := GWSC.out; have hxSC := GWHXSC.out; clear SC) | (clear tok_b; go_at_call 28; (with_reducible refine (full_arr' 1 0 _ _ (HPb.out.below (pxb HX)) (by decide) (by have := HMM.out; omega) (by have := HLENa.out; simp at this; omega) HC2.out rfl).mono ?_); rintro e w8 ⟨vb, rfl, lvb, Ob, csb, hp, hlen, hk, hs⟩; have nHB := Aside0.mk ((pxb HB).trans hk.1); have HPc := Aside0.mk hp; have HLENb := Lib.hid hlen; clear HB hp hlen hk hs HX; have HB := nHB; clear nHB; have HX := Aside0.mk (Below.refl w8.heap.size w8)) | ((with_reducible refine gate_dst (N := 14) rfl ?_); refine box_event ?hg (N := 14) ?hd (cs := #[.int .i64 0, .int .i64 0, .string ⟨#[]⟩]) (t := 61) ?hr ?_; (case hd => rfl); (case hg => rfl); (case hr => first | (go_simp; done) | (go_simp; rfl)); intro gd hg w9 hbox hb; have NWSD := Aside0.mk hbox; have GWSD := Aside0.mk ((by rw [hg]; exact (below_size (pxb HB)) : w.heap.size ≤ gd)); have GWHXSD := Aside0.mk ((by rw [hg]; exact (below_size (pxb HX))) : w8.heap.size ≤ gd); clear hg hbox; have n0_ := pxs HB hb; have nHX_ := pxs HX hb; clear HB HX ; have HB := n0_; clear n0_; have HX := nHX_; clear nHX_; have SD := NWSD; clear NWSD hb; obtain ⟨xSD0, xSD1, xSD2, ySD0, ySD1, ySD2⟩ := pxf3 SD; have hgSD := GWSD.out; have hxSD := GWHXSD.out; clear SD) | ((with_reducible refine gate_dst (N := 85) rfl ?_); refine Kd.R_make (Kd.int .u8) _ 5 rfl (N := 85) rfl 80 (.tmp 84) (.tmp 84) rfl (T : Int) rfl rfl Try.underlying80 (.int .u8 0) 1 info5 rfl (by decide) (by omega) 0 (ok := fun _ => True) (okp := fun _ => True) rfl (fun _ hk => hk) trivial (by omega) (by have := HT.out; rw [Int.toNat_natCast]; omega) (Below.refl _ _) (Nat.le_refl _) ?_; intro bv w10 ho hb hg_ hnew_; clear hg_ hnew_; replace HB := pxs HB hb; clear hb; rw [Int.toNat_natCast] at ho; have hcv := own_string (P := Try.prog) (dst := 9) Try.underlying80 Try.underlying5 Try.underlying9 (Kd.own_of_R ho); obtain ⟨Ab, cb, rfl⟩ := Kd.R_slice ho; clear ho; have hsz0 := strOfNums_size (List.replicate T (0 : Int)); rw [hST.out, List.length_replicate] at hcv; clear hsz0) | (clear tok_j1; go_at_call 36; (with_reducible refine (join_is sT ⟨#[120]⟩ (sT ++ ⟨#[120]⟩) 0 _ HSZ.out (by decide) HJ1.out).mono ?_); rintro e w11 ⟨rfl, hb⟩; replace HB := pxs HB hb; clear hb) | (clear tok_j2; go_at_call 36; (with_reducible refine (join_is sT sT ⟨#[]⟩ 2 _ HSZ.out HSZ.out HJ2.out).mono ?_); rintro e w12 ⟨rfl, hb⟩; replace HB := pxs HB hb; clear hb))
            all_goals (try (rename_i hx_; exact absurd hx_ (by have e1 : (⟨#[120]⟩ : ByteArray).size = 1 := rfl; have := HSZ.out; omega)))
            go_ret
            exact ⟨rfl, pxb HB⟩
          · skip
            have f1 : decide ((M : Int) ≤ 65536) = true := decide_eq_true (by omega)
            have f2 : decide (M ≤ 65536) = true := decide_eq_true (by omega)
            have f3 : ((M : Int) < 65536) = True := eq_true (by omega)
            have f4 : decide (M < 65536) = true := decide_eq_true (by omega)
            have hc1 : (if (0 : Int) + (M : Int) ≤ 65536 then (0 : Int) else 2) = 0 := if_pos (by omega)
            have hn1 : (if (0 : Int) + (M : Int) ≤ 65536 then (0 : Int) + (M : Int) else 0) = (M : Int) := by rw [if_pos (by omega)]; omega
            have hc2 : (if (M : Int) + 1 ≤ 65536 then (0 : Int) else 2) = 0 := if_pos (by omega)
            have t1 : decide ((T : Int) < 1024) = false := decide_eq_false (by omega)
            have t2 : decide (T < 1024) = false := decide_eq_false (by omega)
            have t3 : decide (wrap64 (2 * (T : Int)) ≤ 1024) = false := decide_eq_false (by omega)
            have t4 : decide (2 * (T : Int) ≤ 1024) = false := decide_eq_false (by omega)
            have t5 : decide (2 * T ≤ 1024) = false := decide_eq_false (by omega)
            have hj1 : joinV sT ⟨#[120]⟩ = (⟨#[]⟩, 2) := if_neg (by omega)
            have hj2 : joinV sT sT = (⟨#[]⟩, 2) := if_neg (by omega)
            have HMM := Lib.hid m1
            clear m1
            have HC1 := Aside0.mk hc1
            have HN1 := Aside0.mk hn1
            have HC2 := Aside0.mk hc2
            have HJ1 := Aside0.mk hj1
            have HJ2 := Aside0.mk hj2
            clear hsz w2 hc1 hn1 hc2 hj1 hj2 hst e1
            go_wp2_with (first | ((with_reducible refine gate_dst (N := 11) rfl ?_); refine box_event ?hg (N := 11) ?hd (cs := #[.slice none 0 0, .int .i64 0]) (t := 55) ?hr ?_; (case hd => rfl); (case hg => rfl); (case hr => first | (go_simp; done) | (go_simp; rfl)); intro h hg w5 hbox hb; have NWGH := Aside0.mk hbox; have GWGH := Aside0.mk ((by rw [hg]; exact (below_size (pxb HB)) : w.heap.size ≤ h)); clear hg hbox; have n0_ := pxs HB hb; clear HB ; have HB := n0_; clear n0_; have GH := NWGH; clear NWGH hb; obtain ⟨xGH0, xGH1, yGH0, yGH1⟩ := pxf2 GH; have HPa := Aside0.mk (HP.init (B := w.heap.size) (pxp GH) GWGH.out); have HX := Aside0.mk (Below.refl w5.heap.size w5); clear GH xGH0 xGH1 yGH0 yGH1) | (clear tok_a; go_at_call 28; (with_reducible refine (full_arr' (M : Int) 0 (M : Int) _ (HPa.out.below (pxb HX)) (by omega) ⟨by decide, by decide⟩ (by decide) HC1.out HN1.out).mono ?_); rintro e w6 ⟨va, rfl, lva, Oa, csa, hp, hlen, hk, hs⟩; have nHB := Aside0.mk ((pxb HB).trans hk.1); have HPb := Aside0.mk hp; have HLENa := Lib.hid hlen; clear HB hp hlen hk hs HX; have HB := nHB; clear nHB; have HX := Aside0.mk (Below.refl w6.heap.size w6)) | ((with_reducible refine gate_dst (N := 12) rfl ?_); refine box_event ?hg (N := 12) ?hd (cs := #[.int .i64 0, .int .i64 0, .string ⟨#[]⟩]) (t := 61) ?hr ?_; (case hd => rfl); (case hg => rfl); (case hr => first | (go_simp; done) | (go_simp; rfl)); intro gc hg w7 hbox hb; have NWSC := Aside0.mk hbox; have GWSC := Aside0.mk ((by rw [hg]; exact (below_size (pxb HB)) : w.heap.size ≤ gc)); have GWHXSC := Aside0.mk ((by rw [hg]; exact (below_size (pxb HX))) : w6.heap.size ≤ gc); clear hg hbox; have n0_ := pxs HB hb; have nHX_ := pxs HX hb; clear HB HX ; have HB := n0_; clear n0_; have HX := nHX_; clear nHX_; have SC := NWSC; clear NWSC hb; obtain ⟨xSC0, xSC1, xSC2, ySC0, ySC1, ySC2⟩ := pxf3 SC; have hgSC := GWSC.out; have hxSC := GWHXSC.out; clear SC) | (clear tok_b; go_at_call 28; (with_reducible refine (full_arr' 1 0 _ _ (HPb.out.below (pxb HX)) (by decide) (by have := HMM.out; omega) (by have := HLENa.out; simp at this; omega) HC2.out rfl).mono ?_); rintro e w8 ⟨vb, rfl, lvb, Ob, csb, hp, hlen, hk, hs⟩; have nHB := Aside0.mk ((pxb HB).trans hk.1); have HPc := Aside0.mk hp; have HLENb := Lib.hid hlen; clear HB hp hlen hk hs HX; have HB := nHB; clear nHB; have HX := Aside0.mk (Below.refl w8.heap.size w8)) | ((with_reducible refine gate_dst (N := 14) rfl ?_); refine box_event ?hg (N := 14) ?hd (cs := #[.int .i64 0, .int .i64 0, .string ⟨#[]⟩]) (t := 61) ?hr ?_; (case hd => rfl); (case hg => rfl); (case hr => first | (go_simp; done) | (go_simp; rfl)); intro gd hg w9 hbox hb; have NWSD := Aside0.mk hbox; have GWSD := Aside0.mk ((by rw [hg]; exact (below_size (pxb HB)) : w.heap.size ≤ gd)); have GWHXSD := Aside0.mk ((by rw [hg]; exact (below_size (pxb HX))) : w8.heap.size ≤ gd); clear hg hbox; have n0_ := pxs HB hb; have nHX_ := pxs HX hb; clear HB HX ; have HB := n0_; clear n0_; have HX := nHX_; clear nHX_; have SD := NWSD; clear NWSD hb; obtain ⟨xSD0, xSD1, xSD2, ySD0, ySD1, ySD2⟩ := pxf3 SD; have hgSD := GWSD.out; have hxSD := GWHXSD.out; clear SD) | ((with_reducible refine gate_dst (N := 85) rfl ?_); refine Kd.R_make (Kd.int .u8) _ 5 rfl (N := 85) rfl 80 (.tmp 84) (.tmp 84) rfl (T : Int) rfl rfl Try.underlying80 (.int .u8 0) 1 info5 rfl (by decide) (by omega) 0 (ok := fun _ => True) (okp := fun _ => True) rfl (fun _ hk => hk) trivial (by omega) (by have := HT.out; rw [Int.toNat_natCast]; omega) (Below.refl _ _) (Nat.le_refl _) ?_; intro bv w10 ho hb hg_ hnew_; clear hg_ hnew_; replace HB := pxs HB hb; clear hb; rw [Int.toNat_natCast] at ho; have hcv := own_string (P := Try.prog) (dst := 9) Try.underlying80 Try.underlying5 Try.underlying9 (Kd.own_of_R ho); obtain ⟨Ab, cb, rfl⟩ := Kd.R_slice ho; clear ho; have hsz0 := strOfNums_size (List.replicate T (0 : Int)); rw [hST.out, List.length_replicate] at hcv; clear hsz0) | (clear tok_j1; go_at_call 36; (with_reducible refine (join_is sT ⟨#[120]⟩ ⟨#[]⟩ 2 _ HSZ.out (by decide) HJ1.out).mono ?_); rintro e w11 ⟨rfl, hb⟩; replace HB := pxs HB hb; clear hb) | (clear tok_j2; go_at_call 36; (with_reducible refine (join_is sT sT ⟨#[]⟩ 2 _ HSZ.out HSZ.out HJ2.out).mono ?_); rintro e w12 ⟨rfl, hb⟩; replace HB := pxs HB hb; clear hb))
            all_goals (try (rename_i hx_; exact absurd hx_ (by have e1 : (⟨#[120]⟩ : ByteArray).size = 1 := rfl; have := HSZ.out; omega)))
            go_ret
            exact ⟨rfl, pxb HB⟩
      · skip
        by_cases m2 : M = 65536
        · skip
          by_cases t0 : 2 * T ≤ 1024
          · have f1 : decide ((M : Int) ≤ 65536) = true := decide_eq_true (by omega)
            have f2 : decide (M ≤ 65536) = true := decide_eq_true (by omega)
            have f3 : ((M : Int) < 65536) = False := eq_false (by omega)
            have f4 : decide (M < 65536) = false := decide_eq_false (by omega)
            have hc1 : (if (0 : Int) + (M : Int) ≤ 65536 then (0 : Int) else 2) = 0 := if_pos (by omega)
            have hn1 : (if (0 : Int) + (M : Int) ≤ 65536 then (0 : Int) + (M : Int) else 0) = (M : Int) := by rw [if_pos (by omega)]; omega
            have hc2 : (if (M : Int) + 1 ≤ 65536 then (0 : Int) else 2) = 2 := if_neg (by omega)
            have t1 : decide ((T : Int) < 1024) = true := decide_eq_true (by omega)
            have t2 : decide (T < 1024) = true := decide_eq_true (by omega)
            have t3 : decide (wrap64 (2 * (T : Int)) ≤ 1024) = true := decide_eq_true (by omega)
            have t4 : decide (2 * (T : Int) ≤ 1024) = true := decide_eq_true (by omega)
            have t5 : decide (2 * T ≤ 1024) = true := decide_eq_true (by omega)
            have hj1 : joinV sT ⟨#[120]⟩ = (sT ++ ⟨#[120]⟩, 0) := if_pos (by omega)
            have hj2 : joinV sT sT = (sT ++ sT, 0) := if_pos (by omega)
            have HMM := Lib.hid m2
            clear m2
            have HC1 := Aside0.mk hc1
            have HN1 := Aside0.mk hn1
            have HC2 := Aside0.mk hc2
            have HJ1 := Aside0.mk hj1
            have HJ2 := Aside0.mk hj2
            clear hsz w2 hc1 hn1 hc2 hj1 hj2 hst e1
            go_wp2_with (first | ((with_reducible refine gate_dst (N := 11) rfl ?_); refine box_event ?hg (N := 11) ?hd (cs := #[.slice none 0 0, .int .i64 0]) (t := 55) ?hr ?_; (case hd => rfl); (case hg => rfl); (case hr => first | (go_simp; done) | (go_simp; rfl)); intro h hg w5 hbox hb; have NWGH := Aside0.mk hbox; have GWGH := Aside0.mk ((by rw [hg]; exact (below_size (pxb HB)) : w.heap.size ≤ h)); clear hg hbox; have n0_ := pxs HB hb; clear HB ; have HB := n0_; clear n0_; have GH := NWGH; clear NWGH hb; obtain ⟨xGH0, xGH1, yGH0, yGH1⟩ := pxf2 GH; have HPa := Aside0.mk (HP.init (B := w.heap.size) (pxp GH) GWGH.out); have HX := Aside0.mk (Below.refl w5.heap.size w5); clear GH xGH0 xGH1 yGH0 yGH1) | (clear tok_a; go_at_call 28; (with_reducible refine (full_arr' (M : Int) 0 (M : Int) _ (HPa.out.below (pxb HX)) (by omega) ⟨by decide, by decide⟩ (by decide) HC1.out HN1.out).mono ?_); rintro e w6 ⟨va, rfl, lva, Oa, csa, hp, hlen, hk, hs⟩; have nHB := Aside0.mk ((pxb HB).trans hk.1); have HPb := Aside0.mk hp; have HLENa := Lib.hid hlen; clear HB hp hlen hk hs HX; have HB := nHB; clear nHB; have HX := Aside0.mk (Below.refl w6.heap.size w6)) | ((with_reducible refine gate_dst (N := 12) rfl ?_); refine box_event ?hg (N := 12) ?hd (cs := #[.int .i64 0, .int .i64 0, .string ⟨#[]⟩]) (t := 61) ?hr ?_; (case hd => rfl); (case hg => rfl); (case hr => first | (go_simp; done) | (go_simp; rfl)); intro gc hg w7 hbox hb; have NWSC := Aside0.mk hbox; have GWSC := Aside0.mk ((by rw [hg]; exact (below_size (pxb HB)) : w.heap.size ≤ gc)); have GWHXSC := Aside0.mk ((by rw [hg]; exact (below_size (pxb HX))) : w6.heap.size ≤ gc); clear hg hbox; have n0_ := pxs HB hb; have nHX_ := pxs HX hb; clear HB HX ; have HB := n0_; clear n0_; have HX := nHX_; clear nHX_; have SC := NWSC; clear NWSC hb; obtain ⟨xSC0, xSC1, xSC2, ySC0, ySC1, ySC2⟩ := pxf3 SC; have hgSC := GWSC.out; have hxSC := GWHXSC.out; clear SC) | (clear tok_b; go_at_call 28; (with_reducible refine (full_arr' 1 2 _ _ (HPb.out.below (pxb HX)) (by decide) (by have := HMM.out; omega) (by have := HLENa.out; simp at this; omega) HC2.out rfl).mono ?_); rintro e w8 ⟨vb, rfl, lvb, Ob, csb, hp, hlen, hk, hs⟩; have nHB := Aside0.mk ((pxb HB).trans hk.1); have HPc := Aside0.mk hp; have HLENb := Lib.hid hlen; clear HB hp hlen hk hs HX; have HB := nHB; clear nHB; have HX := Aside0.mk (Below.refl w8.heap.size w8)) | ((with_reducible refine gate_dst (N := 14) rfl ?_); refine box_event ?hg (N := 14) ?hd (cs := #[.int .i64 0, .int .i64 0, .string ⟨#[]⟩]) (t := 61) ?hr ?_; (case hd => rfl); (case hg => rfl); (case hr => first | (go_simp; done) | (go_simp; rfl)); intro gd hg w9 hbox hb; have NWSD := Aside0.mk hbox; have GWSD := Aside0.mk ((by rw [hg]; exact (below_size (pxb HB)) : w.heap.size ≤ gd)); have GWHXSD := Aside0.mk ((by rw [hg]; exact (below_size (pxb HX))) : w8.heap.size ≤ gd); clear hg hbox; have n0_ := pxs HB hb; have nHX_ := pxs HX hb; clear HB HX ; have HB := n0_; clear n0_; have HX := nHX_; clear nHX_; have SD := NWSD; clear NWSD hb; obtain ⟨xSD0, xSD1, xSD2, ySD0, ySD1, ySD2⟩ := pxf3 SD; have hgSD := GWSD.out; have hxSD := GWHXSD.out; clear SD) | ((with_reducible refine gate_dst (N := 85) rfl ?_); refine Kd.R_make (Kd.int .u8) _ 5 rfl (N := 85) rfl 80 (.tmp 84) (.tmp 84) rfl (T : Int) rfl rfl Try.underlying80 (.int .u8 0) 1 info5 rfl (by decide) (by omega) 0 (ok := fun _ => True) (okp := fun _ => True) rfl (fun _ hk => hk) trivial (by omega) (by have := HT.out; rw [Int.toNat_natCast]; omega) (Below.refl _ _) (Nat.le_refl _) ?_; intro bv w10 ho hb hg_ hnew_; clear hg_ hnew_; replace HB := pxs HB hb; clear hb; rw [Int.toNat_natCast] at ho; have hcv := own_string (P := Try.prog) (dst := 9) Try.underlying80 Try.underlying5 Try.underlying9 (Kd.own_of_R ho); obtain ⟨Ab, cb, rfl⟩ := Kd.R_slice ho; clear ho; have hsz0 := strOfNums_size (List.replicate T (0 : Int)); rw [hST.out, List.length_replicate] at hcv; clear hsz0) | (clear tok_j1; go_at_call 36; (with_reducible refine (join_is sT ⟨#[120]⟩ (sT ++ ⟨#[120]⟩) 0 _ HSZ.out (by decide) HJ1.out).mono ?_); rintro e w11 ⟨rfl, hb⟩; replace HB := pxs HB hb; clear hb) | (clear tok_j2; go_at_call 36; (with_reducible refine (join_is sT sT (sT ++ sT) 0 _ HSZ.out HSZ.out HJ2.out).mono ?_); rintro e w12 ⟨rfl, hb⟩; replace HB := pxs HB hb; clear hb))
            all_goals (try (rename_i hx_; exact absurd hx_ (by have e1 : (⟨#[120]⟩ : ByteArray).size = 1 := rfl; have := HSZ.out; omega)))
            go_ret
            exact ⟨rfl, pxb HB⟩
          · skip
            by_cases t00 : T < 1024
            · have f1 : decide ((M : Int) ≤ 65536) = true := decide_eq_true (by omega)
              have f2 : decide (M ≤ 65536) = true := decide_eq_true (by omega)
              have f3 : ((M : Int) < 65536) = False := eq_false (by omega)
              have f4 : decide (M < 65536) = false := decide_eq_false (by omega)
              have hc1 : (if (0 : Int) + (M : Int) ≤ 65536 then (0 : Int) else 2) = 0 := if_pos (by omega)
              have hn1 : (if (0 : Int) + (M : Int) ≤ 65536 then (0 : Int) + (M : Int) else 0) = (M : Int) := by rw [if_pos (by omega)]; omega
              have hc2 : (if (M : Int) + 1 ≤ 65536 then (0 : Int) else 2) = 2 := if_neg (by omega)
              have t1 : decide ((T : Int) < 1024) = true := decide_eq_true (by omega)
              have t2 : decide (T < 1024) = true := decide_eq_true (by omega)
              have t3 : decide (wrap64 (2 * (T : Int)) ≤ 1024) = false := decide_eq_false (by omega)
              have t4 : decide (2 * (T : Int) ≤ 1024) = false := decide_eq_false (by omega)
              have t5 : decide (2 * T ≤ 1024) = false := decide_eq_false (by omega)
              have hj1 : joinV sT ⟨#[120]⟩ = (sT ++ ⟨#[120]⟩, 0) := if_pos (by omega)
              have hj2 : joinV sT sT = (⟨#[]⟩, 2) := if_neg (by omega)
              have HMM := Lib.hid m2
              clear m2
              have HC1 := Aside0.mk hc1
              have HN1 := Aside0.mk hn1
              have HC2 := Aside0.mk hc2
              have HJ1 := Aside0.mk hj1
              have HJ2 := Aside0.mk hj2
              clear hsz w2 hc1 hn1 hc2 hj1 hj2 hst e1
              go_wp2_with (first | ((with_reducible refine gate_dst (N := 11) rfl ?_); refine box_event ?hg (N := 11) ?hd (cs := #[.slice none 0 0, .int .i64 0]) (t := 55) ?hr ?_; (case hd => rfl); (case hg => rfl); (case hr => first | (go_simp; done) | (go_simp; rfl)); intro h hg w5 hbox hb; have NWGH := Aside0.mk hbox; have GWGH := Aside0.mk ((by rw [hg]; exact (below_size (pxb HB)) : w.heap.size ≤ h)); clear hg hbox; have n0_ := pxs HB hb; clear HB ; have HB := n0_; clear n0_; have GH := NWGH; clear NWGH hb; obtain ⟨xGH0, xGH1, yGH0, yGH1⟩ := pxf2 GH; have HPa := Aside0.mk (HP.init (B := w.heap.size) (pxp GH) GWGH.out); have HX := Aside0.mk (Below.refl w5.heap.size w5); clear GH xGH0 xGH1 yGH0 yGH1) | (clear tok_a; go_at_call 28; (with_reducible refine (full_arr' (M : Int) 0 (M : Int) _ (HPa.out.below (pxb HX)) (by omega) ⟨by decide, by decide⟩ (by decide) HC1.out HN1.out).mono ?_); rintro e w6 ⟨va, rfl, lva, Oa, csa, hp, hlen, hk, hs⟩; have nHB := Aside0.mk ((pxb HB).trans hk.1); have HPb := Aside0.mk hp; have HLENa := Lib.hid hlen; clear HB hp hlen hk hs HX; have HB := nHB; clear nHB; have HX := Aside0.mk (Below.refl w6.heap.size w6)) | ((with_reducible refine gate_dst (N := 12) rfl ?_); refine box_event ?hg (N := 12) ?hd (cs := #[.int .i64 0, .int .i64 0, .string ⟨#[]⟩]) (t := 61) ?hr ?_; (case hd => rfl); (case hg => rfl); (case hr => first | (go_simp; done) | (go_simp; rfl)); intro gc hg w7 hbox hb; have NWSC := Aside0.mk hbox; have GWSC := Aside0.mk ((by rw [hg]; exact (below_size (pxb HB)) : w.heap.size ≤ gc)); have GWHXSC := Aside0.mk ((by rw [hg]; exact (below_size (pxb HX))) : w6.heap.size ≤ gc); clear hg hbox; have n0_ := pxs HB hb; have nHX_ := pxs HX hb; clear HB HX ; have HB := n0_; clear n0_; have HX := nHX_; clear nHX_; have SC := NWSC; clear NWSC hb; obtain ⟨xSC0, xSC1, xSC2, ySC0, ySC1, ySC2⟩ := pxf3 SC; have hgSC := GWSC.out; have hxSC := GWHXSC.out; clear SC) | (clear tok_b; go_at_call 28; (with_reducible refine (full_arr' 1 2 _ _ (HPb.out.below (pxb HX)) (by decide) (by have := HMM.out; omega) (by have := HLENa.out; simp at this; omega) HC2.out rfl).mono ?_); rintro e w8 ⟨vb, rfl, lvb, Ob, csb, hp, hlen, hk, hs⟩; have nHB := Aside0.mk ((pxb HB).trans hk.1); have HPc := Aside0.mk hp; have HLENb := Lib.hid hlen; clear HB hp hlen hk hs HX; have HB := nHB; clear nHB; have HX := Aside0.mk (Below.refl w8.heap.size w8)) | ((with_reducible refine gate_dst (N := 14) rfl ?_); refine box_event ?hg (N := 14) ?hd (cs := #[.int .i64 0, .int .i64 0, .string ⟨#[]⟩]) (t := 61) ?hr ?_; (case hd => rfl); (case hg => rfl); (case hr => first | (go_simp; done) | (go_simp; rfl)); intro gd hg w9 hbox hb; have NWSD := Aside0.mk hbox; have GWSD := Aside0.mk ((by rw [hg]; exact (below_size (pxb HB)) : w.heap.size ≤ gd)); have GWHXSD := Aside0.mk ((by rw [hg]; exact (below_size (pxb HX))) : w8.heap.size ≤ gd); clear hg hbox; have n0_ := pxs HB hb; have nHX_ := pxs HX hb; clear HB HX ; have HB := n0_; clear n0_; have HX := nHX_; clear nHX_; have SD := NWSD; clear NWSD hb; obtain ⟨xSD0, xSD1, xSD2, ySD0, ySD1, ySD2⟩ := pxf3 SD; have hgSD := GWSD.out; have hxSD := GWHXSD.out; clear SD) | ((with_reducible refine gate_dst (N := 85) rfl ?_); refine Kd.R_make (Kd.int .u8) _ 5 rfl (N := 85) rfl 80 (.tmp 84) (.tmp 84) rfl (T : Int) rfl rfl Try.underlying80 (.int .u8 0) 1 info5 rfl (by decide) (by omega) 0 (ok := fun _ => True) (okp := fun _ => True) rfl (fun _ hk => hk) trivial (by omega) (by have := HT.out; rw [Int.toNat_natCast]; omega) (Below.refl _ _) (Nat.le_refl _) ?_; intro bv w10 ho hb hg_ hnew_; clear hg_ hnew_; replace HB := pxs HB hb; clear hb; rw [Int.toNat_natCast] at ho; have hcv := own_string (P := Try.prog) (dst := 9) Try.underlying80 Try.underlying5 Try.underlying9 (Kd.own_of_R ho); obtain ⟨Ab, cb, rfl⟩ := Kd.R_slice ho; clear ho; have hsz0 := strOfNums_size (List.replicate T (0 : Int)); rw [hST.out, List.length_replicate] at hcv; clear hsz0) | (clear tok_j1; go_at_call 36; (with_reducible refine (join_is sT ⟨#[120]⟩ (sT ++ ⟨#[120]⟩) 0 _ HSZ.out (by decide) HJ1.out).mono ?_); rintro e w11 ⟨rfl, hb⟩; replace HB := pxs HB hb; clear hb) | (clear tok_j2; go_at_call 36; (with_reducible refine (join_is sT sT ⟨#[]⟩ 2 _ HSZ.out HSZ.out HJ2.out).mono ?_); rintro e w12 ⟨rfl, hb⟩; replace HB := pxs HB hb; clear hb))
              all_goals (try (rename_i hx_; exact absurd hx_ (by have e1 : (⟨#[120]⟩ : ByteArray).size = 1 := rfl; have := HSZ.out; omega)))
              go_ret
              exact ⟨rfl, pxb HB⟩
            · skip
              have f1 : decide ((M : Int) ≤ 65536) = true := decide_eq_true (by omega)
              have f2 : decide (M ≤ 65536) = true := decide_eq_true (by omega)
              have f3 : ((M : Int) < 65536) = False := eq_false (by omega)
              have f4 : decide (M < 65536) = false := decide_eq_false (by omega)
              have hc1 : (if (0 : Int) + (M : Int) ≤ 65536 then (0 : Int) else 2) = 0 := if_pos (by omega)
              have hn1 : (if (0 : Int) + (M : Int) ≤ 65536 then (0 : Int) + (M : Int) else 0) = (M : Int) := by rw [if_pos (by omega)]; omega
              have hc2 : (if (M : Int) + 1 ≤ 65536 then (0 : Int) else 2) = 2 := if_neg (by omega)
              have t1 : decide ((T : Int) < 1024) = false := decide_eq_false (by omega)
              have t2 : decide (T < 1024) = false := decide_eq_false (by omega)
              have t3 : decide (wrap64 (2 * (T : Int)) ≤ 1024) = false := decide_eq_false (by omega)
              have t4 : decide (2 * (T : Int) ≤ 1024) = false := decide_eq_false (by omega)
              have t5 : decide (2 * T ≤ 1024) = false := decide_eq_false (by omega)
              have hj1 : joinV sT ⟨#[120]⟩ = (⟨#[]⟩, 2) := if_neg (by omega)
              have hj2 : joinV sT sT = (⟨#[]⟩, 2) := if_neg (by omega)
              have HMM := Lib.hid m2
              clear m2
              have HC1 := Aside0.mk hc1
              have HN1 := Aside0.mk hn1
              have HC2 := Aside0.mk hc2
              have HJ1 := Aside0.mk hj1
              have HJ2 := Aside0.mk hj2
              clear hsz w2 hc1 hn1 hc2 hj1 hj2 hst e1
              go_wp2_with (first | ((with_reducible refine gate_dst (N := 11) rfl ?_); refine box_event ?hg (N := 11) ?hd (cs := #[.slice none 0 0, .int .i64 0]) (t := 55) ?hr ?_; (case hd => rfl); (case hg => rfl); (case hr => first | (go_simp; done) | (go_simp; rfl)); intro h hg w5 hbox hb; have NWGH := Aside0.mk hbox; have GWGH := Aside0.mk ((by rw [hg]; exact (below_size (pxb HB)) : w.heap.size ≤ h)); clear hg hbox; have n0_ := pxs HB hb; clear HB ; have HB := n0_; clear n0_; have GH := NWGH; clear NWGH hb; obtain ⟨xGH0, xGH1, yGH0, yGH1⟩ := pxf2 GH; have HPa := Aside0.mk (HP.init (B := w.heap.size) (pxp GH) GWGH.out); have HX := Aside0.mk (Below.refl w5.heap.size w5); clear GH xGH0 xGH1 yGH0 yGH1) | (clear tok_a; go_at_call 28; (with_reducible refine (full_arr' (M : Int) 0 (M : Int) _ (HPa.out.below (pxb HX)) (by omega) ⟨by decide, by decide⟩ (by decide) HC1.out HN1.out).mono ?_); rintro e w6 ⟨va, rfl, lva, Oa, csa, hp, hlen, hk, hs⟩; have nHB := Aside0.mk ((pxb HB).trans hk.1); have HPb := Aside0.mk hp; have HLENa := Lib.hid hlen; clear HB hp hlen hk hs HX; have HB := nHB; clear nHB; have HX := Aside0.mk (Below.refl w6.heap.size w6)) | ((with_reducible refine gate_dst (N := 12) rfl ?_); refine box_event ?hg (N := 12) ?hd (cs := #[.int .i64 0, .int .i64 0, .string ⟨#[]⟩]) (t := 61) ?hr ?_; (case hd => rfl); (case hg => rfl); (case hr => first | (go_simp; done) | (go_simp; rfl)); intro gc hg w7 hbox hb; have NWSC := Aside0.mk hbox; have GWSC := Aside0.mk ((by rw [hg]; exact (below_size (pxb HB)) : w.heap.size ≤ gc)); have GWHXSC := Aside0.mk ((by rw [hg]; exact (below_size (pxb HX))) : w6.heap.size ≤ gc); clear hg hbox; have n0_ := pxs HB hb; have nHX_ := pxs HX hb; clear HB HX ; have HB := n0_; clear n0_; have HX := nHX_; clear nHX_; have SC := NWSC; clear NWSC hb; obtain ⟨xSC0, xSC1, xSC2, ySC0, ySC1, ySC2⟩ := pxf3 SC; have hgSC := GWSC.out; have hxSC := GWHXSC.out; clear SC) | (clear tok_b; go_at_call 28; (with_reducible refine (full_arr' 1 2 _ _ (HPb.out.below (pxb HX)) (by decide) (by have := HMM.out; omega) (by have := HLENa.out; simp at this; omega) HC2.out rfl).mono ?_); rintro e w8 ⟨vb, rfl, lvb, Ob, csb, hp, hlen, hk, hs⟩; have nHB := Aside0.mk ((pxb HB).trans hk.1); have HPc := Aside0.mk hp; have HLENb := Lib.hid hlen; clear HB hp hlen hk hs HX; have HB := nHB; clear nHB; have HX := Aside0.mk (Below.refl w8.heap.size w8)) | ((with_reducible refine gate_dst (N := 14) rfl ?_); refine box_event ?hg (N := 14) ?hd (cs := #[.int .i64 0, .int .i64 0, .string ⟨#[]⟩]) (t := 61) ?hr ?_; (case hd => rfl); (case hg => rfl); (case hr => first | (go_simp; done) | (go_simp; rfl)); intro gd hg w9 hbox hb; have NWSD := Aside0.mk hbox; have GWSD := Aside0.mk ((by rw [hg]; exact (below_size (pxb HB)) : w.heap.size ≤ gd)); have GWHXSD := Aside0.mk ((by rw [hg]; exact (below_size (pxb HX))) : w8.heap.size ≤ gd); clear hg hbox; have n0_ := pxs HB hb; have nHX_ := pxs HX hb; clear HB HX ; have HB := n0_; clear n0_; have HX := nHX_; clear nHX_; have SD := NWSD; clear NWSD hb; obtain ⟨xSD0, xSD1, xSD2, ySD0, ySD1, ySD2⟩ := pxf3 SD; have hgSD := GWSD.out; have hxSD := GWHXSD.out; clear SD) | ((with_reducible refine gate_dst (N := 85) rfl ?_); refine Kd.R_make (Kd.int .u8) _ 5 rfl (N := 85) rfl 80 (.tmp 84) (.tmp 84) rfl (T : Int) rfl rfl Try.underlying80 (.int .u8 0) 1 info5 rfl (by decide) (by omega) 0 (ok := fun _ => True) (okp := fun _ => True) rfl (fun _ hk => hk) trivial (by omega) (by have := HT.out; rw [Int.toNat_natCast]; omega) (Below.refl _ _) (Nat.le_refl _) ?_; intro bv w10 ho hb hg_ hnew_; clear hg_ hnew_; replace HB := pxs HB hb; clear hb; rw [Int.toNat_natCast] at ho; have hcv := own_string (P := Try.prog) (dst := 9) Try.underlying80 Try.underlying5 Try.underlying9 (Kd.own_of_R ho); obtain ⟨Ab, cb, rfl⟩ := Kd.R_slice ho; clear ho; have hsz0 := strOfNums_size (List.replicate T (0 : Int)); rw [hST.out, List.length_replicate] at hcv; clear hsz0) | (clear tok_j1; go_at_call 36; (with_reducible refine (join_is sT ⟨#[120]⟩ ⟨#[]⟩ 2 _ HSZ.out (by decide) HJ1.out).mono ?_); rintro e w11 ⟨rfl, hb⟩; replace HB := pxs HB hb; clear hb) | (clear tok_j2; go_at_call 36; (with_reducible refine (join_is sT sT ⟨#[]⟩ 2 _ HSZ.out HSZ.out HJ2.out).mono ?_); rintro e w12 ⟨rfl, hb⟩; replace HB := pxs HB hb; clear hb))
              all_goals (try (rename_i hx_; exact absurd hx_ (by have e1 : (⟨#[120]⟩ : ByteArray).size = 1 := rfl; have := HSZ.out; omega)))
              go_ret
              exact ⟨rfl, pxb HB⟩
        · skip
          by_cases t0 : 2 * T ≤ 1024
          · have f1 : decide ((M : Int) ≤ 65536) = false := decide_eq_false (by omega)
            have f2 : decide (M ≤ 65536) = false := decide_eq_false (by omega)
            have f3 : ((M : Int) < 65536) = False := eq_false (by omega)
            have f4 : decide (M < 65536) = false := decide_eq_false (by omega)
            have hc1 : (if (0 : Int) + (M : Int) ≤ 65536 then (0 : Int) else 2) = 2 := if_neg (by omega)
            have hn1 : (if (0 : Int) + (M : Int) ≤ 65536 then (0 : Int) + (M : Int) else 0) = 0 := if_neg (by omega)
            have hc2 : (if (0 : Int) + 1 ≤ 65536 then (0 : Int) else 2) = 0 := if_pos (by decide)
            have t1 : decide ((T : Int) < 1024) = true := decide_eq_true (by omega)
            have t2 : decide (T < 1024) = true := decide_eq_true (by omega)
            have t3 : decide (wrap64 (2 * (T : Int)) ≤ 1024) = true := decide_eq_true (by omega)
            have t4 : decide (2 * (T : Int) ≤ 1024) = true := decide_eq_true (by omega)
            have t5 : decide (2 * T ≤ 1024) = true := decide_eq_true (by omega)
            have hj1 : joinV sT ⟨#[120]⟩ = (sT ++ ⟨#[120]⟩, 0) := if_pos (by omega)
            have hj2 : joinV sT sT = (sT ++ sT, 0) := if_pos (by omega)
            have HMM := Lib.hid trivial
            have HC1 := Aside0.mk hc1
            have HN1 := Aside0.mk hn1
            have HC2 := Aside0.mk hc2
            have HJ1 := Aside0.mk hj1
            have HJ2 := Aside0.mk hj2
            clear hsz w2 hc1 hn1 hc2 hj1 hj2 hst e1
            go_wp2_with (first | ((with_reducible refine gate_dst (N := 11) rfl ?_); refine box_event ?hg (N := 11) ?hd (cs := #[.slice none 0 0, .int .i64 0]) (t := 55) ?hr ?_; (case hd => rfl); (case hg => rfl); (case hr => first | (go_simp; done) | (go_simp; rfl)); intro h hg w5 hbox hb; have NWGH := Aside0.mk hbox; have GWGH := Aside0.mk ((by rw [hg]; exact (below_size (pxb HB)) : w.heap.size ≤ h)); clear hg hbox; have n0_ := pxs HB hb; clear HB ; have HB := n0_; clear n0_; have GH := NWGH; clear NWGH hb; obtain ⟨xGH0, xGH1, yGH0, yGH1⟩ := pxf2 GH; have HPa := Aside0.mk (HP.init (B := w.heap.size) (pxp GH) GWGH.out); have HX := Aside0.mk (Below.refl w5.heap.size w5); clear GH xGH0 xGH1 yGH0 yGH1) | (clear tok_a; go_at_call 28; (with_reducible refine (full_arr' (M : Int) 2 0 _ (HPa.out.below (pxb HX)) (by omega) ⟨by decide, by decide⟩ (by decide) HC1.out HN1.out).mono ?_); rintro e w6 ⟨va, rfl, lva, Oa, csa, hp, hlen, hk, hs⟩; have nHB := Aside0.mk ((pxb HB).trans hk.1); have HPb := Aside0.mk hp; have HLENa := Lib.hid hlen; clear HB hp hlen hk hs HX; have HB := nHB; clear nHB; have HX := Aside0.mk (Below.refl w6.heap.size w6)) | ((with_reducible refine gate_dst (N := 12) rfl ?_); refine box_event ?hg (N := 12) ?hd (cs := #[.int .i64 0, .int .i64 0, .string ⟨#[]⟩]) (t := 61) ?hr ?_; (case hd => rfl); (case hg => rfl); (case hr => first | (go_simp; done) | (go_simp; rfl)); intro gc hg w7 hbox hb; have NWSC := Aside0.mk hbox; have GWSC := Aside0.mk ((by rw [hg]; exact (below_size (pxb HB)) : w.heap.size ≤ gc)); have GWHXSC := Aside0.mk ((by rw [hg]; exact (below_size (pxb HX))) : w6.heap.size ≤ gc); clear hg hbox; have n0_ := pxs HB hb; have nHX_ := pxs HX hb; clear HB HX ; have HB := n0_; clear n0_; have HX := nHX_; clear nHX_; have SC := NWSC; clear NWSC hb; obtain ⟨xSC0, xSC1, xSC2, ySC0, ySC1, ySC2⟩ := pxf3 SC; have hgSC := GWSC.out; have hxSC := GWHXSC.out; clear SC) | (clear tok_b; go_at_call 28; (with_reducible refine (full_arr' 1 0 _ _ (HPb.out.below (pxb HX)) (by decide) (by have := HMM.out; omega) (by have := HLENa.out; simp at this; omega) HC2.out rfl).mono ?_); rintro e w8 ⟨vb, rfl, lvb, Ob, csb, hp, hlen, hk, hs⟩; have nHB := Aside0.mk ((pxb HB).trans hk.1); have HPc := Aside0.mk hp; have HLENb := Lib.hid hlen; clear HB hp hlen hk hs HX; have HB := nHB; clear nHB; have HX := Aside0.mk (Below.refl w8.heap.size w8)) | ((with_reducible refine gate_dst (N := 14) rfl ?_); refine box_event ?hg (N := 14) ?hd (cs := #[.int .i64 0, .int .i64 0, .string ⟨#[]⟩]) (t := 61) ?hr ?_; (case hd => rfl); (case hg => rfl); (case hr => first | (go_simp; done) | (go_simp; rfl)); intro gd hg w9 hbox hb; have NWSD := Aside0.mk hbox; have GWSD := Aside0.mk ((by rw [hg]; exact (below_size (pxb HB)) : w.heap.size ≤ gd)); have GWHXSD := Aside0.mk ((by rw [hg]; exact (below_size (pxb HX))) : w8.heap.size ≤ gd); clear hg hbox; have n0_ := pxs HB hb; have nHX_ := pxs HX hb; clear HB HX ; have HB := n0_; clear n0_; have HX := nHX_; clear nHX_; have SD := NWSD; clear NWSD hb; obtain ⟨xSD0, xSD1, xSD2, ySD0, ySD1, ySD2⟩ := pxf3 SD; have hgSD := GWSD.out; have hxSD := GWHXSD.out; clear SD) | ((with_reducible refine gate_dst (N := 85) rfl ?_); refine Kd.R_make (Kd.int .u8) _ 5 rfl (N := 85) rfl 80 (.tmp 84) (.tmp 84) rfl (T : Int) rfl rfl Try.underlying80 (.int .u8 0) 1 info5 rfl (by decide) (by omega) 0 (ok := fun _ => True) (okp := fun _ => True) rfl (fun _ hk => hk) trivial (by omega) (by have := HT.out; rw [Int.toNat_natCast]; omega) (Below.refl _ _) (Nat.le_refl _) ?_; intro bv w10 ho hb hg_ hnew_; clear hg_ hnew_; replace HB := pxs HB hb; clear hb; rw [Int.toNat_natCast] at ho; have hcv := own_string (P := Try.prog) (dst := 9) Try.underlying80 Try.underlying5 Try.underlying9 (Kd.own_of_R ho); obtain ⟨Ab, cb, rfl⟩ := Kd.R_slice ho; clear ho; have hsz0 := strOfNums_size (List.replicate T (0 : Int)); rw [hST.out, List.length_replicate] at hcv; clear hsz0) | (clear tok_j1; go_at_call 36; (with_reducible refine (join_is sT ⟨#[120]⟩ (sT ++ ⟨#[120]⟩) 0 _ HSZ.out (by decide) HJ1.out).mono ?_); rintro e w11 ⟨rfl, hb⟩; replace HB := pxs HB hb; clear hb) | (clear tok_j2; go_at_call 36; (with_reducible refine (join_is sT sT (sT ++ sT) 0 _ HSZ.out HSZ.out HJ2.out).mono ?_); rintro e w12 ⟨rfl, hb⟩; replace HB := pxs HB hb; clear hb))
            all_goals (try (rename_i hx_; exact absurd hx_ (by have e1 : (⟨#[120]⟩ : ByteArray).size = 1 := rfl; have := HSZ.out; omega)))
            go_ret
            exact ⟨rfl, pxb HB⟩
          · skip
            by_cases t00 : T < 1024
            · have f1 : decide ((M : Int) ≤ 65536) = false := decide_eq_false (by omega)
              have f2 : decide (M ≤ 65536) = false := decide_eq_false (by omega)
              have f3 : ((M : Int) < 65536) = False := eq_false (by omega)
              have f4 : decide (M < 65536) = false := decide_eq_false (by omega)
              have hc1 : (if (0 : Int) + (M : Int) ≤ 65536 then (0 : Int) else 2) = 2 := if_neg (by omega)
              have hn1 : (if (0 : Int) + (M : Int) ≤ 65536 then (0 : Int) + (M : Int) else 0) = 0 := if_neg (by omega)
              have hc2 : (if (0 : Int) + 1 ≤ 65536 then (0 : Int) else 2) = 0 := if_pos (by decide)
              have t1 : decide ((T : Int) < 1024) = true := decide_eq_true (by omega)
              have t2 : decide (T < 1024) = true := decide_eq_true (by omega)
              have t3 : decide (wrap64 (2 * (T : Int)) ≤ 1024) = false := decide_eq_false (by omega)
              have t4 : decide (2 * (T : Int) ≤ 1024) = false := decide_eq_false (by omega)
              have t5 : decide (2 * T ≤ 1024) = false := decide_eq_false (by omega)
              have hj1 : joinV sT ⟨#[120]⟩ = (sT ++ ⟨#[120]⟩, 0) := if_pos (by omega)
              have hj2 : joinV sT sT = (⟨#[]⟩, 2) := if_neg (by omega)
              have HMM := Lib.hid trivial
              have HC1 := Aside0.mk hc1
              have HN1 := Aside0.mk hn1
              have HC2 := Aside0.mk hc2
              have HJ1 := Aside0.mk hj1
              have HJ2 := Aside0.mk hj2
              clear hsz w2 hc1 hn1 hc2 hj1 hj2 hst e1
              go_wp2_with (first | ((with_reducible refine gate_dst (N := 11) rfl ?_); refine box_event ?hg (N := 11) ?hd (cs := #[.slice none 0 0, .int .i64 0]) (t := 55) ?hr ?_; (case hd => rfl); (case hg => rfl); (case hr => first | (go_simp; done) | (go_simp; rfl)); intro h hg w5 hbox hb; have NWGH := Aside0.mk hbox; have GWGH := Aside0.mk ((by rw [hg]; exact (below_size (pxb HB)) : w.heap.size ≤ h)); clear hg hbox; have n0_ := pxs HB hb; clear HB ; have HB := n0_; clear n0_; have GH := NWGH; clear NWGH hb; obtain ⟨xGH0, xGH1, yGH0, yGH1⟩ := pxf2 GH; have HPa := Aside0.mk (HP.init (B := w.heap.size) (pxp GH) GWGH.out); have HX := Aside0.mk (Below.refl w5.heap.size w5); clear GH xGH0 xGH1 yGH0 yGH1) | (clear tok_a; go_at_call 28; (with_reducible refine (full_arr' (M : Int) 2 0 _ (HPa.out.below (pxb HX)) (by omega) ⟨by decide, by decide⟩ (by decide) HC1.out HN1.out).mono ?_); rintro e w6 ⟨va, rfl, lva, Oa, csa, hp, hlen, hk, hs⟩; have nHB := Aside0.mk ((pxb HB).trans hk.1); have HPb := Aside0.mk hp; have HLENa := Lib.hid hlen; clear HB hp hlen hk hs HX; have HB := nHB; clear nHB; have HX := Aside0.mk (Below.refl w6.heap.size w6)) | ((with_reducible refine gate_dst (N := 12) rfl ?_); refine box_event ?hg (N := 12) ?hd (cs := #[.int .i64 0, .int .i64 0, .string ⟨#[]⟩]) (t := 61) ?hr ?_; (case hd => rfl); (case hg => rfl); (case hr => first | (go_simp; done) | (go_simp; rfl)); intro gc hg w7 hbox hb; have NWSC := Aside0.mk hbox; have GWSC := Aside0.mk ((by rw [hg]; exact (below_size (pxb HB)) : w.heap.size ≤ gc)); have GWHXSC := Aside0.mk ((by rw [hg]; exact (below_size (pxb HX))) : w6.heap.size ≤ gc); clear hg hbox; have n0_ := pxs HB hb; have nHX_ := pxs HX hb; clear HB HX ; have HB := n0_; clear n0_; have HX := nHX_; clear nHX_; have SC := NWSC; clear NWSC hb; obtain ⟨xSC0, xSC1, xSC2, ySC0, ySC1, ySC2⟩ := pxf3 SC; have hgSC := GWSC.out; have hxSC := GWHXSC.out; clear SC) | (clear tok_b; go_at_call 28; (with_reducible refine (full_arr' 1 0 _ _ (HPb.out.below (pxb HX)) (by decide) (by have := HMM.out; omega) (by have := HLENa.out; simp at this; omega) HC2.out rfl).mono ?_); rintro e w8 ⟨vb, rfl, lvb, Ob, csb, hp, hlen, hk, hs⟩; have nHB := Aside0.mk ((pxb HB).trans hk.1); have HPc := Aside0.mk hp; have HLENb := Lib.hid hlen; clear HB hp hlen hk hs HX; have HB := nHB; clear nHB; have HX := Aside0.mk (Below.refl w8.heap.size w8)) | ((with_reducible refine gate_dst (N := 14) rfl ?_); refine box_event ?hg (N := 14) ?hd (cs := #[.int .i64 0, .int .i64 0, .string ⟨#[]⟩]) (t := 61) ?hr ?_; (case hd => rfl); (case hg => rfl); (case hr => first | (go_simp; done) | (go_simp; rfl)); intro gd hg w9 hbox hb; have NWSD := Aside0.mk hbox; have GWSD := Aside0.mk ((by rw [hg]; exact (below_size (pxb HB)) : w.heap.size ≤ gd)); have GWHXSD := Aside0.mk ((by rw [hg]; exact (below_size (pxb HX))) : w8.heap.size ≤ gd); clear hg hbox; have n0_ := pxs HB hb; have nHX_ := pxs HX hb; clear HB HX ; have HB := n0_; clear n0_; have HX := nHX_; clear nHX_; have SD := NWSD; clear NWSD hb; obtain ⟨xSD0, xSD1, xSD2, ySD0, ySD1, ySD2⟩ := pxf3 SD; have hgSD := GWSD.out; have hxSD := GWHXSD.out; clear SD) | ((with_reducible refine gate_dst (N := 85) rfl ?_); refine Kd.R_make (Kd.int .u8) _ 5 rfl (N := 85) rfl 80 (.tmp 84) (.tmp 84) rfl (T : Int) rfl rfl Try.underlying80 (.int .u8 0) 1 info5 rfl (by decide) (by omega) 0 (ok := fun _ => True) (okp := fun _ => True) rfl (fun _ hk => hk) trivial (by omega) (by have := HT.out; rw [Int.toNat_natCast]; omega) (Below.refl _ _) (Nat.le_refl _) ?_; intro bv w10 ho hb hg_ hnew_; clear hg_ hnew_; replace HB := pxs HB hb; clear hb; rw [Int.toNat_natCast] at ho; have hcv := own_string (P := Try.prog) (dst := 9) Try.underlying80 Try.underlying5 Try.underlying9 (Kd.own_of_R ho); obtain ⟨Ab, cb, rfl⟩ := Kd.R_slice ho; clear ho; have hsz0 := strOfNums_size (List.replicate T (0 : Int)); rw [hST.out, List.length_replicate] at hcv; clear hsz0) | (clear tok_j1; go_at_call 36; (with_reducible refine (join_is sT ⟨#[120]⟩ (sT ++ ⟨#[120]⟩) 0 _ HSZ.out (by decide) HJ1.out).mono ?_); rintro e w11 ⟨rfl, hb⟩; replace HB := pxs HB hb; clear hb) | (clear tok_j2; go_at_call 36; (with_reducible refine (join_is sT sT ⟨#[]⟩ 2 _ HSZ.out HSZ.out HJ2.out).mono ?_); rintro e w12 ⟨rfl, hb⟩; replace HB := pxs HB hb; clear hb))
              all_goals (try (rename_i hx_; exact absurd hx_ (by have e1 : (⟨#[120]⟩ : ByteArray).size = 1 := rfl; have := HSZ.out; omega)))
              go_ret
              exact ⟨rfl, pxb HB⟩
            · skip
              have f1 : decide ((M : Int) ≤ 65536) = false := decide_eq_false (by omega)
              have f2 : decide (M ≤ 65536) = false := decide_eq_false (by omega)
              have f3 : ((M : Int) < 65536) = False := eq_false (by omega)
              have f4 : decide (M < 65536) = false := decide_eq_false (by omega)
              have hc1 : (if (0 : Int) + (M : Int) ≤ 65536 then (0 : Int) else 2) = 2 := if_neg (by omega)
              have hn1 : (if (0 : Int) + (M : Int) ≤ 65536 then (0 : Int) + (M : Int) else 0) = 0 := if_neg (by omega)
              have hc2 : (if (0 : Int) + 1 ≤ 65536 then (0 : Int) else 2) = 0 := if_pos (by decide)
              have t1 : decide ((T : Int) < 1024) = false := decide_eq_false (by omega)
              have t2 : decide (T < 1024) = false := decide_eq_false (by omega)
              have t3 : decide (wrap64 (2 * (T : Int)) ≤ 1024) = false := decide_eq_false (by omega)
              have t4 : decide (2 * (T : Int) ≤ 1024) = false := decide_eq_false (by omega)
              have t5 : decide (2 * T ≤ 1024) = false := decide_eq_false (by omega)
              have hj1 : joinV sT ⟨#[120]⟩ = (⟨#[]⟩, 2) := if_neg (by omega)
              have hj2 : joinV sT sT = (⟨#[]⟩, 2) := if_neg (by omega)
              have HMM := Lib.hid trivial
              have HC1 := Aside0.mk hc1
              have HN1 := Aside0.mk hn1
              have HC2 := Aside0.mk hc2
              have HJ1 := Aside0.mk hj1
              have HJ2 := Aside0.mk hj2
              clear hsz w2 hc1 hn1 hc2 hj1 hj2 hst e1
              go_wp2_with (first | ((with_reducible refine gate_dst (N := 11) rfl ?_); refine box_event ?hg (N := 11) ?hd (cs := #[.slice none 0 0, .int .i64 0]) (t := 55) ?hr ?_; (case hd => rfl); (case hg => rfl); (case hr => first | (go_simp; done) | (go_simp; rfl)); intro h hg w5 hbox hb; have NWGH := Aside0.mk hbox; have GWGH := Aside0.mk ((by rw [hg]; exact (below_size (pxb HB)) : w.heap.size ≤ h)); clear hg hbox; have n0_ := pxs HB hb; clear HB ; have HB := n0_; clear n0_; have GH := NWGH; clear NWGH hb; obtain ⟨xGH0, xGH1, yGH0, yGH1⟩ := pxf2 GH; have HPa := Aside0.mk (HP.init (B := w.heap.size) (pxp GH) GWGH.out); have HX := Aside0.mk (Below.refl w5.heap.size w5); clear GH xGH0 xGH1 yGH0 yGH1) | (clear tok_a; go_at_call 28; (with_reducible refine (full_arr' (M : Int) 2 0 _ (HPa.out.below (pxb HX)) (by omega) ⟨by decide, by decide⟩ (by decide) HC1.out HN1.out).mono ?_); rintro e w6 ⟨va, rfl, lva, Oa, csa, hp, hlen, hk, hs⟩; have nHB := Aside0.mk ((pxb HB).trans hk.1); have HPb := Aside0.mk hp; have HLENa := Lib.hid hlen; clear HB hp hlen hk hs HX; have HB := nHB; clear nHB; have HX := Aside0.mk (Below.refl w6.heap.size w6)) | ((with_reducible refine gate_dst (N := 12) rfl ?_); refine box_event ?hg (N := 12) ?hd (cs := #[.int .i64 0, .int .i64 0, .string ⟨#[]⟩]) (t := 61) ?hr ?_; (case hd => rfl); (case hg => rfl); (case hr => first | (go_simp; done) | (go_simp; rfl)); intro gc hg w7 hbox hb; have NWSC := Aside0.mk hbox; have GWSC := Aside0.mk ((by rw [hg]; exact (below_size (pxb HB)) : w.heap.size ≤ gc)); have GWHXSC := Aside0.mk ((by rw [hg]; exact (below_size (pxb HX))) : w6.heap.size ≤ gc); clear hg hbox; have n0_ := pxs HB hb; have nHX_ := pxs HX hb; clear HB HX ; have HB := n0_; clear n0_; have HX := nHX_; clear nHX_; have SC := NWSC; clear NWSC hb; obtain ⟨xSC0, xSC1, xSC2, ySC0, ySC1, ySC2⟩ := pxf3 SC; have hgSC := GWSC.out; have hxSC := GWHXSC.out; clear SC) | (clear tok_b; go_at_call 28; (with_reducible refine (full_arr' 1 0 _ _ (HPb.out.below (pxb HX)) (by decide) (by have := HMM.out; omega) (by have := HLENa.out; simp at this; omega) HC2.out rfl).mono ?_); rintro e w8 ⟨vb, rfl, lvb, Ob, csb, hp, hlen, hk, hs⟩; have nHB := Aside0.mk ((pxb HB).trans hk.1); have HPc := Aside0.mk hp; have HLENb := Lib.hid hlen; clear HB hp hlen hk hs HX; have HB := nHB; clear nHB; have HX := Aside0.mk (Below.refl w8.heap.size w8)) | ((with_reducible refine gate_dst (N := 14) rfl ?_); refine box_event ?hg (N := 14) ?hd (cs := #[.int .i64 0, .int .i64 0, .string ⟨#[]⟩]) (t := 61) ?hr ?_; (case hd => rfl); (case hg => rfl); (case hr => first | (go_simp; done) | (go_simp; rfl)); intro gd hg w9 hbox hb; have NWSD := Aside0.mk hbox; have GWSD := Aside0.mk ((by rw [hg]; exact (below_size (pxb HB)) : w.heap.size ≤ gd)); have GWHXSD := Aside0.mk ((by rw [hg]; exact (below_size (pxb HX))) : w8.heap.size ≤ gd); clear hg hbox; have n0_ := pxs HB hb; have nHX_ := pxs HX hb; clear HB HX ; have HB := n0_; clear n0_; have HX := nHX_; clear nHX_; have SD := NWSD; clear NWSD hb; obtain ⟨xSD0, xSD1, xSD2, ySD0, ySD1, ySD2⟩ := pxf3 SD; have hgSD := GWSD.out; have hxSD := GWHXSD.out; clear SD) | ((with_reducible refine gate_dst (N := 85) rfl ?_); refine Kd.R_make (Kd.int .u8) _ 5 rfl (N := 85) rfl 80 (.tmp 84) (.tmp 84) rfl (T : Int) rfl rfl Try.underlying80 (.int .u8 0) 1 info5 rfl (by decide) (by omega) 0 (ok := fun _ => True) (okp := fun _ => True) rfl (fun _ hk => hk) trivial (by omega) (by have := HT.out; rw [Int.toNat_natCast]; omega) (Below.refl _ _) (Nat.le_refl _) ?_; intro bv w10 ho hb hg_ hnew_; clear hg_ hnew_; replace HB := pxs HB hb; clear hb; rw [Int.toNat_natCast] at ho; have hcv := own_string (P := Try.prog) (dst := 9) Try.underlying80 Try.underlying5 Try.underlying9 (Kd.own_of_R ho); obtain ⟨Ab, cb, rfl⟩ := Kd.R_slice ho; clear ho; have hsz0 := strOfNums_size (List.replicate T (0 : Int)); rw [hST.out, List.length_replicate] at hcv; clear hsz0) | (clear tok_j1; go_at_call 36; (with_reducible refine (join_is sT ⟨#[120]⟩ ⟨#[]⟩ 2 _ HSZ.out (by decide) HJ1.out).mono ?_); rintro e w11 ⟨rfl, hb⟩; replace HB := pxs HB hb; clear hb) | (clear tok_j2; go_at_call 36; (with_reducible refine (join_is sT sT ⟨#[]⟩ 2 _ HSZ.out HSZ.out HJ2.out).mono ?_); rintro e w12 ⟨rfl, hb⟩; replace HB := pxs HB hb; clear hb))
              all_goals (try (rename_i hx_; exact absurd hx_ (by have e1 : (⟨#[120]⟩ : ByteArray).size = 1 := rfl; have := HSZ.out; omega)))
              go_ret
              exact ⟨rfl, pxb HB⟩
end Go.Proofs.Ytefgfnhhoidbdaa.HpW
