/- Any line and column is a byte's place, or isn't one: the law's walk; every input. -/
import Derived.Test.YtimhbepecnmjeaaDoorLinesW10
import Derived.Test.YtimhbepecnmjeaaDoorRefLines
namespace Go.Proofs.YtimhbepecnmjeaaDoor.LiW
open Go.RowKit Go.Shelf Go.Proofs.YtimhbepecnmjeaaDoorW.PrintWords Go.Proofs.YtimhbepecnmjeaaDoorW.PrintLast Go.Proofs.YtimhbepecnmjeaaDoor.Li
set_option linter.unusedVariables false
set_option linter.unusedSimpArgs false
/-- Has a byte this place? -/
def plM (s : ByteArray) (a b : Int) (j : Nat) : Prop := ((plN s.data.toList j).1 : Int) = a ∧ ((plN s.data.toList j).2 : Int) = b
theorem byte_some {s : ByteArray} {a b : Int} {j : Nat} (hj : j ≤ s.size) (hs : s.size ≤ 65536) (h : plM s a b j) : byteV s a b = ((j : Int), 0) := by
  obtain ⟨rfl, rfl⟩ := h
  exact byte_back hj hs
theorem byte_none {s : ByteArray} {a b : Int} (hs : s.size ≤ 65536) (h : ∀ j, j ≤ s.size → ¬ plM s a b j) : byteV s a b = (0, 1) := by
  unfold byteV
  by_cases hc : 1 ≤ a ∧ a ≤ (ssN s.data.toList).length ∧ 1 ≤ b ∧ b ≤ 65537 ∧ (sN s.data.toList (a - 1).toNat : Int) + b - 1 ≤ toN s.data.toList (a - 1).toNat
  · exfalso
    have hlen : s.data.toList.length = s.size := Array.length_toList
    have hto := toN_le (l := s.data.toList) (a - 1).toNat
    refine h (sN s.data.toList (a - 1).toNat + (b - 1).toNat) (by omega) ?_
    have hp := plN_line (l := s.data.toList) (k := sN s.data.toList (a - 1).toNat + (b - 1).toNat) (j := (a - 1).toNat) (by omega) (by omega) (by omega) (by omega)
    unfold plM
    rw [hp]
    dsimp only
    omega
  · rw [if_neg hc]
theorem plM_one {s : ByteArray} {a b : Int} {i j : Nat} (hi : i ≤ s.size) (hj : j ≤ s.size) (hs : s.size ≤ 65536) (h1 : plM s a b i) (h2 : plM s a b j) : i = j := by
  have e1 := byte_some hi hs h1
  have e2 := byte_some hj hs h2
  rw [e1] at e2
  have := congrArg Prod.fst e2
  dsimp only at this
  omega
set_option maxHeartbeats 8000000 in
set_option maxRecDepth 100000 in
theorem bytes_long (s : ByteArray) (a b : Int) (hl : 3000 < s.size) (w : World) (ht : TT w) : Calls Tryd.prog 5 #[.string s, .agg #[.int .i64 a, .int .i64 b]] w fun e w' => e = .returned (.bool true) ∧ Below w.heap.size w w' := by
  have HB := Aside0.mk (Below.refl w.heap.size w)
  have HT := Aside0.mk ht
  clear ht
  have k0 : decide ((3000 : Int) < (s.size : Int)) = true := decide_eq_true (by omega)
  clear hl
  have tok_w0 : True := trivial
  go_enter Tryd.func5, Tryd.ntmps5
  go_wp2_with (first | ((with_reducible refine gate_dst (N := 3) rfl ?_); refine box_event ?hg (N := 3) ?hd (cs := #[.int .i64 a, .int .i64 b]) (t := 35) ?hr ?_; (case hd => rfl); (case hg => rfl); (case hr => first | (go_simp; done) | (go_simp; rfl)); intro gp hg wb hbox hb; have NWBP := Aside0.mk hbox; have GWBP := Aside0.mk ((by rw [hg]; exact (below_size (pxb HB)) : w.heap.size ≤ gp)); clear hg hbox; have n0_ := pxs HB hb; clear HB ; have HB := n0_; clear n0_; have BP := NWBP; clear NWBP hb; obtain ⟨xBP0, xBP1, yBP0, yBP1⟩ := pxf2 BP) | (clear tok_w0; go_at_call 21; (with_reducible refine (tells_any _ (HT.out.below (pxb HB))).mono ?_); rintro e w0 ⟨rfl, hb⟩; have n0_ := pxs HB hb; have nBP_ : Aside0 (w0.heap[gp]? = some (.cells #[.int .i64 a, .int .i64 b] 35 (0, 0))) := ⟨blk_below (pxp BP) hb⟩; clear HB BP; have HB := n0_; clear n0_; have BP := nBP_; clear nBP_; clear hb; obtain ⟨xBP0, xBP1, yBP0, yBP1⟩ := pxf2 BP))
  go_ret
  exact ⟨rfl, pxb HB⟩
set_option maxHeartbeats 8000000 in
set_option maxRecDepth 100000 in
theorem bytes_none (s : ByteArray) (a b : Int) (hs3 : s.size ≤ 3000) (hn : ∀ j, j ≤ s.size → ¬ plM s a b j) (w : World) (ht : TT w) : Calls Tryd.prog 5 #[.string s, .agg #[.int .i64 a, .int .i64 b]] w fun e w' => e = .returned (.bool true) ∧ Below w.heap.size w w' := by
  have HB := Aside0.mk (Below.refl w.heap.size w)
  have HT := Aside0.mk ht
  clear ht
  have HS := Lib.hid (show s.size ≤ 65536 by omega)
  have HS3 := Lib.hid hs3
  have HN := Lib.hid hn
  have HBY := Lib.hid (fun g B (w1 : World) (h : Tab g B s w1) => byte_from HS.out h a b (byte_none HS.out hn))
  have k0 : decide ((3000 : Int) < (s.size : Int)) = false := decide_eq_false (by omega)
  clear hs3 hn
  have tok_w0 : True := trivial
  have tok_w1 : True := trivial
  have tok_w2 : True := trivial
  go_enter Tryd.func5, Tryd.ntmps5
  go_wp2_with (first | ((with_reducible refine gate_dst (N := 3) rfl ?_); refine box_event ?hg (N := 3) ?hd (cs := #[.int .i64 a, .int .i64 b]) (t := 35) ?hr ?_; (case hd => rfl); (case hg => rfl); (case hr => first | (go_simp; done) | (go_simp; rfl)); intro gp hg wb hbox hb; have NWBP := Aside0.mk hbox; have GWBP := Aside0.mk ((by rw [hg]; exact (below_size (pxb HB)) : w.heap.size ≤ gp)); clear hg hbox; have n0_ := pxs HB hb; clear HB ; have HB := n0_; clear n0_; have BP := NWBP; clear NWBP hb; obtain ⟨xBP0, xBP1, yBP0, yBP1⟩ := pxf2 BP) | (clear tok_w0; go_at_call 21; (with_reducible refine (tells_any _ (HT.out.below (pxb HB))).mono ?_); rintro e w0 ⟨rfl, hb⟩; have n0_ := pxs HB hb; have nBP_ : Aside0 (w0.heap[gp]? = some (.cells #[.int .i64 a, .int .i64 b] 35 (0, 0))) := ⟨blk_below (pxp BP) hb⟩; clear HB BP; have HB := n0_; clear n0_; have BP := nBP_; clear nBP_; clear hb; obtain ⟨xBP0, xBP1, yBP0, yBP1⟩ := pxf2 BP) | (clear tok_w1; go_at_call 10; (with_reducible refine (of_any s _ HS.out).mono ?_); rintro e w1 ⟨g, rfl, htab, hb⟩; have HB0 := pxs HB hb; have HT1 := Aside0.mk (HT.out.below HB0.out); have HTB := Aside0.mk htab; have n0_ : Aside0 (w1.heap[gp]? = some (.cells #[.int .i64 a, .int .i64 b] 35 (0, 0))) := ⟨blk_below (pxp BP) hb⟩; clear HB HT BP; have HB := Aside0.mk (Below.refl w1.heap.size w1); have BP := n0_; clear n0_ htab hb; obtain ⟨xBP0, xBP1, yBP0, yBP1⟩ := pxf2 BP) | (clear tok_w2; go_at_call 23; (with_reducible refine (HBY.out _ _ _ HTB.out _ (pxb HB)).mono ?_); rintro e w2 ⟨rfl, hb⟩; have n0_ := pxs HB hb; have nBP_ : Aside0 (w2.heap[gp]? = some (.cells #[.int .i64 a, .int .i64 b] 35 (0, 0))) := ⟨blk_below (pxp BP) hb⟩; clear HB BP; have HB := n0_; clear n0_; have BP := nBP_; clear nBP_; clear hb; obtain ⟨xBP0, xBP1, yBP0, yBP1⟩ := pxf2 BP))
  go_loopg [9, 10, 11] (s.size + 1) (fun kq v9 v10 v11 w' => ∃ i : Nat, v9 = .int .i64 0 ∧ v10 = .bool false ∧ v11 = .int .i64 i ∧ Hid (i ≤ s.size + 1 ∧ kq = s.size + 1 - i) ∧ Aside0 (Below w1.heap.size w1 w') ∧ Aside0 (w'.heap[gp]? = some (.cells #[.int .i64 a, .int .i64 b] 35 (0, 0))))
  case atStart => exact ⟨0, rfl, rfl, rfl, ⟨Nat.zero_le _, rfl⟩, HB, BP⟩
  case round =>
    clear HB BP xBP0 xBP1 yBP0 yBP1
    obtain ⟨i, rfl, rfl, rfl, HJ, HB, BP⟩ := hrel
    obtain ⟨xBP0, xBP1, yBP0, yBP1⟩ := pxf2 BP
    by_cases hi : i ≤ s.size
    · have hno := HN.out i hi
      have HRA := Lib.hid (fun W => ref_at_c hi HS.out W)
      have hno2 : ¬ (((plN s.data.toList i).1 : Int) = a ∧ ((plN s.data.toList i).2 : Int) = b) := hno
      have ki : decide (i ≤ s.size) = true := decide_eq_true hi
      have hi9 : i ≤ 3000 := by have := HS3.out; omega
      generalize ((plN s.data.toList i).1 : Int) = x at HRA hno2
      generalize ((plN s.data.toList i).2 : Int) = y at HRA hno2
      clear hno
      by_cases hx : x = a
      · have hx' := hx.symm
        subst hx'
        have kx : (a == a) = true := beq_self_eq_true a
        have ky : (y == b) = false := beq_eq_false_iff_ne.2 (fun e => hno2 ⟨rfl, e⟩)
        clear hno2
        have tok_w3 : True := trivial
        go_wp2_with (first | (clear tok_w3; go_at_call 22; (with_reducible refine (HRA.out _).mono ?_); rintro e w3 ⟨rfl, hb⟩; have n0_ := pxs HB hb; have nBP_ : Aside0 (w3.heap[gp]? = some (.cells #[.int .i64 a, .int .i64 b] 35 (0, 0))) := ⟨blk_below (pxp BP) hb⟩; clear HB BP; have HB := n0_; clear n0_; have BP := nBP_; clear nBP_; clear hb; obtain ⟨xBP0, xBP1, yBP0, yBP1⟩ := pxf2 BP))
        go_roundg (s.size + 1 - (i + 1))
        case measure => have := HJ.out; omega
        case rel => exact ⟨i + 1, rfl, rfl, by go_num, ⟨by omega, rfl⟩, HB, BP⟩
      · have kx : (x == a) = false := beq_eq_false_iff_ne.2 hx
        clear hno2 hx
        have tok_w3 : True := trivial
        go_wp2_with (first | (clear tok_w3; go_at_call 22; (with_reducible refine (HRA.out _).mono ?_); rintro e w3 ⟨rfl, hb⟩; have n0_ := pxs HB hb; have nBP_ : Aside0 (w3.heap[gp]? = some (.cells #[.int .i64 a, .int .i64 b] 35 (0, 0))) := ⟨blk_below (pxp BP) hb⟩; clear HB BP; have HB := n0_; clear n0_; have BP := nBP_; clear nBP_; clear hb; obtain ⟨xBP0, xBP1, yBP0, yBP1⟩ := pxf2 BP))
        go_roundg (s.size + 1 - (i + 1))
        case measure => have := HJ.out; omega
        case rel => exact ⟨i + 1, rfl, rfl, by go_num, ⟨by omega, rfl⟩, HB, BP⟩
    · have ki : decide (i ≤ s.size) = false := decide_eq_false hi
      go_wp2
      go_ret
      exact ⟨rfl, below_step HB0.out (pxb HB)⟩
set_option maxHeartbeats 8000000 in
set_option maxRecDepth 100000 in
theorem bytes_some (s : ByteArray) (a b : Int) (j0 : Nat) (hs3 : s.size ≤ 3000) (hj0 : j0 ≤ s.size) (hm : plM s a b j0) (w : World) (ht : TT w) : Calls Tryd.prog 5 #[.string s, .agg #[.int .i64 a, .int .i64 b]] w fun e w' => e = .returned (.bool true) ∧ Below w.heap.size w w' := by
  have HB := Aside0.mk (Below.refl w.heap.size w)
  have HT := Aside0.mk ht
  clear ht
  have HS := Lib.hid (show s.size ≤ 65536 by omega)
  have HS3 := Lib.hid hs3
  have HJ0 := Lib.hid hj0
  have HM := Lib.hid hm
  have HN := Lib.hid (fun (j : Nat) (h1 : j ≤ s.size) (h2 : j ≠ j0) (h3 : plM s a b j) => h2 (plM_one h1 hj0 HS.out h3 hm))
  have HBY := Lib.hid (fun g B (w1 : World) (h : Tab g B s w1) => byte_from HS.out h a b (byte_some hj0 HS.out hm))
  have k0 : decide ((3000 : Int) < (s.size : Int)) = false := decide_eq_false (by omega)
  clear hs3 hj0 hm
  have tok_w0 : True := trivial
  have tok_w1 : True := trivial
  have tok_w2 : True := trivial
  go_enter Tryd.func5, Tryd.ntmps5
  go_wp2_with (first | ((with_reducible refine gate_dst (N := 3) rfl ?_); refine box_event ?hg (N := 3) ?hd (cs := #[.int .i64 a, .int .i64 b]) (t := 35) ?hr ?_; (case hd => rfl); (case hg => rfl); (case hr => first | (go_simp; done) | (go_simp; rfl)); intro gp hg wb hbox hb; have NWBP := Aside0.mk hbox; have GWBP := Aside0.mk ((by rw [hg]; exact (below_size (pxb HB)) : w.heap.size ≤ gp)); clear hg hbox; have n0_ := pxs HB hb; clear HB ; have HB := n0_; clear n0_; have BP := NWBP; clear NWBP hb; obtain ⟨xBP0, xBP1, yBP0, yBP1⟩ := pxf2 BP) | (clear tok_w0; go_at_call 21; (with_reducible refine (tells_any _ (HT.out.below (pxb HB))).mono ?_); rintro e w0 ⟨rfl, hb⟩; have n0_ := pxs HB hb; have nBP_ : Aside0 (w0.heap[gp]? = some (.cells #[.int .i64 a, .int .i64 b] 35 (0, 0))) := ⟨blk_below (pxp BP) hb⟩; clear HB BP; have HB := n0_; clear n0_; have BP := nBP_; clear nBP_; clear hb; obtain ⟨xBP0, xBP1, yBP0, yBP1⟩ := pxf2 BP) | (clear tok_w1; go_at_call 10; (with_reducible refine (of_any s _ HS.out).mono ?_); rintro e w1 ⟨g, rfl, htab, hb⟩; have HB0 := pxs HB hb; have HT1 := Aside0.mk (HT.out.below HB0.out); have HTB := Aside0.mk htab; have n0_ : Aside0 (w1.heap[gp]? = some (.cells #[.int .i64 a, .int .i64 b] 35 (0, 0))) := ⟨blk_below (pxp BP) hb⟩; clear HB HT BP; have HB := Aside0.mk (Below.refl w1.heap.size w1); have BP := n0_; clear n0_ htab hb; obtain ⟨xBP0, xBP1, yBP0, yBP1⟩ := pxf2 BP) | (clear tok_w2; go_at_call 23; (with_reducible refine (HBY.out _ _ _ HTB.out _ (pxb HB)).mono ?_); rintro e w2 ⟨rfl, hb⟩; have n0_ := pxs HB hb; have nBP_ : Aside0 (w2.heap[gp]? = some (.cells #[.int .i64 a, .int .i64 b] 35 (0, 0))) := ⟨blk_below (pxp BP) hb⟩; clear HB BP; have HB := n0_; clear n0_; have BP := nBP_; clear nBP_; clear hb; obtain ⟨xBP0, xBP1, yBP0, yBP1⟩ := pxf2 BP))
  go_loopg [9, 10, 11] (s.size + 1) (fun kq v9 v10 v11 w' => ∃ i : Nat, ((i ≤ j0 ∧ v9 = .int .i64 0 ∧ v10 = .bool false) ∨ (j0 < i ∧ v9 = .int .i64 j0 ∧ v10 = .bool true)) ∧ v11 = .int .i64 i ∧ Hid (i ≤ s.size + 1 ∧ kq = s.size + 1 - i) ∧ Aside0 (Below w1.heap.size w1 w') ∧ Aside0 (w'.heap[gp]? = some (.cells #[.int .i64 a, .int .i64 b] 35 (0, 0))))
  case atStart => exact ⟨0, .inl ⟨Nat.zero_le _, rfl, rfl⟩, rfl, ⟨Nat.zero_le _, rfl⟩, HB, BP⟩
  case round =>
    clear HB BP xBP0 xBP1 yBP0 yBP1
    obtain ⟨i, hc, rfl, HJ, HB, BP⟩ := hrel
    obtain ⟨xBP0, xBP1, yBP0, yBP1⟩ := pxf2 BP
    rcases hc with ⟨hij, rfl, rfl⟩ | ⟨hij, rfl, rfl⟩
    · have hi : i ≤ s.size := Nat.le_trans hij HJ0.out
      have HIJ := Lib.hid hij
      clear hij
      by_cases he : i = j0
      · subst he
        have HRA := Lib.hid (fun W => ref_at_c hi HS.out W)
        have ki : decide (i ≤ s.size) = true := decide_eq_true hi
        have hi9 : i ≤ 3000 := by have := HS3.out; omega
        rw [HM.out.1, HM.out.2] at HRA
        have kx : (a == a) = true := beq_self_eq_true a
        have ky : (b == b) = true := beq_self_eq_true b
        have tok_w3 : True := trivial
        go_wp2_with (first | (clear tok_w3; go_at_call 22; (with_reducible refine (HRA.out _).mono ?_); rintro e w3 ⟨rfl, hb⟩; have n0_ := pxs HB hb; have nBP_ : Aside0 (w3.heap[gp]? = some (.cells #[.int .i64 a, .int .i64 b] 35 (0, 0))) := ⟨blk_below (pxp BP) hb⟩; clear HB BP; have HB := n0_; clear n0_; have BP := nBP_; clear nBP_; clear hb; obtain ⟨xBP0, xBP1, yBP0, yBP1⟩ := pxf2 BP))
        go_roundg (s.size + 1 - (i + 1))
        case measure => have := HJ.out; omega
        case rel => exact ⟨i + 1, .inr ⟨by omega, rfl, rfl⟩, by go_num, ⟨by omega, rfl⟩, HB, BP⟩
      · have hno := HN.out i hi he
        have HE := Lib.hid he
        clear he
        have HRA := Lib.hid (fun W => ref_at_c hi HS.out W)
        have hno2 : ¬ (((plN s.data.toList i).1 : Int) = a ∧ ((plN s.data.toList i).2 : Int) = b) := hno
        have ki : decide (i ≤ s.size) = true := decide_eq_true hi
        have hi9 : i ≤ 3000 := by have := HS3.out; omega
        generalize ((plN s.data.toList i).1 : Int) = x at HRA hno2
        generalize ((plN s.data.toList i).2 : Int) = y at HRA hno2
        clear hno
        by_cases hx : x = a
        · have hx' := hx.symm
          subst hx'
          have kx : (a == a) = true := beq_self_eq_true a
          have ky : (y == b) = false := beq_eq_false_iff_ne.2 (fun e => hno2 ⟨rfl, e⟩)
          clear hno2
          have tok_w3 : True := trivial
          go_wp2_with (first | (clear tok_w3; go_at_call 22; (with_reducible refine (HRA.out _).mono ?_); rintro e w3 ⟨rfl, hb⟩; have n0_ := pxs HB hb; have nBP_ : Aside0 (w3.heap[gp]? = some (.cells #[.int .i64 a, .int .i64 b] 35 (0, 0))) := ⟨blk_below (pxp BP) hb⟩; clear HB BP; have HB := n0_; clear n0_; have BP := nBP_; clear nBP_; clear hb; obtain ⟨xBP0, xBP1, yBP0, yBP1⟩ := pxf2 BP))
          go_roundg (s.size + 1 - (i + 1))
          case measure => have := HJ.out; omega
          case rel => exact ⟨i + 1, .inl ⟨by have := HIJ.out; have := HE.out; omega, rfl, rfl⟩, by go_num, ⟨by omega, rfl⟩, HB, BP⟩
        · have kx : (x == a) = false := beq_eq_false_iff_ne.2 hx
          clear hno2 hx
          have tok_w3 : True := trivial
          go_wp2_with (first | (clear tok_w3; go_at_call 22; (with_reducible refine (HRA.out _).mono ?_); rintro e w3 ⟨rfl, hb⟩; have n0_ := pxs HB hb; have nBP_ : Aside0 (w3.heap[gp]? = some (.cells #[.int .i64 a, .int .i64 b] 35 (0, 0))) := ⟨blk_below (pxp BP) hb⟩; clear HB BP; have HB := n0_; clear n0_; have BP := nBP_; clear nBP_; clear hb; obtain ⟨xBP0, xBP1, yBP0, yBP1⟩ := pxf2 BP))
          go_roundg (s.size + 1 - (i + 1))
          case measure => have := HJ.out; omega
          case rel => exact ⟨i + 1, .inl ⟨by have := HIJ.out; have := HE.out; omega, rfl, rfl⟩, by go_num, ⟨by omega, rfl⟩, HB, BP⟩
    · have HIJ := Lib.hid hij
      clear hij
      by_cases hi : i ≤ s.size
      · have hno := HN.out i hi (by have := HIJ.out; omega)
        have HRA := Lib.hid (fun W => ref_at_c hi HS.out W)
        have hno2 : ¬ (((plN s.data.toList i).1 : Int) = a ∧ ((plN s.data.toList i).2 : Int) = b) := hno
        have ki : decide (i ≤ s.size) = true := decide_eq_true hi
        have hi9 : i ≤ 3000 := by have := HS3.out; omega
        generalize ((plN s.data.toList i).1 : Int) = x at HRA hno2
        generalize ((plN s.data.toList i).2 : Int) = y at HRA hno2
        clear hno
        by_cases hx : x = a
        · have hx' := hx.symm
          subst hx'
          have kx : (a == a) = true := beq_self_eq_true a
          have ky : (y == b) = false := beq_eq_false_iff_ne.2 (fun e => hno2 ⟨rfl, e⟩)
          clear hno2
          have tok_w3 : True := trivial
          go_wp2_with (first | (clear tok_w3; go_at_call 22; (with_reducible refine (HRA.out _).mono ?_); rintro e w3 ⟨rfl, hb⟩; have n0_ := pxs HB hb; have nBP_ : Aside0 (w3.heap[gp]? = some (.cells #[.int .i64 a, .int .i64 b] 35 (0, 0))) := ⟨blk_below (pxp BP) hb⟩; clear HB BP; have HB := n0_; clear n0_; have BP := nBP_; clear nBP_; clear hb; obtain ⟨xBP0, xBP1, yBP0, yBP1⟩ := pxf2 BP))
          go_roundg (s.size + 1 - (i + 1))
          case measure => have := HJ.out; omega
          case rel => exact ⟨i + 1, .inr ⟨by have := HIJ.out; omega, rfl, rfl⟩, by go_num, ⟨by omega, rfl⟩, HB, BP⟩
        · have kx : (x == a) = false := beq_eq_false_iff_ne.2 hx
          clear hno2 hx
          have tok_w3 : True := trivial
          go_wp2_with (first | (clear tok_w3; go_at_call 22; (with_reducible refine (HRA.out _).mono ?_); rintro e w3 ⟨rfl, hb⟩; have n0_ := pxs HB hb; have nBP_ : Aside0 (w3.heap[gp]? = some (.cells #[.int .i64 a, .int .i64 b] 35 (0, 0))) := ⟨blk_below (pxp BP) hb⟩; clear HB BP; have HB := n0_; clear n0_; have BP := nBP_; clear nBP_; clear hb; obtain ⟨xBP0, xBP1, yBP0, yBP1⟩ := pxf2 BP))
          go_roundg (s.size + 1 - (i + 1))
          case measure => have := HJ.out; omega
          case rel => exact ⟨i + 1, .inr ⟨by have := HIJ.out; omega, rfl, rfl⟩, by go_num, ⟨by omega, rfl⟩, HB, BP⟩
      · have ki : decide (i ≤ s.size) = false := decide_eq_false hi
        have kj : (j0 == j0) = true := beq_self_eq_true j0
        have kj2 : ((j0 : Int) == (j0 : Int)) = true := beq_self_eq_true _
        go_wp2
        go_ret
        exact ⟨rfl, below_step HB0.out (pxb HB)⟩
theorem bytes_any (s : ByteArray) (a b : Int) (w : World) (ht : TT w) : Calls Tryd.prog 5 #[.string s, .agg #[.int .i64 a, .int .i64 b]] w fun e w' => e = .returned (.bool true) ∧ Below w.heap.size w w' := by
  by_cases hl : 3000 < s.size
  · exact bytes_long s a b hl w ht
  · by_cases hx : ∃ j, j ≤ s.size ∧ plM s a b j
    · obtain ⟨j, h1, h2⟩ := hx
      exact bytes_some s a b j (by omega) h1 h2 w ht
    · exact bytes_none s a b (by omega) (fun j h1 h2 => hx ⟨j, h1, h2⟩) w ht
end Go.Proofs.YtimhbepecnmjeaaDoor.LiW
