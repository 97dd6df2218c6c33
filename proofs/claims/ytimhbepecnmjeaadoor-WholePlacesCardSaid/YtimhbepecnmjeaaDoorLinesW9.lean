/- Of two bytes the later one has the later place: the law's walk; every input. -/
import Derived.Test.YtimhbepecnmjeaaDoorLinesW8
import Derived.Test.YtimhbepecnmjeaaDoorRefLines
namespace Go.Proofs.YtimhbepecnmjeaaDoor.LiW
open Go.RowKit Go.Shelf Go.Proofs.YtimhbepecnmjeaaDoorW.PrintWords Go.Proofs.YtimhbepecnmjeaaDoorW.PrintLast Go.Proofs.YtimhbepecnmjeaaDoor.Li
set_option linter.unusedVariables false
set_option linter.unusedSimpArgs false
/-- Later is later. -/
theorem later {l : List UInt8} {a b : Nat} (hab : a < b) (hb : b ≤ l.length) : ((plN l a).1 < (plN l b).1 ∨ (plN l a).1 = (plN l b).1 ∧ (plN l a).2 < (plN l b).2) ∧ 1 ≤ (plN l b).2 ∧ 1 ≤ (plN l a).1 ∧ (plN l b).1 ≤ (ssN l).length := by
  rw [plN_eq (by omega), plN_eq hb]
  dsimp only
  have ha := cn_line (l := l) (k := a) (by omega)
  have hb2 := cn_line (l := l) (k := b) hb
  have p1 := @cnN_pos l a
  have p2 := @cnN_pos l b
  have p3 := @cnN_le l b
  refine ⟨?_, by omega, p1, p3⟩
  rcases Nat.lt_or_ge (cnN l a) (cnN l b) with h | h
  · exact .inl h
  · right
    have h1 : cnN l a ≤ cnN l b := by
      have := (cnN_iff (l := l) (k := b) ha.1).1 (by omega)
      omega
    have e : cnN l a = cnN l b := by omega
    refine ⟨e, ?_⟩
    rw [e]
    rw [e] at ha
    omega
set_option maxHeartbeats 8000000 in
set_option maxRecDepth 100000 in
theorem order_out (s : ByteArray) (a b : Int) (hc : 65536 < s.size ∨ a < 0 ∨ (s.size : Int) < b ∨ b ≤ a) (w : World) (ht : TT w) : Calls Tryd.prog 8 #[.string s, .int .i64 a, .int .i64 b] w fun e w' => e = .returned (.bool true) ∧ Below w.heap.size w w' := by
  have HB := Aside0.mk (Below.refl w.heap.size w)
  have HT := Aside0.mk ht
  clear ht
  by_cases t0 : 65536 < s.size
  · have k0 : decide ((65536 : Int) < (s.size : Int)) = true := decide_eq_true (by omega)
    clear hc
    have tok_w0 : True := trivial
    go_enter Tryd.func8, Tryd.ntmps8
    go_wp2_with (first | (clear tok_w0; go_at_call 21; (with_reducible refine (tells_any _ HT.out).mono ?_); rintro e w0 ⟨rfl, hb⟩; have n0_ := pxs HB hb; clear HB; have HB := n0_; clear n0_ hb))
    go_ret
    exact ⟨rfl, pxb HB⟩
  · have k0 : decide ((65536 : Int) < (s.size : Int)) = false := decide_eq_false (by omega)
    by_cases t1 : a < 0
    · have k1 : decide (a < 0) = true := decide_eq_true (by omega)
      clear hc
      have tok_w0 : True := trivial
      go_enter Tryd.func8, Tryd.ntmps8
      go_wp2_with (first | (clear tok_w0; go_at_call 21; (with_reducible refine (tells_any _ HT.out).mono ?_); rintro e w0 ⟨rfl, hb⟩; have n0_ := pxs HB hb; clear HB; have HB := n0_; clear n0_ hb))
      go_ret
      exact ⟨rfl, pxb HB⟩
    · have k1 : decide (a < 0) = false := decide_eq_false (by omega)
      by_cases t2 : (s.size : Int) < b
      · have k2 : decide ((s.size : Int) < b) = true := decide_eq_true (by omega)
        clear hc
        have tok_w0 : True := trivial
        go_enter Tryd.func8, Tryd.ntmps8
        go_wp2_with (first | (clear tok_w0; go_at_call 21; (with_reducible refine (tells_any _ HT.out).mono ?_); rintro e w0 ⟨rfl, hb⟩; have n0_ := pxs HB hb; clear HB; have HB := n0_; clear n0_ hb))
        go_ret
        exact ⟨rfl, pxb HB⟩
      · have k2 : decide ((s.size : Int) < b) = false := decide_eq_false (by omega)
        have k3 : decide (b ≤ a) = true := decide_eq_true (by omega)
        clear hc
        have tok_w0 : True := trivial
        go_enter Tryd.func8, Tryd.ntmps8
        go_wp2_with (first | (clear tok_w0; go_at_call 21; (with_reducible refine (tells_any _ HT.out).mono ?_); rintro e w0 ⟨rfl, hb⟩; have n0_ := pxs HB hb; clear HB; have HB := n0_; clear n0_ hb))
        go_ret
        exact ⟨rfl, pxb HB⟩
set_option maxHeartbeats 8000000 in
set_option maxRecDepth 100000 in
theorem order_in (s : ByteArray) (a b : Nat) (hs : s.size ≤ 65536) (hab : a < b) (hb : b ≤ s.size) (w : World) (ht : TT w) : Calls Tryd.prog 8 #[.string s, .int .i64 (a : Int), .int .i64 (b : Int)] w fun e w' => e = .returned (.bool true) ∧ Below w.heap.size w w' := by
  have HB := Aside0.mk (Below.refl w.heap.size w)
  have HT := Aside0.mk ht
  clear ht
  have HS := Lib.hid hs
  have hl := later (l := s.data.toList) hab (by rw [Array.length_toList]; exact hb)
  have eHA := atV_ok (s := s) (k := (a : Int)) (by omega)
  rw [Int.toNat_natCast] at eHA
  have HA := Lib.hid (fun g B (w1 : World) (h : Tab g B s w1) => at_from hs h (a : Int) eHA)
  clear eHA
  have eHBB := atV_ok (s := s) (k := (b : Int)) (by omega)
  rw [Int.toNat_natCast] at eHBB
  have HBB := Lib.hid (fun g B (w1 : World) (h : Tab g B s w1) => at_from hs h (b : Int) eHBB)
  clear eHBB
  have HLN := Lib.hid (fun g B (w1 : World) (h : Tab g B s w1) (W : World) (hb : Below w1.heap.size w1 W) => lines_any g B s W (h.below hb))
  have i1 : ((plN s.data.toList a).1 : Int) < ((plN s.data.toList b).1 : Int) ∨ ((plN s.data.toList a).1 : Int) = ((plN s.data.toList b).1 : Int) ∧ ((plN s.data.toList a).2 : Int) < ((plN s.data.toList b).2 : Int) := by omega
  have i2 : (1 : Int) ≤ ((plN s.data.toList b).2 : Int) := by omega
  have i3 : (1 : Int) ≤ ((plN s.data.toList a).1 : Int) := by omega
  have i4 : ((plN s.data.toList b).1 : Int) ≤ ((ssN s.data.toList).length : Int) := by omega
  clear hl
  have k0 : decide ((65536 : Int) < (s.size : Int)) = false := decide_eq_false (by omega)
  have k1 : decide ((a : Int) < 0) = false := decide_eq_false (by omega)
  have k2 : decide (s.size < b) = false := decide_eq_false (by omega)
  have k3 : decide (b ≤ a) = false := decide_eq_false (by omega)
  generalize ((plN s.data.toList a).1 : Int) = la at HA i1 i3
  generalize ((plN s.data.toList a).2 : Int) = ca at HA i1
  generalize ((plN s.data.toList b).1 : Int) = lb at HBB i1 i4
  generalize ((plN s.data.toList b).2 : Int) = cb at HBB i1 i2
  generalize ((ssN s.data.toList).length : Int) = N at HLN i4
  have j2 : decide ((1 : Int) ≤ cb) = true := decide_eq_true i2
  have j3 : decide ((1 : Int) ≤ la) = true := decide_eq_true i3
  have j4 : decide (lb ≤ N) = true := decide_eq_true i4
  clear hs hab hb i2 i3 i4
  by_cases h1 : la < lb
  · have j1 : decide (la < lb) = true := decide_eq_true h1
    clear i1 h1
    have tok_w0 : True := trivial
    have tok_w1 : True := trivial
    have tok_w2 : True := trivial
    have tok_w4 : True := trivial
    go_enter Tryd.func8, Tryd.ntmps8
    go_wp2_with (first | (clear tok_w0; go_at_call 21; (with_reducible refine (tells_any _ HT.out).mono ?_); rintro e w0 ⟨rfl, hb⟩; have n0_ := pxs HB hb; clear HB; have HB := n0_; clear n0_ hb) | (clear tok_w1; go_at_call 10; (with_reducible refine (of_any s _ HS.out).mono ?_); rintro e w1 ⟨g, rfl, htab, hb⟩; have HB0 := pxs HB hb; have HT1 := Aside0.mk (HT.out.below HB0.out); have HTB := Aside0.mk htab; clear HB HT; have HB := Aside0.mk (Below.refl w1.heap.size w1); clear htab hb) | (clear tok_w2; go_at_call 13; (with_reducible refine (HA.out _ _ _ HTB.out _ (pxb HB)).mono ?_); rintro e w2 ⟨rfl, hb⟩; have n0_ := pxs HB hb; clear HB ; have HB := n0_; clear n0_; clear hb) | ((with_reducible refine gate_dst (N := 9) rfl ?_); refine box_event ?hg (N := 9) ?hd (cs := #[.int .i64 0, .int .i64 0]) (t := 35) ?hr ?_; (case hd => rfl); (case hg => rfl); (case hr => first | (go_simp; done) | (go_simp; rfl)); intro gp hg w3 hbox hb; have NWPA := Aside0.mk hbox; have GWPA := Aside0.mk ((by rw [hg]; exact (below_size (pxb HB)) : w1.heap.size ≤ gp)); clear hg hbox; have n0_ := pxs HB hb; clear HB ; have HB := n0_; clear n0_; have PA := NWPA; clear NWPA hb; obtain ⟨xPA0, xPA1, yPA0, yPA1⟩ := pxf2 PA) | (clear tok_w4; go_at_call 13; (with_reducible refine (HBB.out _ _ _ HTB.out _ (pxb HB)).mono ?_); rintro e w4 ⟨rfl, hb⟩; have n0_ := pxs HB hb; have nPA_ : Aside0 (w4.heap[gp]? = some (.cells #[.int .i64 la, .int .i64 ca] 35 (0, 0))) := ⟨blk_below (pxp PA) hb⟩; clear HB PA; have HB := n0_; clear n0_; have PA := nPA_; clear nPA_; clear hb; obtain ⟨xPA0, xPA1, yPA0, yPA1⟩ := pxf2 PA) | ((with_reducible refine gate_dst (N := 11) rfl ?_); refine box_event ?hg (N := 11) ?hd (cs := #[.int .i64 0, .int .i64 0]) (t := 35) ?hr ?_; (case hd => rfl); (case hg => rfl); (case hr => first | (go_simp; done) | (go_simp; rfl)); intro gq hg w5 hbox hb; have NWPB := Aside0.mk hbox; have GWPB := Aside0.mk ((by rw [hg]; exact (below_size (pxb HB)) : w1.heap.size ≤ gq)); have NEPAPB := Aside0.mk (show gp ≠ gq by rw [hg]; exact Nat.ne_of_lt (blk_lt (pxp (o := .cells #[.int .i64 la, .int .i64 ca] 35 (0, 0)) PA))); have NEPBPA := Aside0.mk (Ne.symm NEPAPB.out); have ePAPB := NEPAPB.out; have ePBPA := NEPBPA.out; clear hg hbox; have n0_ := pxs HB hb; have nPA_ : Aside0 (w5.heap[gp]? = some (.cells #[.int .i64 la, .int .i64 ca] 35 (0, 0))) := ⟨blk_below (pxp PA) hb⟩; clear HB PA; have HB := n0_; clear n0_; have PA := nPA_; clear nPA_; have PB := NWPB; clear NWPB hb; obtain ⟨xPA0, xPA1, yPA0, yPA1⟩ := pxf2 PA; obtain ⟨xPB0, xPB1, yPB0, yPB1⟩ := pxf2 PB))
    go_quiet ((go_at_call 11; exact Calls.quiet_of_same (HLN.out _ _ _ HTB.out _ (pw_below_drewN (pxb HB) _))))
    go_wp2
    go_ret
    exact ⟨rfl, below_step HB0.out (pxb HB)⟩
  · obtain ⟨rfl, h2⟩ : la = lb ∧ ca < cb := by omega
    have j1 : decide (la < la) = false := decide_eq_false (by omega)
    have j5 : decide (ca < cb) = true := decide_eq_true h2
    have j6 : (la == la) = true := beq_self_eq_true la
    clear i1 h1 h2
    have tok_w0 : True := trivial
    have tok_w1 : True := trivial
    have tok_w2 : True := trivial
    have tok_w4 : True := trivial
    go_enter Tryd.func8, Tryd.ntmps8
    go_wp2_with (first | (clear tok_w0; go_at_call 21; (with_reducible refine (tells_any _ HT.out).mono ?_); rintro e w0 ⟨rfl, hb⟩; have n0_ := pxs HB hb; clear HB; have HB := n0_; clear n0_ hb) | (clear tok_w1; go_at_call 10; (with_reducible refine (of_any s _ HS.out).mono ?_); rintro e w1 ⟨g, rfl, htab, hb⟩; have HB0 := pxs HB hb; have HT1 := Aside0.mk (HT.out.below HB0.out); have HTB := Aside0.mk htab; clear HB HT; have HB := Aside0.mk (Below.refl w1.heap.size w1); clear htab hb) | (clear tok_w2; go_at_call 13; (with_reducible refine (HA.out _ _ _ HTB.out _ (pxb HB)).mono ?_); rintro e w2 ⟨rfl, hb⟩; have n0_ := pxs HB hb; clear HB ; have HB := n0_; clear n0_; clear hb) | ((with_reducible refine gate_dst (N := 9) rfl ?_); refine box_event ?hg (N := 9) ?hd (cs := #[.int .i64 0, .int .i64 0]) (t := 35) ?hr ?_; (case hd => rfl); (case hg => rfl); (case hr => first | (go_simp; done) | (go_simp; rfl)); intro gp hg w3 hbox hb; have NWPA := Aside0.mk hbox; have GWPA := Aside0.mk ((by rw [hg]; exact (below_size (pxb HB)) : w1.heap.size ≤ gp)); clear hg hbox; have n0_ := pxs HB hb; clear HB ; have HB := n0_; clear n0_; have PA := NWPA; clear NWPA hb; obtain ⟨xPA0, xPA1, yPA0, yPA1⟩ := pxf2 PA) | (clear tok_w4; go_at_call 13; (with_reducible refine (HBB.out _ _ _ HTB.out _ (pxb HB)).mono ?_); rintro e w4 ⟨rfl, hb⟩; have n0_ := pxs HB hb; have nPA_ : Aside0 (w4.heap[gp]? = some (.cells #[.int .i64 la, .int .i64 ca] 35 (0, 0))) := ⟨blk_below (pxp PA) hb⟩; clear HB PA; have HB := n0_; clear n0_; have PA := nPA_; clear nPA_; clear hb; obtain ⟨xPA0, xPA1, yPA0, yPA1⟩ := pxf2 PA) | ((with_reducible refine gate_dst (N := 11) rfl ?_); refine box_event ?hg (N := 11) ?hd (cs := #[.int .i64 0, .int .i64 0]) (t := 35) ?hr ?_; (case hd => rfl); (case hg => rfl); (case hr => first | (go_simp; done) | (go_simp; rfl)); intro gq hg w5 hbox hb; have NWPB := Aside0.mk hbox; have GWPB := Aside0.mk ((by rw [hg]; exact (below_size (pxb HB)) : w1.heap.size ≤ gq)); have NEPAPB := Aside0.mk (show gp ≠ gq by rw [hg]; exact Nat.ne_of_lt (blk_lt (pxp (o := .cells #[.int .i64 la, .int .i64 ca] 35 (0, 0)) PA))); have NEPBPA := Aside0.mk (Ne.symm NEPAPB.out); have ePAPB := NEPAPB.out; have ePBPA := NEPBPA.out; clear hg hbox; have n0_ := pxs HB hb; have nPA_ : Aside0 (w5.heap[gp]? = some (.cells #[.int .i64 la, .int .i64 ca] 35 (0, 0))) := ⟨blk_below (pxp PA) hb⟩; clear HB PA; have HB := n0_; clear n0_; have PA := nPA_; clear nPA_; have PB := NWPB; clear NWPB hb; obtain ⟨xPA0, xPA1, yPA0, yPA1⟩ := pxf2 PA; obtain ⟨xPB0, xPB1, yPB0, yPB1⟩ := pxf2 PB))
    go_quiet ((go_at_call 11; exact Calls.quiet_of_same (HLN.out _ _ _ HTB.out _ (pw_below_drewN (pxb HB) _))))
    go_wp2
    go_ret
    exact ⟨rfl, below_step HB0.out (pxb HB)⟩
theorem order_any (s : ByteArray) (a b : Int) (w : World) (ht : TT w) : Calls Tryd.prog 8 #[.string s, .int .i64 a, .int .i64 b] w fun e w' => e = .returned (.bool true) ∧ Below w.heap.size w w' := by
  by_cases h : 65536 < s.size ∨ a < 0 ∨ (s.size : Int) < b ∨ b ≤ a
  · exact order_out s a b h w ht
  · obtain ⟨a, rfl⟩ : ∃ m : Nat, a = m := ⟨a.toNat, by omega⟩
    obtain ⟨b, rfl⟩ : ∃ m : Nat, b = m := ⟨b.toNat, by omega⟩
    exact order_in s a b (by omega) (by omega) (by omega) w ht
end Go.Proofs.YtimhbepecnmjeaaDoor.LiW
