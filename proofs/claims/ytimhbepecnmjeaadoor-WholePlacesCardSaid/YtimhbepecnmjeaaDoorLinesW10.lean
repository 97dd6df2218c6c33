/- The place of each byte of a text is told by the line ends ahead of it, and back it is that byte: the law's walk; every input. -/
import Derived.Test.YtimhbepecnmjeaaDoorLinesW9
import Derived.Test.YtimhbepecnmjeaaDoorRefLines
namespace Go.Proofs.YtimhbepecnmjeaaDoor.LiW
open Go.RowKit Go.Shelf Go.Proofs.YtimhbepecnmjeaaDoorW.PrintWords Go.Proofs.YtimhbepecnmjeaaDoorW.PrintLast Go.Proofs.YtimhbepecnmjeaaDoor.Li
set_option linter.unusedVariables false
set_option linter.unusedSimpArgs false
/-- What the document's answers come to, as contracts. -/
theorem ref_at_c {s : ByteArray} {n : Nat} (hn : n ≤ s.size) (hs : s.size ≤ 65536) (W : World) : Calls Tryd.prog 22 #[.string s, .int .i64 (n : Int)] W fun e w' => e = .returned (.tuple #[.int .i64 ((plN s.data.toList n).1 : Int), .int .i64 ((plN s.data.toList n).2 : Int)]) ∧ Below W.heap.size W w' := by
  obtain ⟨K, hK⟩ := LiR.ref_at s n hn hs
  exact (X.caulkerref02_At.calls K s _ _ _ W (hK K (Nat.le_refl _))).mono fun e w' h => ⟨h.1, h.2.below⟩
theorem ref_number_c {n : Nat} (hn : n ≤ 70000) (W : World) : Calls Tryd.prog 25 #[.int .i64 (n : Int)] W fun e w' => e = .returned (.string ⟨(Lib.itoa (n : Int)).toArray⟩) ∧ Below W.heap.size W w' := by
  obtain ⟨K, hK⟩ := LiR.ref_number n hn
  exact X.caulkerref02_Number.calls K _ _ W (hK K (Nat.le_refl _))
set_option maxHeartbeats 8000000 in
set_option maxRecDepth 100000 in
theorem places_long (s : ByteArray) (a : Int) (hl : 65536 < s.size) (w : World) (ht : TT w) : Calls Tryd.prog 4 #[.string s, .int .i64 a] w fun e w' => e = .returned (.bool true) ∧ Below w.heap.size w w' := by
  have HB := Aside0.mk (Below.refl w.heap.size w)
  have HT := Aside0.mk ht
  clear ht
  have HL := Lib.hid hl
  have k0 : decide ((65536 : Int) < (s.size : Int)) = true := decide_eq_true (by omega)
  clear hl
  have tok_w0 : True := trivial
  have tok_w2 : True := trivial
  go_enter Tryd.func4, Tryd.ntmps4
  go_wp2_with (first | (clear tok_w0; go_at_call 21; (with_reducible refine (tells_any _ HT.out).mono ?_); rintro e w0 ⟨rfl, hb⟩; have n0_ := pxs HB hb; clear HB; have HB := n0_; clear n0_ hb) | (clear tok_w2; go_at_call 10; (with_reducible refine (of_long s _ HL.out).mono ?_); rintro e w2 ⟨rfl, hb⟩; have n0_ := pxs HB hb; clear HB; have HB := n0_; clear n0_ hb))
  go_ret
  exact ⟨rfl, pxb HB⟩
set_option maxHeartbeats 8000000 in
set_option maxRecDepth 100000 in
theorem places_bad (s : ByteArray) (a : Int) (hs : s.size ≤ 65536) (ha : ¬ (0 ≤ a ∧ a ≤ s.size)) (w : World) (ht : TT w) : Calls Tryd.prog 4 #[.string s, .int .i64 a] w fun e w' => e = .returned (.bool true) ∧ Below w.heap.size w w' := by
  have HB := Aside0.mk (Below.refl w.heap.size w)
  have HT := Aside0.mk ht
  clear ht
  have HS := Lib.hid hs
  have HA := Lib.hid (fun g B (w1 : World) (h : Tab g B s w1) => at_from hs h a (atV_bad ha))
  have k0 : decide ((65536 : Int) < (s.size : Int)) = false := decide_eq_false (by omega)
  by_cases h1 : a < 0
  · have k1 : decide (a < 0) = true := decide_eq_true h1
    clear hs ha h1
    have tok_w0 : True := trivial
    have tok_w1 : True := trivial
    have tok_w2 : True := trivial
    go_enter Tryd.func4, Tryd.ntmps4
    go_wp2_with (first | (clear tok_w0; go_at_call 21; (with_reducible refine (tells_any _ HT.out).mono ?_); rintro e w0 ⟨rfl, hb⟩; have n0_ := pxs HB hb; clear HB; have HB := n0_; clear n0_ hb) | (clear tok_w1; go_at_call 10; (with_reducible refine (of_any s _ HS.out).mono ?_); rintro e w1 ⟨g, rfl, htab, hb⟩; have HB0 := pxs HB hb; have HT1 := Aside0.mk (HT.out.below HB0.out); have HTB := Aside0.mk htab; clear HB HT; have HB := Aside0.mk (Below.refl w1.heap.size w1); clear htab hb) | (clear tok_w2; go_at_call 13; (with_reducible refine (HA.out _ _ _ HTB.out _ (pxb HB)).mono ?_); rintro e w2 ⟨rfl, hb⟩; have n0_ := pxs HB hb; clear HB ; have HB := n0_; clear n0_; clear hb) | ((with_reducible refine gate_dst (N := 9) rfl ?_); refine box_event ?hg (N := 9) ?hd (cs := #[.int .i64 0, .int .i64 0]) (t := 35) ?hr ?_; (case hd => rfl); (case hg => rfl); (case hr => first | (go_simp; done) | (go_simp; rfl)); intro gp hg w3 hbox hb; have NWPA := Aside0.mk hbox; have GWPA := Aside0.mk ((by rw [hg]; exact (below_size (pxb HB)) : w1.heap.size ≤ gp)); clear hg hbox; have n0_ := pxs HB hb; clear HB ; have HB := n0_; clear n0_; have PA := NWPA; clear NWPA hb; obtain ⟨xPA0, xPA1, yPA0, yPA1⟩ := pxf2 PA))
    go_ret
    exact ⟨rfl, below_step HB0.out (pxb HB)⟩
  · have k1 : decide (a < 0) = false := decide_eq_false h1
    have k2 : decide ((s.size : Int) < a) = true := decide_eq_true (by omega)
    clear hs ha h1
    have tok_w0 : True := trivial
    have tok_w1 : True := trivial
    have tok_w2 : True := trivial
    go_enter Tryd.func4, Tryd.ntmps4
    go_wp2_with (first | (clear tok_w0; go_at_call 21; (with_reducible refine (tells_any _ HT.out).mono ?_); rintro e w0 ⟨rfl, hb⟩; have n0_ := pxs HB hb; clear HB; have HB := n0_; clear n0_ hb) | (clear tok_w1; go_at_call 10; (with_reducible refine (of_any s _ HS.out).mono ?_); rintro e w1 ⟨g, rfl, htab, hb⟩; have HB0 := pxs HB hb; have HT1 := Aside0.mk (HT.out.below HB0.out); have HTB := Aside0.mk htab; clear HB HT; have HB := Aside0.mk (Below.refl w1.heap.size w1); clear htab hb) | (clear tok_w2; go_at_call 13; (with_reducible refine (HA.out _ _ _ HTB.out _ (pxb HB)).mono ?_); rintro e w2 ⟨rfl, hb⟩; have n0_ := pxs HB hb; clear HB ; have HB := n0_; clear n0_; clear hb) | ((with_reducible refine gate_dst (N := 9) rfl ?_); refine box_event ?hg (N := 9) ?hd (cs := #[.int .i64 0, .int .i64 0]) (t := 35) ?hr ?_; (case hd => rfl); (case hg => rfl); (case hr => first | (go_simp; done) | (go_simp; rfl)); intro gp hg w3 hbox hb; have NWPA := Aside0.mk hbox; have GWPA := Aside0.mk ((by rw [hg]; exact (below_size (pxb HB)) : w1.heap.size ≤ gp)); clear hg hbox; have n0_ := pxs HB hb; clear HB ; have HB := n0_; clear n0_; have PA := NWPA; clear NWPA hb; obtain ⟨xPA0, xPA1, yPA0, yPA1⟩ := pxf2 PA))
    go_ret
    exact ⟨rfl, below_step HB0.out (pxb HB)⟩
/-- The byte at a byte's place. -/
theorem byte_back {s : ByteArray} {a : Nat} (ha : a ≤ s.size) (hs : s.size ≤ 65536) : byteV s ((plN s.data.toList a).1 : Int) ((plN s.data.toList a).2 : Int) = ((a : Int), 0) := by
  have hlen : s.data.toList.length = s.size := Array.length_toList
  have h := cn_line (l := s.data.toList) (k := a) (by omega)
  have p1 := @cnN_pos s.data.toList a
  have p2 := @cnN_le s.data.toList a
  rw [plN_eq (by omega)]
  dsimp only
  unfold byteV
  have e : ((cnN s.data.toList a : Int) - 1).toNat = cnN s.data.toList a - 1 := by omega
  rw [e, if_pos ⟨by omega, by omega, by omega, by omega, by omega⟩]
  refine Prod.ext ?_ rfl
  show _ = (a : Int)
  dsimp only
  omega
set_option maxHeartbeats 8000000 in
set_option maxRecDepth 100000 in
theorem places_in (s : ByteArray) (a : Nat) (hs : s.size ≤ 65536) (ha : a ≤ s.size) (w : World) (ht : TT w) : Calls Tryd.prog 4 #[.string s, .int .i64 (a : Int)] w fun e w' => e = .returned (.bool true) ∧ Below w.heap.size w w' := by
  have HB := Aside0.mk (Below.refl w.heap.size w)
  have HT := Aside0.mk ht
  clear ht
  have HS := Lib.hid hs
  have hsm := plN_small ha hs
  have eA := atV_ok (s := s) (k := (a : Int)) (by omega)
  rw [Int.toNat_natCast] at eA
  have HA := Lib.hid (fun g B (w1 : World) (h : Tab g B s w1) => at_from hs h (a : Int) eA)
  have HBY := Lib.hid (fun g B (w1 : World) (h : Tab g B s w1) => byte_from hs h _ _ (byte_back ha hs))
  have HRA := Lib.hid (fun W => ref_at_c ha hs W)
  have HST := Lib.hid (fun (W : World) (ht : TT W) => string_any _ _ W hsm.1 hsm.2 ht)
  have HNA := Lib.hid (fun W => ref_number_c (n := (plN s.data.toList a).1) (by omega) W)
  have HNC := Lib.hid (fun W => ref_number_c (n := (plN s.data.toList a).2) (by omega) W)
  have hsa := itoa_short _ hsm.1
  have hsb := itoa_short _ hsm.2
  unfold plS at HST
  have k0 : decide ((65536 : Int) < (s.size : Int)) = false := decide_eq_false (by omega)
  have k1 : decide ((a : Int) < 0) = false := decide_eq_false (by omega)
  have k2 : decide (s.size < a) = false := decide_eq_false (by omega)
  clear eA hsm
  generalize ((plN s.data.toList a).1 : Int) = la at *
  generalize ((plN s.data.toList a).2 : Int) = ca at *
  generalize (⟨(Lib.itoa la).toArray⟩ : ByteArray) = sa at *
  generalize (⟨(Lib.itoa ca).toArray⟩ : ByteArray) = sb at *
  have q1 : (9223372036854775807 < sa.size + 1) = False := eq_false (by omega)
  have q2 : (9223372036854775807 < sa.size + 1 + sb.size) = False := eq_false (by omega)
  have hz : (sa ++ (⟨#[58]⟩ : ByteArray)).size = sa.size + 1 := ByteArray.size_append
  clear hs ha hsa hsb
  have tok_w0 : True := trivial
  have tok_w1 : True := trivial
  have tok_w2 : True := trivial
  have tok_w4 : True := trivial
  have tok_w5 : True := trivial
  have tok_w6 : True := trivial
  have tok_w7 : True := trivial
  have tok_w8 : True := trivial
  go_enter Tryd.func4, Tryd.ntmps4
  go_wp2_with (first | (clear tok_w0; go_at_call 21; (with_reducible refine (tells_any _ HT.out).mono ?_); rintro e w0 ⟨rfl, hb⟩; have n0_ := pxs HB hb; clear HB; have HB := n0_; clear n0_ hb) | (clear tok_w1; go_at_call 10; (with_reducible refine (of_any s _ HS.out).mono ?_); rintro e w1 ⟨g, rfl, htab, hb⟩; have HB0 := pxs HB hb; have HT1 := Aside0.mk (HT.out.below HB0.out); have HTB := Aside0.mk htab; clear HB HT; have HB := Aside0.mk (Below.refl w1.heap.size w1); clear htab hb) | (clear tok_w2; go_at_call 13; (with_reducible refine (HA.out _ _ _ HTB.out _ (pxb HB)).mono ?_); rintro e w2 ⟨rfl, hb⟩; have n0_ := pxs HB hb; clear HB ; have HB := n0_; clear n0_; clear hb) | ((with_reducible refine gate_dst (N := 9) rfl ?_); refine box_event ?hg (N := 9) ?hd (cs := #[.int .i64 0, .int .i64 0]) (t := 35) ?hr ?_; (case hd => rfl); (case hg => rfl); (case hr => first | (go_simp; done) | (go_simp; rfl)); intro gp hg w3 hbox hb; have NWPA := Aside0.mk hbox; have GWPA := Aside0.mk ((by rw [hg]; exact (below_size (pxb HB)) : w1.heap.size ≤ gp)); clear hg hbox; have n0_ := pxs HB hb; clear HB ; have HB := n0_; clear n0_; have PA := NWPA; clear NWPA hb; obtain ⟨xPA0, xPA1, yPA0, yPA1⟩ := pxf2 PA) | (clear tok_w4; go_at_call 22; (with_reducible refine (HRA.out _).mono ?_); rintro e w4 ⟨rfl, hb⟩; have n0_ := pxs HB hb; have nPA_ : Aside0 (w4.heap[gp]? = some (.cells #[.int .i64 la, .int .i64 ca] 35 (0, 0))) := ⟨blk_below (pxp PA) hb⟩; clear HB PA; have HB := n0_; clear n0_; have PA := nPA_; clear nPA_; clear hb; obtain ⟨xPA0, xPA1, yPA0, yPA1⟩ := pxf2 PA) | (clear tok_w5; go_at_call 23; (with_reducible refine (HBY.out _ _ _ HTB.out _ (pxb HB)).mono ?_); rintro e w5 ⟨rfl, hb⟩; have n0_ := pxs HB hb; have nPA_ : Aside0 (w5.heap[gp]? = some (.cells #[.int .i64 la, .int .i64 ca] 35 (0, 0))) := ⟨blk_below (pxp PA) hb⟩; clear HB PA; have HB := n0_; clear n0_; have PA := nPA_; clear nPA_; clear hb; obtain ⟨xPA0, xPA1, yPA0, yPA1⟩ := pxf2 PA) | (clear tok_w6; go_at_call 24; (with_reducible refine (HST.out _ (HT1.out.below (pxb HB))).mono ?_); rintro e w6 ⟨rfl, hb⟩; have n0_ := pxs HB hb; have nPA_ : Aside0 (w6.heap[gp]? = some (.cells #[.int .i64 la, .int .i64 ca] 35 (0, 0))) := ⟨blk_below (pxp PA) hb⟩; clear HB PA; have HB := n0_; clear n0_; have PA := nPA_; clear nPA_; clear hb; obtain ⟨xPA0, xPA1, yPA0, yPA1⟩ := pxf2 PA) | (clear tok_w7; go_at_call 25; (with_reducible refine (HNA.out _).mono ?_); rintro e w7 ⟨rfl, hb⟩; have n0_ := pxs HB hb; have nPA_ : Aside0 (w7.heap[gp]? = some (.cells #[.int .i64 la, .int .i64 ca] 35 (0, 0))) := ⟨blk_below (pxp PA) hb⟩; clear HB PA; have HB := n0_; clear n0_; have PA := nPA_; clear nPA_; clear hb; obtain ⟨xPA0, xPA1, yPA0, yPA1⟩ := pxf2 PA) | (clear tok_w8; go_at_call 25; (with_reducible refine (HNC.out _).mono ?_); rintro e w8 ⟨rfl, hb⟩; have n0_ := pxs HB hb; have nPA_ : Aside0 (w8.heap[gp]? = some (.cells #[.int .i64 la, .int .i64 ca] 35 (0, 0))) := ⟨blk_below (pxp PA) hb⟩; clear HB PA; have HB := n0_; clear n0_; have PA := nPA_; clear nPA_; clear hb; obtain ⟨xPA0, xPA1, yPA0, yPA1⟩ := pxf2 PA))
  go_ret
  exact ⟨rfl, below_step HB0.out (pxb HB)⟩
theorem places_any (s : ByteArray) (a : Int) (w : World) (ht : TT w) : Calls Tryd.prog 4 #[.string s, .int .i64 a] w fun e w' => e = .returned (.bool true) ∧ Below w.heap.size w w' := by
  by_cases hl : 65536 < s.size
  · exact places_long s a hl w ht
  · by_cases ha : 0 ≤ a ∧ a ≤ s.size
    · obtain ⟨a, rfl⟩ : ∃ m : Nat, a = m := ⟨a.toNat, by omega⟩
      exact places_in s a (by omega) (by omega) w ht
    · exact places_bad s a (by omega) ha w ht
end Go.Proofs.YtimhbepecnmjeaaDoor.LiW
