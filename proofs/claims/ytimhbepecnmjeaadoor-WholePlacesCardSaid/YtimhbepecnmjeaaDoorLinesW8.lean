/- The heads of the laws: what is asked of the program first holds. -/
import Derived.Test.YtimhbepecnmjeaaDoorLinesW7
namespace Go.Proofs.YtimhbepecnmjeaaDoor.LiW
open Go.RowKit Go.Shelf Go.Proofs.YtimhbepecnmjeaaDoorW.PrintWords Go.Proofs.YtimhbepecnmjeaaDoorW.PrintLast Go.Proofs.YtimhbepecnmjeaaDoor.Li
set_option linter.unusedVariables false
set_option linter.unusedSimpArgs false
abbrev s0 : ByteArray := ⟨#[97, 98, 13, 10, 99, 100, 101]⟩
theorem itoa_dig {k : Nat} (h : k < 10) : Lib.itoa (k : Int) = [UInt8.ofNat (48 + k)] := by
  unfold Lib.itoa
  rw [if_neg (by omega), Int.toNat_natCast, Lib.decDigits_one h]
theorem s0_at : atV s0 5 = (2, 2, 0) := by decide +kernel
theorem s0_text : textV s0 1 = (⟨#[97, 98]⟩, 0) := by decide +kernel
theorem s0_byte : byteV s0 2 4 = (7, 0) := by decide +kernel
theorem s0_point : pointV s0 4 6 = (⟨#[99, 100, 101, 10, 94, 94, 10]⟩, 0) := by decide +kernel
theorem plS_dig {a b : Nat} (ha : a < 10) (hb : b < 10) : plS (a : Int) (b : Int) = ⟨#[UInt8.ofNat (48 + a), 58, UInt8.ofNat (48 + b)]⟩ := by
  unfold plS
  rw [itoa_dig ha, itoa_dig hb]
  rfl
theorem s0_show : showV s0 4 6 = (⟨#[50, 58, 49, 45, 50, 58, 51]⟩, 0) := by
  unfold showV
  rw [if_pos (by decide +kernel), if_neg (by decide)]
  have e1 : (plN s0.data.toList (4 : Int).toNat) = (2, 1) := by decide +kernel
  have e2 : (plN s0.data.toList (6 : Int).toNat) = (2, 3) := by decide +kernel
  rw [e1, e2]
  dsimp only
  rw [plS_dig (a := 2) (b := 1) (by decide) (by decide), plS_dig (a := 2) (b := 3) (by decide) (by decide)]
  rfl
theorem s0_lines : ((ssN s0.data.toList).length : Int) = 2 := by decide +kernel
theorem str22 (w : World) (ht : TT w) : Calls Tryd.prog 24 #[.agg #[.int .i64 2, .int .i64 2]] w fun e w' => e = .returned (.string ⟨#[50, 58, 50]⟩) ∧ Below w.heap.size w w' := by
  have h := string_any 2 2 w (by omega) (by omega) ht
  have e : plS 2 2 = ⟨#[50, 58, 50]⟩ := plS_dig (a := 2) (b := 2) (by decide) (by decide)
  rw [e] at h
  exact h
set_option maxHeartbeats 8000000 in
set_option maxRecDepth 100000 in
theorem tells_any (w : World) (ht : TT w) : Calls Tryd.prog 21 #[] w fun e w' => e = .returned (.bool true) ∧ Below w.heap.size w w' := by
  have HB := Aside0.mk (Below.refl w.heap.size w)
  have HT := Aside0.mk ht
  have HS := Lib.hid (show s0.size ≤ 65536 by decide)
  clear ht
  have tok_w1 : True := trivial
  have tok_w2 : True := trivial
  have tok_w3 : True := trivial
  have tok_w5 : True := trivial
  have tok_w6 : True := trivial
  have tok_w7 : True := trivial
  have tok_w8 : True := trivial
  have tok_w9 : True := trivial
  go_enter Tryd.func21, Tryd.ntmps21
  go_wp2_with (first | (clear tok_w1; go_at_call 10; (with_reducible refine (of_any s0 _ HS.out).mono ?_); rintro e w1 ⟨g, rfl, htab, hb⟩; have HB0 := pxs HB hb; have HT1 := Aside0.mk (HT.out.below HB0.out); have HTB := Aside0.mk htab; clear HB HT; have HB := Aside0.mk (Below.refl w1.heap.size w1); clear htab hb) | (clear tok_w2; go_at_call 11; (with_reducible refine (lines_from HS.out HTB.out s0_lines _ (pxb HB)).mono ?_); rintro e w2 ⟨rfl, rfl⟩) | (clear tok_w3; go_at_call 13; (with_reducible refine (at_from HS.out HTB.out _ s0_at _ (pxb HB)).mono ?_); rintro e w3 ⟨rfl, hb⟩; have n0_ := pxs HB hb; clear HB ; have HB := n0_; clear n0_; clear hb) | ((with_reducible refine gate_dst (N := 3) rfl ?_); refine box_event ?hg (N := 3) ?hd (cs := #[.int .i64 0, .int .i64 0]) (t := 35) ?hr ?_; (case hd => rfl); (case hg => rfl); (case hr => first | (go_simp; done) | (go_simp; rfl)); intro gp hg w4 hbox hb; have NWPB := Aside0.mk hbox; have GWPB := Aside0.mk ((by rw [hg]; exact (below_size (pxb HB)) : w1.heap.size ≤ gp)); clear hg hbox; have n0_ := pxs HB hb; clear HB ; have HB := n0_; clear n0_; have PB := NWPB; clear NWPB hb; obtain ⟨xPB0, xPB1, yPB0, yPB1⟩ := pxf2 PB) | (clear tok_w5; go_at_call 27; (with_reducible refine (text_from HS.out HTB.out _ s0_text _ (pxb HB)).mono ?_); rintro e w5 ⟨rfl, hb⟩; have n0_ := pxs HB hb; have nPB_ : Aside0 (w5.heap[gp]? = some (.cells #[.int .i64 2, .int .i64 2] 35 (0, 0))) := ⟨blk_below (pxp PB) hb⟩; clear HB PB; have HB := n0_; clear n0_; have PB := nPB_; clear nPB_; clear hb; obtain ⟨xPB0, xPB1, yPB0, yPB1⟩ := pxf2 PB) | (clear tok_w6; go_at_call 23; (with_reducible refine (byte_from HS.out HTB.out _ _ s0_byte _ (pxb HB)).mono ?_); rintro e w6 ⟨rfl, hb⟩; have n0_ := pxs HB hb; have nPB_ : Aside0 (w6.heap[gp]? = some (.cells #[.int .i64 2, .int .i64 2] 35 (0, 0))) := ⟨blk_below (pxp PB) hb⟩; clear HB PB; have HB := n0_; clear n0_; have PB := nPB_; clear nPB_; clear hb; obtain ⟨xPB0, xPB1, yPB0, yPB1⟩ := pxf2 PB) | (clear tok_w7; go_at_call 17; (with_reducible refine (show_from HS.out HTB.out HT1.out _ _ s0_show _ (pxb HB)).mono ?_); rintro e w7 ⟨rfl, hb⟩; have n0_ := pxs HB hb; have nPB_ : Aside0 (w7.heap[gp]? = some (.cells #[.int .i64 2, .int .i64 2] 35 (0, 0))) := ⟨blk_below (pxp PB) hb⟩; clear HB PB; have HB := n0_; clear n0_; have PB := nPB_; clear nPB_; clear hb; obtain ⟨xPB0, xPB1, yPB0, yPB1⟩ := pxf2 PB) | (clear tok_w8; go_at_call 18; (with_reducible refine (point_from HS.out HTB.out _ _ s0_point _ (pxb HB)).mono ?_); rintro e w8 ⟨rfl, hb⟩; have n0_ := pxs HB hb; have nPB_ : Aside0 (w8.heap[gp]? = some (.cells #[.int .i64 2, .int .i64 2] 35 (0, 0))) := ⟨blk_below (pxp PB) hb⟩; clear HB PB; have HB := n0_; clear n0_; have PB := nPB_; clear nPB_; clear hb; obtain ⟨xPB0, xPB1, yPB0, yPB1⟩ := pxf2 PB) | (clear tok_w9; go_at_call 24; (with_reducible refine (str22 _ (HT1.out.below (pxb HB))).mono ?_); rintro e w9 ⟨rfl, hb⟩; have n0_ := pxs HB hb; have nPB_ : Aside0 (w9.heap[gp]? = some (.cells #[.int .i64 2, .int .i64 2] 35 (0, 0))) := ⟨blk_below (pxp PB) hb⟩; clear HB PB; have HB := n0_; clear n0_; have PB := nPB_; clear nPB_; clear hb; obtain ⟨xPB0, xPB1, yPB0, yPB1⟩ := pxf2 PB))
  trace_state
  go_ret
  exact ⟨rfl, below_step HB0.out (pxb HB)⟩
end Go.Proofs.YtimhbepecnmjeaaDoor.LiW
