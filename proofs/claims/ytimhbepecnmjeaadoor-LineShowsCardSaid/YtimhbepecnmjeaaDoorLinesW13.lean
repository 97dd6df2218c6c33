/- Any span of a text is shown by its two places, and pointed at in its first line: the law's walk; every input. -/
import Derived.Test.YtimhbepecnmjeaaDoorLinesW12
import Derived.Test.YtimhbepecnmjeaaDoorRefLines
namespace Go.Proofs.YtimhbepecnmjeaaDoor.LiW
open Go.RowKit Go.Shelf Go.Proofs.YtimhbepecnmjeaaDoorW.PrintWords Go.Proofs.YtimhbepecnmjeaaDoorW.PrintLast Go.Proofs.YtimhbepecnmjeaaDoor.Li
set_option linter.unusedVariables false
set_option linter.unusedSimpArgs false
theorem toN_enN {l : List UInt8} (j : Nat) : toN l j ≤ enN l j + 1 := by
  rw [toN, enN]
  split
  · split <;> omega
  · omega
theorem ref_under_c {x : ByteArray} {c n : Nat} (hx : x.size ≤ 70000) (hc : c ≤ x.size + 2) (hn : n ≤ 70000) (W : World) : Calls Tryd.prog 29 #[.string x, .int .i64 ((c : Int) + 1), .int .i64 (n : Int)] W fun e w' => e = .returned (.string ⟨(LiR.blankR (x.data.toList.take c) ++ List.replicate (max 1 (min n (x.size - c))) 94).toArray⟩) ∧ Below W.heap.size W w' := by
  obtain ⟨K, hK⟩ := LiR.ref_under x c n hx hc hn
  exact (X.caulkerref02_Under.calls K x _ _ _ W (hK K (Nat.le_refl _))).mono fun e w' h => ⟨h.1, h.2.below⟩
/-- What Point answers is the line, and the signs below it. -/
theorem point_parts {s BA U : ByteArray} {f t : Nat} (hft : f ≤ t) (hts : t ≤ s.size)
    (hB : BA = ⟨(bareN s.data.toList (cnN s.data.toList f - 1)).toArray⟩) (hU : U = ⟨(LiR.blankR (BA.data.toList.take (f - sN s.data.toList (cnN s.data.toList f - 1))) ++ List.replicate (max 1 (min (t - f) (BA.size - (f - sN s.data.toList (cnN s.data.toList f - 1))))) 94).toArray⟩) :
    pointV s (f : Int) (t : Int) = (BA ++ ⟨#[10]⟩ ++ U ++ ⟨#[10]⟩, 0) := by
  have hlen : s.data.toList.length = s.size := Array.length_toList
  have hcl := cn_line (l := s.data.toList) (k := f) (by omega)
  have hbl := bareN_len hcl.1
  have hse := sN_enN hcl.1
  unfold pointV
  rw [if_pos (by omega), Int.toNat_natCast, Int.toNat_natCast]
  have hBl : BA.data.toList = bareN s.data.toList (cnN s.data.toList f - 1) := by rw [hB]
  have hBs : BA.size = (bareN s.data.toList (cnN s.data.toList f - 1)).length := by rw [← hBl]; exact Array.length_toList.symm
  rw [hBl] at hU
  generalize cnN s.data.toList f - 1 = j at *
  refine Prod.ext (LiR.ba_ext ?_) rfl
  show _ = (BA ++ ⟨#[10]⟩ ++ U ++ ⟨#[10]⟩).data.toList
  simp only [ByteArray.data_append, Array.toList_append]
  rw [hBl, hU]
  have e1 : max 1 (min (t - f) (BA.size - (f - sN s.data.toList j))) = max 1 (min t (enN s.data.toList j) - f) := by omega
  have e2 : (bareN s.data.toList j).take (min (f - sN s.data.toList j) (bareN s.data.toList j).length) = (bareN s.data.toList j).take (f - sN s.data.toList j) := by
    rcases Nat.le_total (f - sN s.data.toList j) (bareN s.data.toList j).length with h | h
    · rw [Nat.min_eq_left h]
    · rw [Nat.min_eq_right h, List.take_of_length_le (Nat.le_refl _), List.take_of_length_le h]
  rw [e1]
  unfold pointL
  rw [e2]
  simp [blankL, LiR.blankR]
set_option maxHeartbeats 8000000 in
set_option maxRecDepth 100000 in
theorem shows_long (s : ByteArray) (f t : Int) (hl : 5000 < s.size) (w : World) (ht : TT w) : Calls Tryd.prog 7 #[.string s, .agg #[.int .i64 f, .int .i64 t]] w fun e w' => e = .returned (.bool true) ∧ Below w.heap.size w w' := by
  have HB := Aside0.mk (Below.refl w.heap.size w)
  have HT := Aside0.mk ht
  clear ht
  have k0 : decide ((5000 : Int) < (s.size : Int)) = true := decide_eq_true (by omega)
  clear hl
  have tok_w0 : True := trivial
  go_enter Tryd.func7, Tryd.ntmps7
  go_wp2_with (first | ((with_reducible refine gate_dst (N := 3) rfl ?_); refine box_event ?hg (N := 3) ?hd (cs := #[.int .i64 f, .int .i64 t]) (t := 24) ?hr ?_; (case hd => rfl); (case hg => rfl); (case hr => first | (go_simp; done) | (go_simp; rfl)); intro gp hg wb hbox hb; have NWBP := Aside0.mk hbox; have GWBP := Aside0.mk ((by rw [hg]; exact (below_size (pxb HB)) : w.heap.size ≤ gp)); clear hg hbox; have n0_ := pxs HB hb; clear HB ; have HB := n0_; clear n0_; have BP := NWBP; clear NWBP hb; obtain ⟨xBP0, xBP1, yBP0, yBP1⟩ := pxf2 BP) | (clear tok_w0; go_at_call 21; (with_reducible refine (tells_any _ (HT.out.below (pxb HB))).mono ?_); rintro e w0 ⟨rfl, hb⟩; have n0_ := pxs HB hb; have nBP_ : Aside0 (w0.heap[gp]? = some (.cells #[.int .i64 f, .int .i64 t] 24 (0, 0))) := ⟨blk_below (pxp BP) hb⟩; clear HB BP; have HB := n0_; clear n0_; have BP := nBP_; clear nBP_; clear hb; obtain ⟨xBP0, xBP1, yBP0, yBP1⟩ := pxf2 BP))
  go_ret
  exact ⟨rfl, pxb HB⟩
set_option maxHeartbeats 8000000 in
set_option maxRecDepth 100000 in
theorem shows_bad (s : ByteArray) (f t : Int) (hs5 : s.size ≤ 5000) (hn : ¬ (0 ≤ f ∧ f ≤ t ∧ t ≤ s.size)) (w : World) (ht : TT w) : Calls Tryd.prog 7 #[.string s, .agg #[.int .i64 f, .int .i64 t]] w fun e w' => e = .returned (.bool true) ∧ Below w.heap.size w w' := by
  have HB := Aside0.mk (Below.refl w.heap.size w)
  have HT := Aside0.mk ht
  clear ht
  have hs : s.size ≤ 65536 := by omega
  have HS := Lib.hid hs
  have HSH := Lib.hid (fun g B (w1 : World) (h : Tab g B s w1) (ht : TT w1) => show_from hs h ht f t (show showV s f t = (⟨#[]⟩, 1) by rw [showV, if_neg hn]))
  have HPT := Lib.hid (fun g B (w1 : World) (h : Tab g B s w1) => point_from hs h f t (show pointV s f t = (⟨#[]⟩, 1) by rw [pointV, if_neg hn]))
  have k0 : decide ((5000 : Int) < (s.size : Int)) = false := decide_eq_false (by omega)
  by_cases h1 : f < 0
  · have k1 : decide (f < 0) = true := decide_eq_true h1
    clear hs hs5 hn h1
    have tok_w0 : True := trivial
    have tok_w1 : True := trivial
    have tok_w2 : True := trivial
    have tok_w3 : True := trivial
    go_enter Tryd.func7, Tryd.ntmps7
    go_wp2_with (first | ((with_reducible refine gate_dst (N := 3) rfl ?_); refine box_event ?hg (N := 3) ?hd (cs := #[.int .i64 f, .int .i64 t]) (t := 24) ?hr ?_; (case hd => rfl); (case hg => rfl); (case hr => first | (go_simp; done) | (go_simp; rfl)); intro gp hg wb hbox hb; have NWBP := Aside0.mk hbox; have GWBP := Aside0.mk ((by rw [hg]; exact (below_size (pxb HB)) : w.heap.size ≤ gp)); clear hg hbox; have n0_ := pxs HB hb; clear HB ; have HB := n0_; clear n0_; have BP := NWBP; clear NWBP hb; obtain ⟨xBP0, xBP1, yBP0, yBP1⟩ := pxf2 BP) | (clear tok_w0; go_at_call 21; (with_reducible refine (tells_any _ (HT.out.below (pxb HB))).mono ?_); rintro e w0 ⟨rfl, hb⟩; have n0_ := pxs HB hb; have nBP_ : Aside0 (w0.heap[gp]? = some (.cells #[.int .i64 f, .int .i64 t] 24 (0, 0))) := ⟨blk_below (pxp BP) hb⟩; clear HB BP; have HB := n0_; clear n0_; have BP := nBP_; clear nBP_; clear hb; obtain ⟨xBP0, xBP1, yBP0, yBP1⟩ := pxf2 BP) | (clear tok_w1; go_at_call 10; (with_reducible refine (of_any s _ HS.out).mono ?_); rintro e w1 ⟨g, rfl, htab, hb⟩; have HB0 := pxs HB hb; have HT1 := Aside0.mk (HT.out.below HB0.out); have HTB := Aside0.mk htab; have n0_ : Aside0 (w1.heap[gp]? = some (.cells #[.int .i64 f, .int .i64 t] 24 (0, 0))) := ⟨blk_below (pxp BP) hb⟩; clear HB HT BP; have HB := Aside0.mk (Below.refl w1.heap.size w1); have BP := n0_; clear n0_ htab hb; obtain ⟨xBP0, xBP1, yBP0, yBP1⟩ := pxf2 BP) | (clear tok_w2; go_at_call 17; (with_reducible refine (HSH.out _ _ _ HTB.out HT1.out _ (pxb HB)).mono ?_); rintro e w2 ⟨rfl, hb⟩; have n0_ := pxs HB hb; have nBP_ : Aside0 (w2.heap[gp]? = some (.cells #[.int .i64 f, .int .i64 t] 24 (0, 0))) := ⟨blk_below (pxp BP) hb⟩; clear HB BP; have HB := n0_; clear n0_; have BP := nBP_; clear nBP_; clear hb; obtain ⟨xBP0, xBP1, yBP0, yBP1⟩ := pxf2 BP) | (clear tok_w3; go_at_call 18; (with_reducible refine (HPT.out _ _ _ HTB.out _ (pxb HB)).mono ?_); rintro e w3 ⟨rfl, hb⟩; have n0_ := pxs HB hb; have nBP_ : Aside0 (w3.heap[gp]? = some (.cells #[.int .i64 f, .int .i64 t] 24 (0, 0))) := ⟨blk_below (pxp BP) hb⟩; clear HB BP; have HB := n0_; clear n0_; have BP := nBP_; clear nBP_; clear hb; obtain ⟨xBP0, xBP1, yBP0, yBP1⟩ := pxf2 BP))
    go_ret
    exact ⟨rfl, below_step HB0.out (pxb HB)⟩
  · have k1 : decide (f < 0) = false := decide_eq_false h1
    by_cases h2 : t < f
    · have k2 : decide (t < f) = true := decide_eq_true h2
      clear hs hs5 hn h1 h2
      have tok_w0 : True := trivial
      have tok_w1 : True := trivial
      have tok_w2 : True := trivial
      have tok_w3 : True := trivial
      go_enter Tryd.func7, Tryd.ntmps7
      go_wp2_with (first | ((with_reducible refine gate_dst (N := 3) rfl ?_); refine box_event ?hg (N := 3) ?hd (cs := #[.int .i64 f, .int .i64 t]) (t := 24) ?hr ?_; (case hd => rfl); (case hg => rfl); (case hr => first | (go_simp; done) | (go_simp; rfl)); intro gp hg wb hbox hb; have NWBP := Aside0.mk hbox; have GWBP := Aside0.mk ((by rw [hg]; exact (below_size (pxb HB)) : w.heap.size ≤ gp)); clear hg hbox; have n0_ := pxs HB hb; clear HB ; have HB := n0_; clear n0_; have BP := NWBP; clear NWBP hb; obtain ⟨xBP0, xBP1, yBP0, yBP1⟩ := pxf2 BP) | (clear tok_w0; go_at_call 21; (with_reducible refine (tells_any _ (HT.out.below (pxb HB))).mono ?_); rintro e w0 ⟨rfl, hb⟩; have n0_ := pxs HB hb; have nBP_ : Aside0 (w0.heap[gp]? = some (.cells #[.int .i64 f, .int .i64 t] 24 (0, 0))) := ⟨blk_below (pxp BP) hb⟩; clear HB BP; have HB := n0_; clear n0_; have BP := nBP_; clear nBP_; clear hb; obtain ⟨xBP0, xBP1, yBP0, yBP1⟩ := pxf2 BP) | (clear tok_w1; go_at_call 10; (with_reducible refine (of_any s _ HS.out).mono ?_); rintro e w1 ⟨g, rfl, htab, hb⟩; have HB0 := pxs HB hb; have HT1 := Aside0.mk (HT.out.below HB0.out); have HTB := Aside0.mk htab; have n0_ : Aside0 (w1.heap[gp]? = some (.cells #[.int .i64 f, .int .i64 t] 24 (0, 0))) := ⟨blk_below (pxp BP) hb⟩; clear HB HT BP; have HB := Aside0.mk (Below.refl w1.heap.size w1); have BP := n0_; clear n0_ htab hb; obtain ⟨xBP0, xBP1, yBP0, yBP1⟩ := pxf2 BP) | (clear tok_w2; go_at_call 17; (with_reducible refine (HSH.out _ _ _ HTB.out HT1.out _ (pxb HB)).mono ?_); rintro e w2 ⟨rfl, hb⟩; have n0_ := pxs HB hb; have nBP_ : Aside0 (w2.heap[gp]? = some (.cells #[.int .i64 f, .int .i64 t] 24 (0, 0))) := ⟨blk_below (pxp BP) hb⟩; clear HB BP; have HB := n0_; clear n0_; have BP := nBP_; clear nBP_; clear hb; obtain ⟨xBP0, xBP1, yBP0, yBP1⟩ := pxf2 BP) | (clear tok_w3; go_at_call 18; (with_reducible refine (HPT.out _ _ _ HTB.out _ (pxb HB)).mono ?_); rintro e w3 ⟨rfl, hb⟩; have n0_ := pxs HB hb; have nBP_ : Aside0 (w3.heap[gp]? = some (.cells #[.int .i64 f, .int .i64 t] 24 (0, 0))) := ⟨blk_below (pxp BP) hb⟩; clear HB BP; have HB := n0_; clear n0_; have BP := nBP_; clear nBP_; clear hb; obtain ⟨xBP0, xBP1, yBP0, yBP1⟩ := pxf2 BP))
      go_ret
      exact ⟨rfl, below_step HB0.out (pxb HB)⟩
    · have k2 : decide (t < f) = false := decide_eq_false h2
      have k3 : decide ((s.size : Int) < t) = true := decide_eq_true (by omega)
      clear hs hs5 hn h1 h2
      have tok_w0 : True := trivial
      have tok_w1 : True := trivial
      have tok_w2 : True := trivial
      have tok_w3 : True := trivial
      go_enter Tryd.func7, Tryd.ntmps7
      go_wp2_with (first | ((with_reducible refine gate_dst (N := 3) rfl ?_); refine box_event ?hg (N := 3) ?hd (cs := #[.int .i64 f, .int .i64 t]) (t := 24) ?hr ?_; (case hd => rfl); (case hg => rfl); (case hr => first | (go_simp; done) | (go_simp; rfl)); intro gp hg wb hbox hb; have NWBP := Aside0.mk hbox; have GWBP := Aside0.mk ((by rw [hg]; exact (below_size (pxb HB)) : w.heap.size ≤ gp)); clear hg hbox; have n0_ := pxs HB hb; clear HB ; have HB := n0_; clear n0_; have BP := NWBP; clear NWBP hb; obtain ⟨xBP0, xBP1, yBP0, yBP1⟩ := pxf2 BP) | (clear tok_w0; go_at_call 21; (with_reducible refine (tells_any _ (HT.out.below (pxb HB))).mono ?_); rintro e w0 ⟨rfl, hb⟩; have n0_ := pxs HB hb; have nBP_ : Aside0 (w0.heap[gp]? = some (.cells #[.int .i64 f, .int .i64 t] 24 (0, 0))) := ⟨blk_below (pxp BP) hb⟩; clear HB BP; have HB := n0_; clear n0_; have BP := nBP_; clear nBP_; clear hb; obtain ⟨xBP0, xBP1, yBP0, yBP1⟩ := pxf2 BP) | (clear tok_w1; go_at_call 10; (with_reducible refine (of_any s _ HS.out).mono ?_); rintro e w1 ⟨g, rfl, htab, hb⟩; have HB0 := pxs HB hb; have HT1 := Aside0.mk (HT.out.below HB0.out); have HTB := Aside0.mk htab; have n0_ : Aside0 (w1.heap[gp]? = some (.cells #[.int .i64 f, .int .i64 t] 24 (0, 0))) := ⟨blk_below (pxp BP) hb⟩; clear HB HT BP; have HB := Aside0.mk (Below.refl w1.heap.size w1); have BP := n0_; clear n0_ htab hb; obtain ⟨xBP0, xBP1, yBP0, yBP1⟩ := pxf2 BP) | (clear tok_w2; go_at_call 17; (with_reducible refine (HSH.out _ _ _ HTB.out HT1.out _ (pxb HB)).mono ?_); rintro e w2 ⟨rfl, hb⟩; have n0_ := pxs HB hb; have nBP_ : Aside0 (w2.heap[gp]? = some (.cells #[.int .i64 f, .int .i64 t] 24 (0, 0))) := ⟨blk_below (pxp BP) hb⟩; clear HB BP; have HB := n0_; clear n0_; have BP := nBP_; clear nBP_; clear hb; obtain ⟨xBP0, xBP1, yBP0, yBP1⟩ := pxf2 BP) | (clear tok_w3; go_at_call 18; (with_reducible refine (HPT.out _ _ _ HTB.out _ (pxb HB)).mono ?_); rintro e w3 ⟨rfl, hb⟩; have n0_ := pxs HB hb; have nBP_ : Aside0 (w3.heap[gp]? = some (.cells #[.int .i64 f, .int .i64 t] 24 (0, 0))) := ⟨blk_below (pxp BP) hb⟩; clear HB BP; have HB := n0_; clear n0_; have BP := nBP_; clear nBP_; clear hb; obtain ⟨xBP0, xBP1, yBP0, yBP1⟩ := pxf2 BP))
      go_ret
      exact ⟨rfl, below_step HB0.out (pxb HB)⟩
set_option maxHeartbeats 8000000 in
set_option maxRecDepth 100000 in
theorem shows_one (s : ByteArray) (f : Nat) (hs5 : s.size ≤ 5000) (hft : f ≤ s.size)  (w : World) (ht : TT w) : Calls Tryd.prog 7 #[.string s, .agg #[.int .i64 (f : Int), .int .i64 (f : Int)]] w fun e w' => e = .returned (.bool true) ∧ Below w.heap.size w w' := by
  have HB := Aside0.mk (Below.refl w.heap.size w)
  have HT := Aside0.mk ht
  clear ht
  have hs : s.size ≤ 65536 := by omega
  have HS := Lib.hid hs
  have hlen : s.data.toList.length = s.size := Array.length_toList
  have hcl := cn_line (l := s.data.toList) (k := f) (by omega)
  have hcp := @cnN_pos s.data.toList f
  have hNl := ssN_len s.data.toList
  have hbl := bareN_len hcl.1
  have hse := sN_enN hcl.1
  have hel := Nat.le_trans (enN_toN (l := s.data.toList) (cnN s.data.toList f - 1)) (toN_le _)
  have hte := toN_enN (l := s.data.toList) (cnN s.data.toList f - 1)
  have hpf := plN_eq (l := s.data.toList) (k := f) (by omega)
  obtain ⟨BA, hBA⟩ : ∃ BA, BA = (⟨(bareN s.data.toList (cnN s.data.toList f - 1)).toArray⟩ : ByteArray) := ⟨_, rfl⟩
  have hBs : BA.size = (bareN s.data.toList (cnN s.data.toList f - 1)).length := by rw [hBA]; show (List.toArray _).size = _; rw [List.size_toArray]
  obtain ⟨U, hU⟩ : ∃ U, U = (⟨(LiR.blankR (BA.data.toList.take (f - sN s.data.toList (cnN s.data.toList f - 1))) ++ List.replicate (max 1 (min (f - f) (BA.size - (f - sN s.data.toList (cnN s.data.toList f - 1))))) 94).toArray⟩ : ByteArray) := ⟨_, rfl⟩
  have hUs : U.size ≤ 20000 := by
    have hBl : BA.data.toList.length = BA.size := Array.length_toList
    rw [hU]
    show (List.toArray _).size ≤ _
    rw [List.size_toArray, List.length_append, LiR.blankR, List.length_map, List.length_take, List.length_replicate]
    omega
  have eP := point_parts (s := s) (f := f) (t := f) (by omega) (by omega) hBA hU
  have HPT := Lib.hid (fun g B (w1 : World) (h : Tab g B s w1) => point_from hs h (f : Int) (f : Int) eP)
  have HUN := Lib.hid (fun W => ref_under_c (x := BA) (c := f - sN s.data.toList (cnN s.data.toList f - 1)) (n := f - f) (by omega) (by omega) (by omega) W)
  rw [← hU] at HUN
  have hsf := plN_small (s := s) (k := f) (by omega) hs
  have HRA := Lib.hid (fun W => ref_at_c (s := s) (n := f) (by omega) hs W)
  have HNA := Lib.hid (fun W => ref_number_c (n := (plN s.data.toList f).1) (by omega) W)
  have HNB := Lib.hid (fun W => ref_number_c (n := (plN s.data.toList f).2) (by omega) W)
  have hsa := itoa_short _ hsf.1
  have hsb := itoa_short _ hsf.2
  have eS : showV s (f : Int) (f : Int) = ((⟨(Lib.itoa ((plN s.data.toList f).1 : Int)).toArray⟩ : ByteArray) ++ ⟨#[58]⟩ ++ ⟨(Lib.itoa ((plN s.data.toList f).2 : Int)).toArray⟩, 0) := by
    rw [showV, if_pos (by omega), if_pos rfl, Int.toNat_natCast]
    rfl
  have HSH := Lib.hid (fun g B (w1 : World) (h : Tab g B s w1) (ht : TT w1) => show_from hs h ht (f : Int) (f : Int) eS)
  have HBR := Lib.hid (fun (W : World) => by
    have h1 := ref_bare_c (x := rawS s (cnN s.data.toList f - 1)) (by rw [rawS_size hcl.1]; have := nxN_le (l := s.data.toList) (cnN s.data.toList f - 1); omega) W
    rw [rawS_bare hcl.1, ← hBA] at h1
    exact h1)
  have HRL := Lib.hid (fun W => ref_lines_c hs W)
  have k0 : decide ((5000 : Int) < (s.size : Int)) = false := decide_eq_false (by omega)
  have k1 : decide ((f : Int) < 0) = false := decide_eq_false (by omega)
  have k2 : decide (f < f) = false := decide_eq_false (by omega)
  have k3 : decide (s.size < f) = false := decide_eq_false (by omega)
  rw [hpf] at HRA HNA HNB hsa hsb HSH
  dsimp only at HRA HNA HNB hsa hsb HSH
  obtain ⟨j, hj⟩ : ∃ j, cnN s.data.toList f = j + 1 := ⟨cnN s.data.toList f - 1, by omega⟩
  rw [hj, Nat.add_sub_cancel] at hcl HUN HBR HRA HNB hsb HSH
  rw [hj] at HNA hsa
  obtain ⟨c, hc⟩ : ∃ c, f - sN s.data.toList j = c := ⟨_, rfl⟩
  have hc9 : c ≤ 5000 := by omega
  rw [hc] at HUN HRA HNB hsb HSH
  have ej : ((j + 1 : Nat) : Int) = (j : Int) + 1 := rfl
  have ec : ((c + 1 : Nat) : Int) = (c : Int) + 1 := rfl
  rw [ej] at HRA HNA hsa HSH
  rw [ec] at HRA HNB hsb HSH
  have e0 : ((f - f : Nat) : Int) = 0 := by omega
  rw [e0] at HUN
  obtain ⟨N, hN⟩ : ∃ N, (ssN s.data.toList).length = N := ⟨_, rfl⟩
  have HRL := Lib.hid (fun W => (HRL.out W).mono fun e w' h => (show ∃ (bl cl : Nat), e = .returned (.slice (some ⟨bl, 0, none⟩) N cl) ∧ w'.cell? ⟨bl, j, none⟩ = some (.string (rawS s j)) ∧ Below W.heap.size W w' from by
    obtain ⟨v, he, hv, hb⟩ := h
    obtain ⟨bl, cl, rfl, _, _, hrc⟩ := raws_cell hv
    rw [hN] at he
    exact ⟨bl, cl, he, hrc j hcl.1, hb⟩))
  have k6 : (j : Int) < (N : Int) := by have := hcl.1; omega
  have k7 : (0 : Int) ≤ (j : Int) := by omega
  have hj9 : j ≤ 5000 := by have := hcl.1; omega
  have hB9 : BA.size ≤ 5000 := by omega
  generalize (⟨(Lib.itoa ((j : Int) + 1)).toArray⟩ : ByteArray) = sa at *
  generalize (⟨(Lib.itoa ((c : Int) + 1)).toArray⟩ : ByteArray) = sb at *
  generalize rawS s j = rw_ at HRL HBR
  have q1 : (9223372036854775807 < sa.size + 1) = False := eq_false (by omega)
  have q2 : (9223372036854775807 < sa.size + 1 + sb.size) = False := eq_false (by omega)
  have z1 : (sa ++ (⟨#[58]⟩ : ByteArray)).size = sa.size + 1 := ByteArray.size_append
  have z2 : (sa ++ (⟨#[58]⟩ : ByteArray) ++ sb).size = sa.size + 1 + sb.size := by rw [ByteArray.size_append, z1]
  have q3 : (9223372036854775807 < BA.size + 1) = False := eq_false (by omega)
  have q4 : (9223372036854775807 < BA.size + 1 + U.size) = False := eq_false (by omega)
  have q5 : (9223372036854775807 < BA.size + 1 + U.size + 1) = False := eq_false (by omega)
  have z3 : (BA ++ (⟨#[10]⟩ : ByteArray)).size = BA.size + 1 := ByteArray.size_append
  have z4 : (BA ++ (⟨#[10]⟩ : ByteArray) ++ U).size = BA.size + 1 + U.size := by rw [ByteArray.size_append, z3]
  have ht9 : f ≤ 5000 := by omega
  have hf9 : f ≤ 5000 := by omega
  clear hs hs5 hft hlen hcl hcp hNl hbl hse hel hte hpf hBA hBs hU hUs eP hsf hsa hsb eS hj hc ej ec e0 hN
  have tok_w0 : True := trivial
  have tok_w1 : True := trivial
  have tok_w2 : True := trivial
  have tok_w3 : True := trivial
  have tok_w4 : True := trivial
  have tok_w6 : True := trivial
  have tok_w7 : True := trivial
  have tok_w8 : True := trivial
  have tok_w5 : True := trivial
  have tok_w11 : True := trivial
  have tok_w12 : True := trivial
  go_enter Tryd.func7, Tryd.ntmps7
  go_wp2_with (first | ((with_reducible refine gate_dst (N := 3) rfl ?_); refine box_event ?hg (N := 3) ?hd (cs := #[.int .i64 (f : Int), .int .i64 (f : Int)]) (t := 24) ?hr ?_; (case hd => rfl); (case hg => rfl); (case hr => first | (go_simp; done) | (go_simp; rfl)); intro gp hg wb hbox hb; have NWBP := Aside0.mk hbox; have GWBP := Aside0.mk ((by rw [hg]; exact (below_size (pxb HB)) : w.heap.size ≤ gp)); clear hg hbox; have n0_ := pxs HB hb; clear HB ; have HB := n0_; clear n0_; have BP := NWBP; clear NWBP hb; obtain ⟨xBP0, xBP1, yBP0, yBP1⟩ := pxf2 BP) | (clear tok_w0; go_at_call 21; (with_reducible refine (tells_any _ (HT.out.below (pxb HB))).mono ?_); rintro e w0 ⟨rfl, hb⟩; have n0_ := pxs HB hb; have nBP_ : Aside0 (w0.heap[gp]? = some (.cells #[.int .i64 (f : Int), .int .i64 (f : Int)] 24 (0, 0))) := ⟨blk_below (pxp BP) hb⟩; clear HB BP; have HB := n0_; clear n0_; have BP := nBP_; clear nBP_; clear hb; obtain ⟨xBP0, xBP1, yBP0, yBP1⟩ := pxf2 BP) | (clear tok_w1; go_at_call 10; (with_reducible refine (of_any s _ HS.out).mono ?_); rintro e w1 ⟨g, rfl, htab, hb⟩; have HB0 := pxs HB hb; have HT1 := Aside0.mk (HT.out.below HB0.out); have HTB := Aside0.mk htab; have n0_ : Aside0 (w1.heap[gp]? = some (.cells #[.int .i64 (f : Int), .int .i64 (f : Int)] 24 (0, 0))) := ⟨blk_below (pxp BP) hb⟩; clear HB HT BP; have HB := Aside0.mk (Below.refl w1.heap.size w1); have BP := n0_; clear n0_ htab hb; obtain ⟨xBP0, xBP1, yBP0, yBP1⟩ := pxf2 BP) | (clear tok_w2; go_at_call 17; (with_reducible refine (HSH.out _ _ _ HTB.out HT1.out _ (pxb HB)).mono ?_); rintro e w2 ⟨rfl, hb⟩; have n0_ := pxs HB hb; have nBP_ : Aside0 (w2.heap[gp]? = some (.cells #[.int .i64 (f : Int), .int .i64 (f : Int)] 24 (0, 0))) := ⟨blk_below (pxp BP) hb⟩; clear HB BP; have HB := n0_; clear n0_; have BP := nBP_; clear nBP_; clear hb; obtain ⟨xBP0, xBP1, yBP0, yBP1⟩ := pxf2 BP) | (clear tok_w3; go_at_call 18; (with_reducible refine (HPT.out _ _ _ HTB.out _ (pxb HB)).mono ?_); rintro e w3 ⟨rfl, hb⟩; have n0_ := pxs HB hb; have nBP_ : Aside0 (w3.heap[gp]? = some (.cells #[.int .i64 (f : Int), .int .i64 (f : Int)] 24 (0, 0))) := ⟨blk_below (pxp BP) hb⟩; clear HB BP; have HB := n0_; clear n0_; have BP := nBP_; clear nBP_; clear hb; obtain ⟨xBP0, xBP1, yBP0, yBP1⟩ := pxf2 BP) | (clear tok_w4; go_at_call 22; (with_reducible refine (HRA.out _).mono ?_); rintro e w4 ⟨rfl, hb⟩; have n0_ := pxs HB hb; have nBP_ : Aside0 (w4.heap[gp]? = some (.cells #[.int .i64 (f : Int), .int .i64 (f : Int)] 24 (0, 0))) := ⟨blk_below (pxp BP) hb⟩; clear HB BP; have HB := n0_; clear n0_; have BP := nBP_; clear nBP_; clear hb; obtain ⟨xBP0, xBP1, yBP0, yBP1⟩ := pxf2 BP) | (clear tok_w6; go_at_call 22; (with_reducible refine (HRA.out _).mono ?_); rintro e w6 ⟨rfl, hb⟩; have n0_ := pxs HB hb; have nBP_ : Aside0 (w6.heap[gp]? = some (.cells #[.int .i64 (f : Int), .int .i64 (f : Int)] 24 (0, 0))) := ⟨blk_below (pxp BP) hb⟩; clear HB BP; have HB := n0_; clear n0_; have BP := nBP_; clear nBP_; clear hb; obtain ⟨xBP0, xBP1, yBP0, yBP1⟩ := pxf2 BP) | (clear tok_w7; go_at_call 25; (with_reducible refine (HNA.out _).mono ?_); rintro e w7 ⟨rfl, hb⟩; have n0_ := pxs HB hb; have nBP_ : Aside0 (w7.heap[gp]? = some (.cells #[.int .i64 (f : Int), .int .i64 (f : Int)] 24 (0, 0))) := ⟨blk_below (pxp BP) hb⟩; clear HB BP; have HB := n0_; clear n0_; have BP := nBP_; clear nBP_; clear hb; obtain ⟨xBP0, xBP1, yBP0, yBP1⟩ := pxf2 BP) | (clear tok_w8; go_at_call 25; (with_reducible refine (HNB.out _).mono ?_); rintro e w8 ⟨rfl, hb⟩; have n0_ := pxs HB hb; have nBP_ : Aside0 (w8.heap[gp]? = some (.cells #[.int .i64 (f : Int), .int .i64 (f : Int)] 24 (0, 0))) := ⟨blk_below (pxp BP) hb⟩; clear HB BP; have HB := n0_; clear n0_; have BP := nBP_; clear nBP_; clear hb; obtain ⟨xBP0, xBP1, yBP0, yBP1⟩ := pxf2 BP) | (clear tok_w5; go_at_call 26; (with_reducible refine (HRL.out _).mono ?_); rintro e w5 ⟨bl, cl, rfl, hrc, hb⟩; have hcl := hrc; have n0_ := pxs HB hb; have nBP_ : Aside0 (w5.heap[gp]? = some (.cells #[.int .i64 (f : Int), .int .i64 (f : Int)] 24 (0, 0))) := ⟨blk_below (pxp BP) hb⟩; clear HB BP; have HB := n0_; clear n0_; have BP := nBP_; clear nBP_; clear hb; obtain ⟨xBP0, xBP1, yBP0, yBP1⟩ := pxf2 BP) | (clear tok_w11; go_at_call 28; (with_reducible refine (HBR.out _).mono ?_); rintro e w11 ⟨rfl, hb⟩; have n0_ := pxs HB hb; have nBP_ : Aside0 (w11.heap[gp]? = some (.cells #[.int .i64 (f : Int), .int .i64 (f : Int)] 24 (0, 0))) := ⟨blk_below (pxp BP) hb⟩; clear HB BP; have HB := n0_; clear n0_; have BP := nBP_; clear nBP_; clear hb; obtain ⟨xBP0, xBP1, yBP0, yBP1⟩ := pxf2 BP) | (clear tok_w12; go_at_call 29; (with_reducible refine (HUN.out _).mono ?_); rintro e w12 ⟨rfl, hb⟩; have n0_ := pxs HB hb; have nBP_ : Aside0 (w12.heap[gp]? = some (.cells #[.int .i64 (f : Int), .int .i64 (f : Int)] 24 (0, 0))) := ⟨blk_below (pxp BP) hb⟩; clear HB BP; have HB := n0_; clear n0_; have BP := nBP_; clear nBP_; clear hb; obtain ⟨xBP0, xBP1, yBP0, yBP1⟩ := pxf2 BP))
  go_ret
  exact ⟨rfl, below_step HB0.out (pxb HB)⟩
set_option maxHeartbeats 8000000 in
set_option maxRecDepth 100000 in
theorem shows_two (s : ByteArray) (f t : Nat) (hs5 : s.size ≤ 5000) (hft : f < t) (hts : t ≤ s.size) (w : World) (ht : TT w) : Calls Tryd.prog 7 #[.string s, .agg #[.int .i64 (f : Int), .int .i64 (t : Int)]] w fun e w' => e = .returned (.bool true) ∧ Below w.heap.size w w' := by
  have HB := Aside0.mk (Below.refl w.heap.size w)
  have HT := Aside0.mk ht
  clear ht
  have hs : s.size ≤ 65536 := by omega
  have HS := Lib.hid hs
  have hlen : s.data.toList.length = s.size := Array.length_toList
  have hcl := cn_line (l := s.data.toList) (k := f) (by omega)
  have hcp := @cnN_pos s.data.toList f
  have hNl := ssN_len s.data.toList
  have hbl := bareN_len hcl.1
  have hse := sN_enN hcl.1
  have hel := Nat.le_trans (enN_toN (l := s.data.toList) (cnN s.data.toList f - 1)) (toN_le _)
  have hte := toN_enN (l := s.data.toList) (cnN s.data.toList f - 1)
  have hpf := plN_eq (l := s.data.toList) (k := f) (by omega)
  obtain ⟨BA, hBA⟩ : ∃ BA, BA = (⟨(bareN s.data.toList (cnN s.data.toList f - 1)).toArray⟩ : ByteArray) := ⟨_, rfl⟩
  have hBs : BA.size = (bareN s.data.toList (cnN s.data.toList f - 1)).length := by rw [hBA]; show (List.toArray _).size = _; rw [List.size_toArray]
  obtain ⟨U, hU⟩ : ∃ U, U = (⟨(LiR.blankR (BA.data.toList.take (f - sN s.data.toList (cnN s.data.toList f - 1))) ++ List.replicate (max 1 (min (t - f) (BA.size - (f - sN s.data.toList (cnN s.data.toList f - 1))))) 94).toArray⟩ : ByteArray) := ⟨_, rfl⟩
  have hUs : U.size ≤ 20000 := by
    have hBl : BA.data.toList.length = BA.size := Array.length_toList
    rw [hU]
    show (List.toArray _).size ≤ _
    rw [List.size_toArray, List.length_append, LiR.blankR, List.length_map, List.length_take, List.length_replicate]
    omega
  have eP := point_parts (s := s) (f := f) (t := t) (by omega) (by omega) hBA hU
  have HPT := Lib.hid (fun g B (w1 : World) (h : Tab g B s w1) => point_from hs h (f : Int) (t : Int) eP)
  have HUN := Lib.hid (fun W => ref_under_c (x := BA) (c := f - sN s.data.toList (cnN s.data.toList f - 1)) (n := t - f) (by omega) (by omega) (by omega) W)
  rw [← hU] at HUN
  have hsf := plN_small (s := s) (k := f) (by omega) hs
  have HRA := Lib.hid (fun W => ref_at_c (s := s) (n := f) (by omega) hs W)
  have HNA := Lib.hid (fun W => ref_number_c (n := (plN s.data.toList f).1) (by omega) W)
  have HNB := Lib.hid (fun W => ref_number_c (n := (plN s.data.toList f).2) (by omega) W)
  have hsa := itoa_short _ hsf.1
  have hsb := itoa_short _ hsf.2
  have hst := plN_small (s := s) (k := t) (by omega) hs
  have HRB := Lib.hid (fun W => ref_at_c (s := s) (n := t) (by omega) hs W)
  have HNC := Lib.hid (fun W => ref_number_c (n := (plN s.data.toList t).1) (by omega) W)
  have HND := Lib.hid (fun W => ref_number_c (n := (plN s.data.toList t).2) (by omega) W)
  have hsc := itoa_short _ hst.1
  have hsd := itoa_short _ hst.2
  have eS : showV s (f : Int) (t : Int) = (((⟨(Lib.itoa ((plN s.data.toList f).1 : Int)).toArray⟩ : ByteArray) ++ ⟨#[58]⟩ ++ ⟨(Lib.itoa ((plN s.data.toList f).2 : Int)).toArray⟩) ++ ((((⟨#[45]⟩ : ByteArray) ++ ⟨(Lib.itoa ((plN s.data.toList t).1 : Int)).toArray⟩) ++ ⟨#[58]⟩) ++ ⟨(Lib.itoa ((plN s.data.toList t).2 : Int)).toArray⟩), 0) := by
    rw [showV, if_pos (by omega), if_neg (by omega), Int.toNat_natCast, Int.toNat_natCast]
    refine Prod.ext (LiR.ba_ext ?_) rfl
    simp [plS, ByteArray.data_append, Array.toList_append]
  have HSH := Lib.hid (fun g B (w1 : World) (h : Tab g B s w1) (ht : TT w1) => show_from hs h ht (f : Int) (t : Int) eS)
  have HBR := Lib.hid (fun (W : World) => by
    have h1 := ref_bare_c (x := rawS s (cnN s.data.toList f - 1)) (by rw [rawS_size hcl.1]; have := nxN_le (l := s.data.toList) (cnN s.data.toList f - 1); omega) W
    rw [rawS_bare hcl.1, ← hBA] at h1
    exact h1)
  have HRL := Lib.hid (fun W => ref_lines_c hs W)
  have k0 : decide ((5000 : Int) < (s.size : Int)) = false := decide_eq_false (by omega)
  have k1 : decide ((f : Int) < 0) = false := decide_eq_false (by omega)
  have k2 : decide (t < f) = false := decide_eq_false (by omega)
  have k3 : decide (s.size < t) = false := decide_eq_false (by omega)
  have k4 : decide (f < t) = true := decide_eq_true hft
  rw [hpf] at HRA HNA HNB hsa hsb HSH
  dsimp only at HRA HNA HNB hsa hsb HSH
  obtain ⟨j, hj⟩ : ∃ j, cnN s.data.toList f = j + 1 := ⟨cnN s.data.toList f - 1, by omega⟩
  rw [hj, Nat.add_sub_cancel] at hcl HUN HBR HRA HNB hsb HSH
  rw [hj] at HNA hsa
  obtain ⟨c, hc⟩ : ∃ c, f - sN s.data.toList j = c := ⟨_, rfl⟩
  have hc9 : c ≤ 5000 := by omega
  rw [hc] at HUN HRA HNB hsb HSH
  have ej : ((j + 1 : Nat) : Int) = (j : Int) + 1 := rfl
  have ec : ((c + 1 : Nat) : Int) = (c : Int) + 1 := rfl
  rw [ej] at HRA HNA hsa HSH
  rw [ec] at HRA HNB hsb HSH
  have e0 : ((t - f : Nat) : Int) = (t : Int) - (f : Int) := by omega
  rw [e0] at HUN
  obtain ⟨N, hN⟩ : ∃ N, (ssN s.data.toList).length = N := ⟨_, rfl⟩
  have HRL := Lib.hid (fun W => (HRL.out W).mono fun e w' h => (show ∃ (bl cl : Nat), e = .returned (.slice (some ⟨bl, 0, none⟩) N cl) ∧ w'.cell? ⟨bl, j, none⟩ = some (.string (rawS s j)) ∧ Below W.heap.size W w' from by
    obtain ⟨v, he, hv, hb⟩ := h
    obtain ⟨bl, cl, rfl, _, _, hrc⟩ := raws_cell hv
    rw [hN] at he
    exact ⟨bl, cl, he, hrc j hcl.1, hb⟩))
  have k6 : (j : Int) < (N : Int) := by have := hcl.1; omega
  have k7 : (0 : Int) ≤ (j : Int) := by omega
  have hj9 : j ≤ 5000 := by have := hcl.1; omega
  have hB9 : BA.size ≤ 5000 := by omega
  generalize (⟨(Lib.itoa ((j : Int) + 1)).toArray⟩ : ByteArray) = sa at *
  generalize (⟨(Lib.itoa ((c : Int) + 1)).toArray⟩ : ByteArray) = sb at *
  generalize ((plN s.data.toList t).1 : Int) = lc at *
  generalize ((plN s.data.toList t).2 : Int) = cc at *
  generalize (⟨(Lib.itoa lc).toArray⟩ : ByteArray) = sc at *
  generalize (⟨(Lib.itoa cc).toArray⟩ : ByteArray) = sd at *
  generalize rawS s j = rw_ at HRL HBR
  have q1 : (9223372036854775807 < sa.size + 1) = False := eq_false (by omega)
  have q2 : (9223372036854775807 < sa.size + 1 + sb.size) = False := eq_false (by omega)
  have z1 : (sa ++ (⟨#[58]⟩ : ByteArray)).size = sa.size + 1 := ByteArray.size_append
  have z2 : (sa ++ (⟨#[58]⟩ : ByteArray) ++ sb).size = sa.size + 1 + sb.size := by rw [ByteArray.size_append, z1]
  have q3 : (9223372036854775807 < BA.size + 1) = False := eq_false (by omega)
  have q4 : (9223372036854775807 < BA.size + 1 + U.size) = False := eq_false (by omega)
  have q5 : (9223372036854775807 < BA.size + 1 + U.size + 1) = False := eq_false (by omega)
  have z3 : (BA ++ (⟨#[10]⟩ : ByteArray)).size = BA.size + 1 := ByteArray.size_append
  have z4 : (BA ++ (⟨#[10]⟩ : ByteArray) ++ U).size = BA.size + 1 + U.size := by rw [ByteArray.size_append, z3]
  have q6 : (9223372036854775807 < 1 + sc.size) = False := eq_false (by omega)
  have q7 : (9223372036854775807 < 1 + sc.size + 1) = False := eq_false (by omega)
  have q8 : (9223372036854775807 < 1 + sc.size + 1 + sd.size) = False := eq_false (by omega)
  have q9 : (9223372036854775807 < sa.size + 1 + sb.size + (1 + sc.size + 1 + sd.size)) = False := eq_false (by omega)
  have z5 : ((⟨#[45]⟩ : ByteArray) ++ sc).size = 1 + sc.size := ByteArray.size_append
  have z6 : ((⟨#[45]⟩ : ByteArray) ++ sc ++ ⟨#[58]⟩).size = 1 + sc.size + 1 := by rw [ByteArray.size_append, z5]; rfl
  have z7 : ((⟨#[45]⟩ : ByteArray) ++ sc ++ ⟨#[58]⟩ ++ sd).size = 1 + sc.size + 1 + sd.size := by rw [ByteArray.size_append, z6]
  have ht9 : t ≤ 5000 := by omega
  have hf9 : f ≤ 5000 := by omega
  clear hs hs5 hft hts hlen hcl hcp hNl hbl hse hel hte hpf hBA hBs hU hUs eP hsf hsa hsb eS hj hc ej ec e0 hN hst hsc hsd
  have tok_w0 : True := trivial
  have tok_w1 : True := trivial
  have tok_w2 : True := trivial
  have tok_w3 : True := trivial
  have tok_w4 : True := trivial
  have tok_w6 : True := trivial
  have tok_w7 : True := trivial
  have tok_w8 : True := trivial
  have tok_w9 : True := trivial
  have tok_w10 : True := trivial
  have tok_w5 : True := trivial
  have tok_w11 : True := trivial
  have tok_w12 : True := trivial
  go_enter Tryd.func7, Tryd.ntmps7
  go_wp2_with (first | ((with_reducible refine gate_dst (N := 3) rfl ?_); refine box_event ?hg (N := 3) ?hd (cs := #[.int .i64 (f : Int), .int .i64 (t : Int)]) (t := 24) ?hr ?_; (case hd => rfl); (case hg => rfl); (case hr => first | (go_simp; done) | (go_simp; rfl)); intro gp hg wb hbox hb; have NWBP := Aside0.mk hbox; have GWBP := Aside0.mk ((by rw [hg]; exact (below_size (pxb HB)) : w.heap.size ≤ gp)); clear hg hbox; have n0_ := pxs HB hb; clear HB ; have HB := n0_; clear n0_; have BP := NWBP; clear NWBP hb; obtain ⟨xBP0, xBP1, yBP0, yBP1⟩ := pxf2 BP) | (clear tok_w0; go_at_call 21; (with_reducible refine (tells_any _ (HT.out.below (pxb HB))).mono ?_); rintro e w0 ⟨rfl, hb⟩; have n0_ := pxs HB hb; have nBP_ : Aside0 (w0.heap[gp]? = some (.cells #[.int .i64 (f : Int), .int .i64 (t : Int)] 24 (0, 0))) := ⟨blk_below (pxp BP) hb⟩; clear HB BP; have HB := n0_; clear n0_; have BP := nBP_; clear nBP_; clear hb; obtain ⟨xBP0, xBP1, yBP0, yBP1⟩ := pxf2 BP) | (clear tok_w1; go_at_call 10; (with_reducible refine (of_any s _ HS.out).mono ?_); rintro e w1 ⟨g, rfl, htab, hb⟩; have HB0 := pxs HB hb; have HT1 := Aside0.mk (HT.out.below HB0.out); have HTB := Aside0.mk htab; have n0_ : Aside0 (w1.heap[gp]? = some (.cells #[.int .i64 (f : Int), .int .i64 (t : Int)] 24 (0, 0))) := ⟨blk_below (pxp BP) hb⟩; clear HB HT BP; have HB := Aside0.mk (Below.refl w1.heap.size w1); have BP := n0_; clear n0_ htab hb; obtain ⟨xBP0, xBP1, yBP0, yBP1⟩ := pxf2 BP) | (clear tok_w2; go_at_call 17; (with_reducible refine (HSH.out _ _ _ HTB.out HT1.out _ (pxb HB)).mono ?_); rintro e w2 ⟨rfl, hb⟩; have n0_ := pxs HB hb; have nBP_ : Aside0 (w2.heap[gp]? = some (.cells #[.int .i64 (f : Int), .int .i64 (t : Int)] 24 (0, 0))) := ⟨blk_below (pxp BP) hb⟩; clear HB BP; have HB := n0_; clear n0_; have BP := nBP_; clear nBP_; clear hb; obtain ⟨xBP0, xBP1, yBP0, yBP1⟩ := pxf2 BP) | (clear tok_w3; go_at_call 18; (with_reducible refine (HPT.out _ _ _ HTB.out _ (pxb HB)).mono ?_); rintro e w3 ⟨rfl, hb⟩; have n0_ := pxs HB hb; have nBP_ : Aside0 (w3.heap[gp]? = some (.cells #[.int .i64 (f : Int), .int .i64 (t : Int)] 24 (0, 0))) := ⟨blk_below (pxp BP) hb⟩; clear HB BP; have HB := n0_; clear n0_; have BP := nBP_; clear nBP_; clear hb; obtain ⟨xBP0, xBP1, yBP0, yBP1⟩ := pxf2 BP) | (clear tok_w4; go_at_call 22; (with_reducible refine (HRA.out _).mono ?_); rintro e w4 ⟨rfl, hb⟩; have n0_ := pxs HB hb; have nBP_ : Aside0 (w4.heap[gp]? = some (.cells #[.int .i64 (f : Int), .int .i64 (t : Int)] 24 (0, 0))) := ⟨blk_below (pxp BP) hb⟩; clear HB BP; have HB := n0_; clear n0_; have BP := nBP_; clear nBP_; clear hb; obtain ⟨xBP0, xBP1, yBP0, yBP1⟩ := pxf2 BP) | (clear tok_w6; go_at_call 22; (with_reducible refine (HRB.out _).mono ?_); rintro e w6 ⟨rfl, hb⟩; have n0_ := pxs HB hb; have nBP_ : Aside0 (w6.heap[gp]? = some (.cells #[.int .i64 (f : Int), .int .i64 (t : Int)] 24 (0, 0))) := ⟨blk_below (pxp BP) hb⟩; clear HB BP; have HB := n0_; clear n0_; have BP := nBP_; clear nBP_; clear hb; obtain ⟨xBP0, xBP1, yBP0, yBP1⟩ := pxf2 BP) | (clear tok_w7; go_at_call 25; (with_reducible refine (HNA.out _).mono ?_); rintro e w7 ⟨rfl, hb⟩; have n0_ := pxs HB hb; have nBP_ : Aside0 (w7.heap[gp]? = some (.cells #[.int .i64 (f : Int), .int .i64 (t : Int)] 24 (0, 0))) := ⟨blk_below (pxp BP) hb⟩; clear HB BP; have HB := n0_; clear n0_; have BP := nBP_; clear nBP_; clear hb; obtain ⟨xBP0, xBP1, yBP0, yBP1⟩ := pxf2 BP) | (clear tok_w8; go_at_call 25; (with_reducible refine (HNB.out _).mono ?_); rintro e w8 ⟨rfl, hb⟩; have n0_ := pxs HB hb; have nBP_ : Aside0 (w8.heap[gp]? = some (.cells #[.int .i64 (f : Int), .int .i64 (t : Int)] 24 (0, 0))) := ⟨blk_below (pxp BP) hb⟩; clear HB BP; have HB := n0_; clear n0_; have BP := nBP_; clear nBP_; clear hb; obtain ⟨xBP0, xBP1, yBP0, yBP1⟩ := pxf2 BP) | (clear tok_w9; go_at_call 25; (with_reducible refine (HNC.out _).mono ?_); rintro e w9 ⟨rfl, hb⟩; have n0_ := pxs HB hb; have nBP_ : Aside0 (w9.heap[gp]? = some (.cells #[.int .i64 (f : Int), .int .i64 (t : Int)] 24 (0, 0))) := ⟨blk_below (pxp BP) hb⟩; clear HB BP; have HB := n0_; clear n0_; have BP := nBP_; clear nBP_; clear hb; obtain ⟨xBP0, xBP1, yBP0, yBP1⟩ := pxf2 BP) | (clear tok_w10; go_at_call 25; (with_reducible refine (HND.out _).mono ?_); rintro e w10 ⟨rfl, hb⟩; have n0_ := pxs HB hb; have nBP_ : Aside0 (w10.heap[gp]? = some (.cells #[.int .i64 (f : Int), .int .i64 (t : Int)] 24 (0, 0))) := ⟨blk_below (pxp BP) hb⟩; clear HB BP; have HB := n0_; clear n0_; have BP := nBP_; clear nBP_; clear hb; obtain ⟨xBP0, xBP1, yBP0, yBP1⟩ := pxf2 BP) | (clear tok_w5; go_at_call 26; (with_reducible refine (HRL.out _).mono ?_); rintro e w5 ⟨bl, cl, rfl, hrc, hb⟩; have hcl := hrc; have n0_ := pxs HB hb; have nBP_ : Aside0 (w5.heap[gp]? = some (.cells #[.int .i64 (f : Int), .int .i64 (t : Int)] 24 (0, 0))) := ⟨blk_below (pxp BP) hb⟩; clear HB BP; have HB := n0_; clear n0_; have BP := nBP_; clear nBP_; clear hb; obtain ⟨xBP0, xBP1, yBP0, yBP1⟩ := pxf2 BP) | (clear tok_w11; go_at_call 28; (with_reducible refine (HBR.out _).mono ?_); rintro e w11 ⟨rfl, hb⟩; have n0_ := pxs HB hb; have nBP_ : Aside0 (w11.heap[gp]? = some (.cells #[.int .i64 (f : Int), .int .i64 (t : Int)] 24 (0, 0))) := ⟨blk_below (pxp BP) hb⟩; clear HB BP; have HB := n0_; clear n0_; have BP := nBP_; clear nBP_; clear hb; obtain ⟨xBP0, xBP1, yBP0, yBP1⟩ := pxf2 BP) | (clear tok_w12; go_at_call 29; (with_reducible refine (HUN.out _).mono ?_); rintro e w12 ⟨rfl, hb⟩; have n0_ := pxs HB hb; have nBP_ : Aside0 (w12.heap[gp]? = some (.cells #[.int .i64 (f : Int), .int .i64 (t : Int)] 24 (0, 0))) := ⟨blk_below (pxp BP) hb⟩; clear HB BP; have HB := n0_; clear n0_; have BP := nBP_; clear nBP_; clear hb; obtain ⟨xBP0, xBP1, yBP0, yBP1⟩ := pxf2 BP))
  go_ret
  exact ⟨rfl, below_step HB0.out (pxb HB)⟩
theorem shows_any (s : ByteArray) (f t : Int) (w : World) (ht : TT w) : Calls Tryd.prog 7 #[.string s, .agg #[.int .i64 f, .int .i64 t]] w fun e w' => e = .returned (.bool true) ∧ Below w.heap.size w w' := by
  by_cases hl : 5000 < s.size
  · exact shows_long s f t hl w ht
  · by_cases hn : 0 ≤ f ∧ f ≤ t ∧ t ≤ s.size
    · obtain ⟨f, rfl⟩ : ∃ m : Nat, f = m := ⟨f.toNat, by omega⟩
      obtain ⟨t, rfl⟩ : ∃ m : Nat, t = m := ⟨t.toNat, by omega⟩
      by_cases he : f = t
      · subst he
        exact shows_one s f (by omega) (by omega) w ht
      · exact shows_two s f t (by omega) (by omega) (by omega) w ht
    · exact shows_bad s f t (by omega) hn w ht
end Go.Proofs.YtimhbepecnmjeaaDoor.LiW
