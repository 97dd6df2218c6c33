/- A text's lines, with their ends, are the text; each is told without its end: the law's walk; every input. -/
import Derived.Test.YtimhbepecnmjeaaDoorLinesW10
import Derived.Test.YtimhbepecnmjeaaDoorRefLines
namespace Go.Proofs.YtimhbepecnmjeaaDoor.LiW
open Go.RowKit Go.Shelf Go.Proofs.YtimhbepecnmjeaaDoorW.PrintWords Go.Proofs.YtimhbepecnmjeaaDoorW.PrintLast Go.Proofs.YtimhbepecnmjeaaDoor.Li
set_option linter.unusedVariables false
set_option linter.unusedSimpArgs false
/-- A line with its end, as a text. -/
def rawS (s : ByteArray) (j : Nat) : ByteArray := s.extract (sN s.data.toList j) (nxN s.data.toList j)
theorem raws_len (s : ByteArray) : (LiR.rawsS s).length = (ssN s.data.toList).length := by rw [LiR.rawsS, List.length_map, List.length_range]
theorem raws_cell {s : ByteArray} {w : World} {B : Nat} {ok : Nat → Prop} {v : Value} (h : Kd.R Kd.string 9 w B ok v (LiR.rawsS s)) : ∃ (b c : Nat), v = .slice (some ⟨b, 0, none⟩) (ssN s.data.toList).length c ∧ b < w.heap.size ∧ (ssN s.data.toList).length ≤ c ∧ ∀ j, j < (ssN s.data.toList).length → w.cell? ⟨b, j, none⟩ = some (.string (rawS s j)) := by
  obtain ⟨A, c, rfl, hle, hC⟩ := Kd.R_reads h
  have hp := ssN_pos s.data.toList
  obtain ⟨inner, hg⟩ := Kd.R_own h
  obtain ⟨_, hg⟩ := hg
  rcases hg with ⟨e1, e2⟩ | ⟨b, cap, cur, e1, _, hb, _⟩
  · rw [raws_len] at e2
    omega
  · injection e1 with e1 e2 e3
    subst e1
    refine ⟨b, c, by rw [raws_len], blk_lt hb, by rw [← raws_len]; exact hle, fun j hj => ?_⟩
    have hjl : j < (LiR.rawsS s).length := by rw [raws_len]; exact hj
    obtain ⟨ad, cs, e4, e5, e6, e7⟩ := Kd.C_get hC (⟨#[]⟩ : ByteArray) (j : Int) (by omega) (by omega)
    injection e4 with e4
    subst e4
    rw [Int.toNat_natCast] at e6 e7
    rw [show cs = [.string ((LiR.rawsS s).getD j ⟨#[]⟩)] from e6] at e7
    have e8 := e7 0 _ rfl
    have e9 : (LiR.rawsS s).getD j ⟨#[]⟩ = rawS s j := by
      rw [List.getD_eq_getElem?_getD, List.getElem?_eq_getElem hjl, Option.getD_some]
      simp [LiR.rawsS, rawS]
    have e10 : (⟨b, 0, none⟩ : Addr).add (j * 1 + 0) = ⟨b, j, none⟩ := by
      unfold Addr.add
      split
      · rename_i h0; rw [show j = 0 by omega]
      · rw [Nat.zero_add, Nat.mul_one, Nat.add_zero]
    rw [e9] at e8
    exact e10 ▸ e8
theorem rawS_size {s : ByteArray} {j : Nat} (h : j < (ssN s.data.toList).length) : (rawS s j).size = nxN s.data.toList j - sN s.data.toList j := by
  have h1 := rawN_len h
  have h2 : (rawS s j).data.toList = rawN s.data.toList j := LiR.ext_data _ _ _
  rw [← h2] at h1
  exact Array.length_toList.symm.trans h1
theorem rawS_bare {s : ByteArray} {j : Nat} (h : j < (ssN s.data.toList).length) : (⟨(bareL (rawS s j).data.toList).toArray⟩ : ByteArray) = ⟨(bareN s.data.toList j).toArray⟩ := by
  rw [show (rawS s j).data.toList = rawN s.data.toList j from LiR.ext_data _ _ _, bareL_raw h]
theorem ref_lines_c {s : ByteArray} (hs : s.size ≤ 65536) (W : World) : Calls Tryd.prog 26 #[.string s] W fun e w' => ∃ v, e = .returned v ∧ Kd.R Kd.string 9 w' W.heap.size (fun _ => True) v (LiR.rawsS s) ∧ Below W.heap.size W w' := by
  obtain ⟨K, hK⟩ := LiR.ref_lines s hs
  exact X.caulkerref02_Lines.calls K s _ W (hK K (Nat.le_refl _))
theorem ref_bare_c {x : ByteArray} (hx : x.size ≤ 70000) (W : World) : Calls Tryd.prog 28 #[.string x] W fun e w' => e = .returned (.string ⟨(bareL x.data.toList).toArray⟩) ∧ Below W.heap.size W w' := by
  obtain ⟨K, hK⟩ := LiR.ref_bare x hx
  exact (X.caulkerref02_Bare.calls K x _ W (hK K (Nat.le_refl _))).mono fun e w' h => ⟨h.1, h.2.below⟩
set_option maxHeartbeats 8000000 in
set_option maxRecDepth 100000 in
theorem texts_long (s : ByteArray) (k : Int) (hl : 65536 < s.size) (w : World) (ht : TT w) : Calls Tryd.prog 6 #[.string s, .int .i64 k] w fun e w' => e = .returned (.bool true) ∧ Below w.heap.size w w' := by
  have HB := Aside0.mk (Below.refl w.heap.size w)
  have HT := Aside0.mk ht
  clear ht
  have k0 : decide ((65536 : Int) < (s.size : Int)) = true := decide_eq_true (by omega)
  clear hl
  have tok_w0 : True := trivial
  go_enter Tryd.func6, Tryd.ntmps6
  go_wp2_with (first | (clear tok_w0; go_at_call 21; (with_reducible refine (tells_any _ HT.out).mono ?_); rintro e w0 ⟨rfl, hb⟩; have n0_ := pxs HB hb; clear HB; have HB := n0_; clear n0_ hb))
  go_ret
  exact ⟨rfl, pxb HB⟩
set_option maxHeartbeats 8000000 in
set_option maxRecDepth 100000 in
theorem texts_bad (s : ByteArray) (k : Int) (hs : s.size ≤ 65536) (hk : ¬ (1 ≤ k ∧ k ≤ (ssN s.data.toList).length)) (w : World) (ht : TT w) : Calls Tryd.prog 6 #[.string s, .int .i64 k] w fun e w' => e = .returned (.bool true) ∧ Below w.heap.size w w' := by
  have HB := Aside0.mk (Below.refl w.heap.size w)
  have HT := Aside0.mk ht
  clear ht
  have HS := Lib.hid hs
  have HRL := Lib.hid (fun W => ref_lines_c hs W)
  have HLN := Lib.hid (fun g B (w1 : World) (h : Tab g B s w1) (W : World) (hb : Below w1.heap.size w1 W) => lines_from hs h rfl W hb)
  have k0 : decide ((65536 : Int) < (s.size : Int)) = false := decide_eq_false (by omega)
  have HLI := Lib.hid (fun g B (w1 : World) (h : Tab g B s w1) => line_from hs h k (show lineV s k = (0, 0, 1) by rw [lineV, if_neg hk]))
  have HTX := Lib.hid (fun g B (w1 : World) (h : Tab g B s w1) => text_from hs h k (show textV s k = (⟨#[]⟩, 1) by rw [textV, if_neg hk]))
  by_cases h1 : k < 1
  · have k1 : decide (k < 1) = true := decide_eq_true h1
    clear hs hk h1
    have tok_w0 : True := trivial
    have tok_w1 : True := trivial
    have tok_w2 : True := trivial
    have tok_w3 : True := trivial
    have tok_w5 : True := trivial
    have tok_w6 : True := trivial
    go_enter Tryd.func6, Tryd.ntmps6
    go_wp2_with (first | (clear tok_w0; go_at_call 21; (with_reducible refine (tells_any _ HT.out).mono ?_); rintro e w0 ⟨rfl, hb⟩; have n0_ := pxs HB hb; clear HB; have HB := n0_; clear n0_ hb) | (clear tok_w1; go_at_call 10; (with_reducible refine (of_any s _ HS.out).mono ?_); rintro e w1 ⟨g, rfl, htab, hb⟩; have HB0 := pxs HB hb; have HT1 := Aside0.mk (HT.out.below HB0.out); have HTB := Aside0.mk htab; clear HB HT; have HB := Aside0.mk (Below.refl w1.heap.size w1); clear htab hb) | (clear tok_w2; go_at_call 26; (with_reducible refine (HRL.out _).mono ?_); rintro e w2 ⟨v_, rfl, hv_, hb⟩; obtain ⟨bl, cl, rfl, hbl, hcl, hrc⟩ := raws_cell hv_; have HB1 := pxs HB hb; have HRC := Lib.hid hrc; clear HB hv_ hrc; have HB := Aside0.mk (Below.refl w2.heap.size w2); clear hb) | (clear tok_w3; go_at_call 12; (with_reducible refine (HLI.out _ _ _ HTB.out _ (below_step HB1.out (pxb HB))).mono ?_); rintro e w3 ⟨rfl, hb⟩; have n0_ := pxs HB hb; clear HB ; have HB := n0_; clear n0_; clear hb) | ((with_reducible refine gate_dst (N := 8) rfl ?_); refine box_event ?hg (N := 8) ?hd (cs := #[.int .i64 0, .int .i64 0]) (t := 24) ?hr ?_; (case hd => rfl); (case hg => rfl); (case hr => first | (go_simp; done) | (go_simp; rfl)); intro gp hg w4 hbox hb; have NWSP := Aside0.mk hbox; have GWSP := Aside0.mk ((by rw [hg]; exact (below_size (pxb HB)) : w2.heap.size ≤ gp)); clear hg hbox; have n0_ := pxs HB hb; clear HB ; have HB := n0_; clear n0_; have SP := NWSP; clear NWSP hb; obtain ⟨xSP0, xSP1, ySP0, ySP1⟩ := pxf2 SP) | (clear tok_w5; go_at_call 27; (with_reducible refine (HTX.out _ _ _ HTB.out _ (below_step HB1.out (pxb HB))).mono ?_); rintro e w5 ⟨rfl, hb⟩; have n0_ := pxs HB hb; have nSP_ : Aside0 (w5.heap[gp]? = some (.cells #[.int .i64 0, .int .i64 0] 24 (0, 0))) := ⟨blk_below (pxp SP) hb⟩; clear HB SP; have HB := n0_; clear n0_; have SP := nSP_; clear nSP_; clear hb; obtain ⟨xSP0, xSP1, ySP0, ySP1⟩ := pxf2 SP) | (clear tok_w6; go_at_call 11; (with_reducible refine (HLN.out _ _ _ HTB.out _ (below_step HB1.out (pxb HB))).mono ?_); rintro e w6 ⟨rfl, rfl⟩))
    go_ret
    exact ⟨rfl, below_step HB0.out (below_step HB1.out (pxb HB))⟩
  · have k1 : decide (k < 1) = false := decide_eq_false h1
    have k2 : decide (((ssN s.data.toList).length : Int) < k) = true := decide_eq_true (by omega)
    clear hs hk h1
    have tok_w0 : True := trivial
    have tok_w1 : True := trivial
    have tok_w2 : True := trivial
    have tok_w3 : True := trivial
    have tok_w5 : True := trivial
    have tok_w6 : True := trivial
    go_enter Tryd.func6, Tryd.ntmps6
    go_wp2_with (first | (clear tok_w0; go_at_call 21; (with_reducible refine (tells_any _ HT.out).mono ?_); rintro e w0 ⟨rfl, hb⟩; have n0_ := pxs HB hb; clear HB; have HB := n0_; clear n0_ hb) | (clear tok_w1; go_at_call 10; (with_reducible refine (of_any s _ HS.out).mono ?_); rintro e w1 ⟨g, rfl, htab, hb⟩; have HB0 := pxs HB hb; have HT1 := Aside0.mk (HT.out.below HB0.out); have HTB := Aside0.mk htab; clear HB HT; have HB := Aside0.mk (Below.refl w1.heap.size w1); clear htab hb) | (clear tok_w2; go_at_call 26; (with_reducible refine (HRL.out _).mono ?_); rintro e w2 ⟨v_, rfl, hv_, hb⟩; obtain ⟨bl, cl, rfl, hbl, hcl, hrc⟩ := raws_cell hv_; have HB1 := pxs HB hb; have HRC := Lib.hid hrc; clear HB hv_ hrc; have HB := Aside0.mk (Below.refl w2.heap.size w2); clear hb) | (clear tok_w3; go_at_call 12; (with_reducible refine (HLI.out _ _ _ HTB.out _ (below_step HB1.out (pxb HB))).mono ?_); rintro e w3 ⟨rfl, hb⟩; have n0_ := pxs HB hb; clear HB ; have HB := n0_; clear n0_; clear hb) | ((with_reducible refine gate_dst (N := 8) rfl ?_); refine box_event ?hg (N := 8) ?hd (cs := #[.int .i64 0, .int .i64 0]) (t := 24) ?hr ?_; (case hd => rfl); (case hg => rfl); (case hr => first | (go_simp; done) | (go_simp; rfl)); intro gp hg w4 hbox hb; have NWSP := Aside0.mk hbox; have GWSP := Aside0.mk ((by rw [hg]; exact (below_size (pxb HB)) : w2.heap.size ≤ gp)); clear hg hbox; have n0_ := pxs HB hb; clear HB ; have HB := n0_; clear n0_; have SP := NWSP; clear NWSP hb; obtain ⟨xSP0, xSP1, ySP0, ySP1⟩ := pxf2 SP) | (clear tok_w5; go_at_call 27; (with_reducible refine (HTX.out _ _ _ HTB.out _ (below_step HB1.out (pxb HB))).mono ?_); rintro e w5 ⟨rfl, hb⟩; have n0_ := pxs HB hb; have nSP_ : Aside0 (w5.heap[gp]? = some (.cells #[.int .i64 0, .int .i64 0] 24 (0, 0))) := ⟨blk_below (pxp SP) hb⟩; clear HB SP; have HB := n0_; clear n0_; have SP := nSP_; clear nSP_; clear hb; obtain ⟨xSP0, xSP1, ySP0, ySP1⟩ := pxf2 SP) | (clear tok_w6; go_at_call 11; (with_reducible refine (HLN.out _ _ _ HTB.out _ (below_step HB1.out (pxb HB))).mono ?_); rintro e w6 ⟨rfl, rfl⟩))
    go_ret
    exact ⟨rfl, below_step HB0.out (below_step HB1.out (pxb HB))⟩
set_option maxHeartbeats 8000000 in
set_option maxRecDepth 100000 in
theorem texts_in (s : ByteArray) (j : Nat) (hs : s.size ≤ 65536) (hj : j < (ssN s.data.toList).length) (w : World) (ht : TT w) : Calls Tryd.prog 6 #[.string s, .int .i64 ((j : Int) + 1)] w fun e w' => e = .returned (.bool true) ∧ Below w.heap.size w w' := by
  have HB := Aside0.mk (Below.refl w.heap.size w)
  have HT := Aside0.mk ht
  clear ht
  have HS := Lib.hid hs
  have HRL := Lib.hid (fun W => ref_lines_c hs W)
  have HLN := Lib.hid (fun g B (w1 : World) (h : Tab g B s w1) (W : World) (hb : Below w1.heap.size w1 W) => lines_from hs h rfl W hb)
  have k0 : decide ((65536 : Int) < (s.size : Int)) = false := decide_eq_false (by omega)
  have e2 : ((j : Int) + 1 - 1).toNat = j := by omega
  have hle := ssN_len s.data.toList
  have hlen : s.data.toList.length = s.size := Array.length_toList
  have hse := sN_enN hj
  have hel := Nat.le_trans (enN_toN (l := s.data.toList) j) (toN_le j)
  obtain ⟨BA, hBA⟩ : ∃ BA, BA = (⟨(bareN s.data.toList j).toArray⟩ : ByteArray) := ⟨_, rfl⟩
  have hBs : BA.size = enN s.data.toList j - sN s.data.toList j := by
    have h1 := bareN_len hj
    rw [hBA]
    show (bareN s.data.toList j).toArray.size = _
    rw [List.size_toArray]
    exact h1
  have eL : lineV s ((j : Int) + 1) = ((sN s.data.toList j : Int), (sN s.data.toList j : Int) + (BA.size : Int), 0) := by
    rw [lineV, if_pos (by omega), e2]
    refine Prod.ext rfl (Prod.ext ?_ rfl)
    dsimp only
    omega
  have eT : textV s ((j : Int) + 1) = (BA, 0) := by rw [textV, if_pos (by omega), e2, ← hBA]
  have HLI := Lib.hid (fun g B (w1 : World) (h : Tab g B s w1) => line_from hs h ((j : Int) + 1) eL)
  have HTX := Lib.hid (fun g B (w1 : World) (h : Tab g B s w1) => text_from hs h ((j : Int) + 1) eT)
  have HBR := Lib.hid (fun (W : World) => by
    have h1 := ref_bare_c (x := rawS s j) (by rw [rawS_size hj]; have := nxN_le (l := s.data.toList) j; omega) W
    rw [rawS_bare hj, ← hBA] at h1
    exact h1)
  have HSZ := Lib.hid (fun (i : Nat) (hi : i < j) => (show (sN s.data.toList i : Int) + ((rawS s i).size : Int) = (sN s.data.toList (i + 1) : Int) by
    have h1 := rawS_size (s := s) (j := i) (by omega)
    have h2 := sN_lt (l := s.data.toList) (i := i) (j := i + 1) (by omega) (by omega)
    have h3 : nxN s.data.toList i = sN s.data.toList (i + 1) := by rw [nxN, if_pos (by omega)]
    omega))
  have HLE := Lib.hid (fun (i : Nat) => (show sN s.data.toList i ≤ 65536 by have := sN_le (l := s.data.toList) i; omega))
  have HJ := Lib.hid hj
  have hN9 : (ssN s.data.toList).length ≤ 65537 := by omega
  generalize hF : sN s.data.toList j = F at HLI
  have HF := Lib.hid hF
  have k1 : decide ((j : Int) + 1 < 1) = false := decide_eq_false (by omega)
  have hF9 : F ≤ 65536 := by have := HLE.out j; omega
  have hB9 : BA.size ≤ 65536 := by omega
  have hj9 : j < 65537 := by omega
  have k2 : decide (((ssN s.data.toList).length : Int) < (j : Int) + 1) = false := decide_eq_false (by omega)
  have k3 : (j : Int) < ((ssN s.data.toList).length : Int) := by omega
  have k4 : (0 : Int) ≤ (j : Int) := by omega
  obtain ⟨N, hN⟩ : ∃ N, (ssN s.data.toList).length = N := ⟨_, rfl⟩
  rw [hN] at hN9 k2 k3 HJ HLN
  have HRL := Lib.hid (fun W => (HRL.out W).mono fun e w' h => (show ∃ (bl cl : Nat), e = .returned (.slice (some ⟨bl, 0, none⟩) N cl) ∧ N ≤ cl ∧ (∀ i, i < N → w'.cell? ⟨bl, i, none⟩ = some (.string (rawS s i))) ∧ Below W.heap.size W w' from by
    obtain ⟨v, he, hv, hb⟩ := h
    obtain ⟨bl, cl, rfl, _, hcl, hrc⟩ := raws_cell hv
    rw [hN] at he hcl hrc
    exact ⟨bl, cl, he, hcl, hrc, hb⟩))
  clear hs hj hle hlen hse hel hBA hBs eL eT e2 hF hN
  have tok_w0 : True := trivial
  have tok_w1 : True := trivial
  have tok_w2 : True := trivial
  have tok_w3 : True := trivial
  have tok_w5 : True := trivial
  have tok_w6 : True := trivial
  go_enter Tryd.func6, Tryd.ntmps6
  go_wp2_with (first | (clear tok_w0; go_at_call 21; (with_reducible refine (tells_any _ HT.out).mono ?_); rintro e w0 ⟨rfl, hb⟩; have n0_ := pxs HB hb; clear HB; have HB := n0_; clear n0_ hb) | (clear tok_w1; go_at_call 10; (with_reducible refine (of_any s _ HS.out).mono ?_); rintro e w1 ⟨g, rfl, htab, hb⟩; have HB0 := pxs HB hb; have HT1 := Aside0.mk (HT.out.below HB0.out); have HTB := Aside0.mk htab; clear HB HT; have HB := Aside0.mk (Below.refl w1.heap.size w1); clear htab hb) | (clear tok_w2; go_at_call 26; (with_reducible refine (HRL.out _).mono ?_); rintro e w2 ⟨bl, cl, rfl, hcl, hrc, hb⟩; have HB1 := pxs HB hb; have HRC := Lib.hid hrc; have q1 : decide (j ≤ cl) = true := decide_eq_true (Nat.le_trans (Nat.le_of_lt HJ.out) hcl); have q2 : j ≤ cl := Nat.le_trans (Nat.le_of_lt HJ.out) hcl; clear HB hrc hcl; have HB := Aside0.mk (Below.refl w2.heap.size w2); clear hb) | (clear tok_w3; go_at_call 12; (with_reducible refine (HLI.out _ _ _ HTB.out _ (below_step HB1.out (pxb HB))).mono ?_); rintro e w3 ⟨rfl, hb⟩; have n0_ := pxs HB hb; clear HB ; have HB := n0_; clear n0_; clear hb) | ((with_reducible refine gate_dst (N := 8) rfl ?_); refine box_event ?hg (N := 8) ?hd (cs := #[.int .i64 0, .int .i64 0]) (t := 24) ?hr ?_; (case hd => rfl); (case hg => rfl); (case hr => first | (go_simp; done) | (go_simp; rfl)); intro gp hg w4 hbox hb; have NWSP := Aside0.mk hbox; have GWSP := Aside0.mk ((by rw [hg]; exact (below_size (pxb HB)) : w2.heap.size ≤ gp)); clear hg hbox; have n0_ := pxs HB hb; clear HB ; have HB := n0_; clear n0_; have SP := NWSP; clear NWSP hb; obtain ⟨xSP0, xSP1, ySP0, ySP1⟩ := pxf2 SP) | (clear tok_w5; go_at_call 27; (with_reducible refine (HTX.out _ _ _ HTB.out _ (below_step HB1.out (pxb HB))).mono ?_); rintro e w5 ⟨rfl, hb⟩; have n0_ := pxs HB hb; have nSP_ : Aside0 (w5.heap[gp]? = some (.cells #[.int .i64 (F : Int), .int .i64 ((F : Int) + (BA.size : Int))] 24 (0, 0))) := ⟨blk_below (pxp SP) hb⟩; clear HB SP; have HB := n0_; clear n0_; have SP := nSP_; clear nSP_; clear hb; obtain ⟨xSP0, xSP1, ySP0, ySP1⟩ := pxf2 SP) | (clear tok_w6; go_at_call 11; (with_reducible refine (HLN.out _ _ _ HTB.out _ (below_step HB1.out (pxb HB))).mono ?_); rintro e w6 ⟨rfl, rfl⟩))
  go_loopg [12, 75] j (fun kq v12 v75 w' => ∃ i : Nat, v12 = .int .i64 (sN s.data.toList i : Nat) ∧ v75 = .int .i64 i ∧ Hid (i ≤ j ∧ kq = j - i) ∧ Aside0 (Below w2.heap.size w2 w') ∧ Aside0 (w'.heap[gp]? = some (.cells #[.int .i64 (F : Int), .int .i64 ((F : Int) + (BA.size : Int))] 24 (0, 0))))
  case atStart => exact ⟨0, rfl, rfl, ⟨Nat.zero_le _, rfl⟩, HB, SP⟩
  case round =>
    clear HB SP xSP0 xSP1 ySP0 ySP1
    obtain ⟨i, rfl, rfl, HI, HB, SP⟩ := hrel
    obtain ⟨xSP0, xSP1, ySP0, ySP1⟩ := pxf2 SP
    by_cases hi : i < j
    · have hcell := cell_bl HB.out (HRC.out i (by have := HJ.out; omega))
      have HSUM := Lib.hid (HSZ.out i hi)
      have h9 := HLE.out i
      have h10 := HLE.out (i + 1)
      have hsum := HSUM.out
      have h11 : (rawS s i).size ≤ 65536 := by omega
      clear hsum
      have i1 : (i : Int) < (j : Int) := by omega
      have i2 : (0 : Int) ≤ (i : Int) := by omega
      generalize rawS s i = x at hcell HSUM h11
      obtain ⟨f1, hf1⟩ : ∃ f1, sN s.data.toList (i + 1) = f1 := ⟨_, rfl⟩
      rw [hf1] at HSUM h10
      have HF1 := Lib.hid hf1
      clear hf1
      generalize sN s.data.toList i = f0 at HSUM h9 ⊢
      go_wp2
      go_roundg (j - (i + 1))
      case measure => have := HI.out; omega
      case rel => exact ⟨i + 1, by rw [HF1.out, ← HSUM.out], by go_num, ⟨by omega, rfl⟩, HB, SP⟩
    · obtain rfl : i = j := by have := HI.out; omega
      have hcell := cell_bl HB.out (HRC.out i HJ.out)
      rw [HF.out]
      generalize rawS s i = x at hcell HBR
      have tok_w7 : True := trivial
      go_wp2_with (first | (clear tok_w7; go_at_call 28; (with_reducible refine (HBR.out _).mono ?_); rintro e w7 ⟨rfl, hb⟩; have n0_ := pxs HB hb; have nSP_ : Aside0 (w7.heap[gp]? = some (.cells #[.int .i64 (F : Int), .int .i64 ((F : Int) + (BA.size : Int))] 24 (0, 0))) := ⟨blk_below (pxp SP) hb⟩; clear HB SP; have HB := n0_; clear n0_; have SP := nSP_; clear nSP_; clear hb; obtain ⟨xSP0, xSP1, ySP0, ySP1⟩ := pxf2 SP))
      go_ret
      exact ⟨rfl, below_step HB0.out (below_step HB1.out (pxb HB))⟩
theorem texts_any (s : ByteArray) (k : Int) (w : World) (ht : TT w) : Calls Tryd.prog 6 #[.string s, .int .i64 k] w fun e w' => e = .returned (.bool true) ∧ Below w.heap.size w w' := by
  by_cases hl : 65536 < s.size
  · exact texts_long s k hl w ht
  · by_cases hk : 1 ≤ k ∧ k ≤ (ssN s.data.toList).length
    · have h := texts_in s (k - 1).toNat (by omega) (by omega) w ht
      rw [show (((k - 1).toNat : Nat) : Int) + 1 = k by omega] at h
      exact h
    · exact texts_bad s k (by omega) hk w ht
end Go.Proofs.YtimhbepecnmjeaaDoor.LiW
