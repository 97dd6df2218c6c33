/- Line by line, byte by byte: the law's walk; every input. -/
import Derived.Test.YtimhbepecnmjeaaDoorLinesW12
import Derived.Test.YtimhbepecnmjeaaDoorRefWhole
namespace Go.Proofs.YtimhbepecnmjeaaDoor.LiW
open Go.RowKit Go.Shelf Go.Proofs.YtimhbepecnmjeaaDoorW.PrintWords Go.Proofs.YtimhbepecnmjeaaDoorW.PrintLast Go.Proofs.YtimhbepecnmjeaaDoor.Li Go.Proofs.YtimhbepecnmjeaaDoor.X
set_option linter.unusedVariables false
set_option linter.unusedSimpArgs false
theorem cover_c (W : World) : Calls Tryd.prog 9 #[.slice (some ⟨W.heap.size, 0, none⟩) 2 2] (W.alloc (.cells #[.int .i64 1, .int .i64 2, .int .i64 4, .int .i64 7] 24)) fun e w' => e = .returned (.tuple #[.agg #[.int .i64 1, .int .i64 7], .bool true]) ∧ Below (W.alloc (.cells #[.int .i64 1, .int .i64 2, .int .i64 4, .int .i64 7] 24)).heap.size (W.alloc (.cells #[.int .i64 1, .int .i64 2, .int .i64 4, .int .i64 7] 24)) w' := by
  have hR : Kd.R k24 24 (W.alloc (.cells #[.int .i64 1, .int .i64 2, .int .i64 4, .int .i64 7] 24)) W.heap.size (fun _ => True) (.slice (some ⟨W.heap.size, 0, none⟩) 2 2) ([⟨1, 2⟩, ⟨4, 7⟩] : List S24) :=
    ⟨fun _ _ => trivial, _, World.ownsRow_lit W #[.int .i64 1, .int .i64 2, .int .i64 4, .int .i64 7] 2 (Nat.le_refl _) (by decide) rfl, Reps.front (k24_mkM _ _ _ (⟨1, 2⟩ : S24)) rfl (Reps.front (k24_mkM _ _ _ (⟨4, 7⟩ : S24)) rfl (Reps.none _ _) rfl) rfl⟩
  have hC := (Kd.R_reads' hR).2.2
  exact span_Cover.calls 20 _ 2 ([⟨1, 2⟩, ⟨4, 7⟩] : List S24) 1 7 true _ hC (by decide) (by decide +kernel)
theorem gaps_c {s : ByteArray} (hs : s.size ≤ 65536) {A : Option Addr} {c : Nat} (W : World) (hC : Kd.C k24 W A (Sp.spL s.data.toList).length (Sp.spL s.data.toList)) (hc : (Sp.spL s.data.toList).length ≤ c) : Calls Tryd.prog 14 #[.int .i64 s.size, .slice A (Sp.spL s.data.toList).length c] W fun e w' => ∃ v, e = .returned (.tuple #[v, .int .i64 0]) ∧ Kd.R k24 24 w' W.heap.size (fun _ => True) v (Sp.gpL s.data.toList) ∧ Below W.heap.size W w' := by
  have hlen : s.data.toList.length = s.size := Array.length_toList
  obtain ⟨K, hK⟩ := Sp.gaps_ev s.data.toList (by omega)
  rw [hlen] at hK
  exact span_Gaps.calls K _ A c _ _ _ W hC hc (hK K (Nat.le_refl _))
theorem sum_c {l : List S24} (hl : l.length ≤ 100000) (hok : l.all Sp.okB = true) {A : Option Addr} {c : Nat} (W : World) (hC : Kd.C k24 W A l.length l) (hc : l.length ≤ c) : Calls Tryd.prog 15 #[.slice A l.length c] W fun e w' => e = .returned (.int .i64 (Sp.sumI l)) ∧ Below W.heap.size W w' := by
  obtain ⟨K, hK⟩ := Sp.sum_any l hl hok
  exact span_Sum.calls K A c l _ W hC hc (hK K (Nat.le_refl _))
theorem str_ne {a : ByteArray} (h : 0 < a.size) : ¬ a.toList = [] := by
  rw [Lib.toList_data]
  intro e
  have := congrArg List.length e
  rw [Array.length_toList, List.length_nil] at this
  have h2 : a.data.size = a.size := rfl
  omega
theorem str_ne2 {a : ByteArray} (h : 0 < a.size) : a.toList.isEmpty = false := by
  cases e : a.toList.isEmpty
  · rfl
  · exact absurd (List.isEmpty_iff.1 e) (str_ne h)
theorem plS_pos (a b : Int) : 0 < (plS a b).size := by
  unfold plS
  rw [ByteArray.size_append, ByteArray.size_append]
  have : (⟨#[58]⟩ : ByteArray).size = 1 := rfl
  omega
theorem show_good {s : ByteArray} {f t : Int} (h : 0 ≤ f ∧ f ≤ t ∧ t ≤ s.size) : ∃ a, showV s f t = (a, 0) ∧ 0 < a.size := by
  rw [showV, if_pos h]
  refine ⟨_, rfl, ?_⟩
  by_cases he : f = t
  · rw [if_pos he]; exact plS_pos _ _
  · rw [if_neg he, ByteArray.size_append, ByteArray.size_append]
    have := plS_pos (plN s.data.toList f.toNat).1 (plN s.data.toList f.toNat).2
    omega
theorem point_good {s : ByteArray} {f t : Int} (h : 0 ≤ f ∧ f ≤ t ∧ t ≤ s.size) : ∃ a, pointV s f t = (a, 0) ∧ 0 < a.size := by
  rw [pointV, if_pos h]
  refine ⟨_, rfl, ?_⟩
  show 0 < (List.toArray _).size
  rw [List.size_toArray, pointL]
  simp only [List.length_append, List.length_cons, List.length_nil]
  omega
set_option maxHeartbeats 8000000 in
set_option maxRecDepth 100000 in
theorem whole_out (s : ByteArray) (L : List S24) (A0 : Option Addr) (c0 : Nat) (hn : 1500 < s.size ∨ 30 < L.length) (w : World) (ht : TT w) : Calls Tryd.prog 3 #[.string s, .slice A0 L.length c0] w fun e w' => e = .returned (.bool true) ∧ Below w.heap.size w w' := by
  have HB := Aside0.mk (Below.refl w.heap.size w)
  have HT := Aside0.mk ht
  clear ht
  by_cases h1 : 1500 < s.size
  · have k1 : decide ((1500 : Int) < (s.size : Int)) = true := decide_eq_true (by omega)
    clear hn h1
    have tok_w0 : True := trivial
    go_enter Tryd.func3, Tryd.ntmps3
    go_wp2_with (first | (clear tok_w0; go_at_call 9; (with_reducible refine (cover_c _).mono ?_); rintro e w0 ⟨rfl, hb⟩; have n0_ := pxs HB hb; clear HB; have HB := n0_; clear n0_ hb) | ((with_reducible refine gate_dst (N := 5) rfl ?_); refine box_event ?hg (N := 5) ?hd (cs := #[.int .i64 0, .int .i64 0]) (t := 24) ?hr ?_; (case hd => rfl); (case hg => rfl); (case hr => first | (go_simp; done) | (go_simp; rfl)); intro gc hg wc hbox hb; have NWBC := Aside0.mk hbox; have GWBC := Aside0.mk ((by rw [hg]; exact (below_size (pxb HB)) : w.heap.size ≤ gc)); clear hg hbox; have n0_ := pxs HB hb; clear HB ; have HB := n0_; clear n0_; have BC := NWBC; clear NWBC hb; obtain ⟨xBC0, xBC1, yBC0, yBC1⟩ := pxf2 BC))
    go_ret
    exact ⟨rfl, pxb HB⟩
  · have k1 : decide ((1500 : Int) < (s.size : Int)) = false := decide_eq_false (by omega)
    have k2 : decide ((30 : Int) < (L.length : Int)) = true := decide_eq_true (by omega)
    clear hn h1
    have tok_w0 : True := trivial
    go_enter Tryd.func3, Tryd.ntmps3
    go_wp2_with (first | (clear tok_w0; go_at_call 9; (with_reducible refine (cover_c _).mono ?_); rintro e w0 ⟨rfl, hb⟩; have n0_ := pxs HB hb; clear HB; have HB := n0_; clear n0_ hb) | ((with_reducible refine gate_dst (N := 5) rfl ?_); refine box_event ?hg (N := 5) ?hd (cs := #[.int .i64 0, .int .i64 0]) (t := 24) ?hr ?_; (case hd => rfl); (case hg => rfl); (case hr => first | (go_simp; done) | (go_simp; rfl)); intro gc hg wc hbox hb; have NWBC := Aside0.mk hbox; have GWBC := Aside0.mk ((by rw [hg]; exact (below_size (pxb HB)) : w.heap.size ≤ gc)); clear hg hbox; have n0_ := pxs HB hb; clear HB ; have HB := n0_; clear n0_; have BC := NWBC; clear NWBC hb; obtain ⟨xBC0, xBC1, yBC0, yBC1⟩ := pxf2 BC))
    go_ret
    exact ⟨rfl, pxb HB⟩
set_option maxHeartbeats 8000000 in
set_option maxRecDepth 100000 in
theorem whole_in (w : World) (ht : TT w) (s : ByteArray) (L : List S24) (A0 : Option Addr) (c0 : Nat) (hs : s.size ≤ 1500) (hl : L.length ≤ 30) (hC : Kd.C k24 w A0 L.length L) (hc : L.length ≤ c0)  : Calls Tryd.prog 3 #[.string s, .slice A0 L.length c0] w fun e w' => e = .returned (.bool true) ∧ Below w.heap.size w w' := by
  have HB := Aside0.mk (Below.refl w.heap.size w)
  have HT := Aside0.mk ht
  clear ht
  have hs6 : s.size ≤ 65536 := by omega
  have HS := Lib.hid hs6
  have HC := Aside0.mk hC
  have HCC := Lib.hid hc
  have HLL := Lib.hid hl
  have k1 : decide ((1500 : Int) < (s.size : Int)) = false := decide_eq_false (by omega)
  have k2 : decide ((30 : Int) < (L.length : Int)) = false := decide_eq_false (by omega)
  have hlen : s.data.toList.length = s.size := Array.length_toList
  have hNl := ssN_len s.data.toList
  obtain ⟨N, hN⟩ : ∃ N, (ssN s.data.toList).length = N := ⟨_, rfl⟩
  have HNN := Lib.hid hN
  have hN9 : N ≤ 1501 := by omega
  have HLN := Lib.hid (fun g B (w1 : World) (h : Tab g B s w1) (W : World) (hb : Below w1.heap.size w1 W) => lines_from hs6 h (show ((ssN s.data.toList).length : Int) = (N : Int) by rw [hN]) W hb)
  have HLI := Lib.hid (fun g B (w1 : World) (h : Tab g B s w1) (k : Nat) (hk : k < N) (W : World) (hb : Below w1.heap.size w1 W) => line_from hs6 h ((k : Int) + 1) (show lineV s ((k : Int) + 1) = ((sN s.data.toList k : Int), (enN s.data.toList k : Int), 0) by rw [lineV, if_pos (by omega), show ((k : Int) + 1 - 1).toNat = k by omega]) W hb)
  have HAT := Lib.hid (fun g B (w1 : World) (h : Tab g B s w1) (k a : Nat) (hk : k < N) (h1 : sN s.data.toList k ≤ a) (h2 : a ≤ enN s.data.toList k) (W : World) (hb : Below w1.heap.size w1 W) => at_from hs6 h (a : Int) (show atV s (a : Int) = ((k : Int) + 1, ((a - sN s.data.toList k : Nat) : Int) + 1, 0) by
    have h3 := enN_toN (l := s.data.toList) k
    have h4 := toN_le (l := s.data.toList) k
    rw [atV_ok (by omega), Int.toNat_natCast, plN_line (l := s.data.toList) (k := a) (j := k) (by omega) (by omega) h1 (by omega)]
    rfl) W hb)
  have HSE := Lib.hid (fun (k : Nat) (hk : k < N) => (show sN s.data.toList k ≤ enN s.data.toList k ∧ enN s.data.toList k ≤ 1500 by
    have h1 := sN_enN (l := s.data.toList) (j := k) (by omega)
    have h3 := enN_toN (l := s.data.toList) k
    have h4 := toN_le (l := s.data.toList) k
    omega))
  clear hs hl hC hc hlen hNl hN
  have tok_w0 : True := trivial
  have tok_w1 : True := trivial
  go_enter Tryd.func3, Tryd.ntmps3
  go_wp2_with (first | (clear tok_w0; go_at_call 9; (with_reducible refine (cover_c _).mono ?_); rintro e w0 ⟨rfl, hb⟩; have n0_ := pxs HB hb; clear HB; have HB := n0_; clear n0_ hb) | ((with_reducible refine gate_dst (N := 5) rfl ?_); refine box_event ?hg (N := 5) ?hd (cs := #[.int .i64 0, .int .i64 0]) (t := 24) ?hr ?_; (case hd => rfl); (case hg => rfl); (case hr => first | (go_simp; done) | (go_simp; rfl)); intro gc hg wc hbox hb; have NWBC := Aside0.mk hbox; have GWBC := Aside0.mk ((by rw [hg]; exact (below_size (pxb HB)) : w.heap.size ≤ gc)); clear hg hbox; have n0_ := pxs HB hb; clear HB ; have HB := n0_; clear n0_; have BC := NWBC; clear NWBC hb; obtain ⟨xBC0, xBC1, yBC0, yBC1⟩ := pxf2 BC) | (clear tok_w1; go_at_call 10; (with_reducible refine (of_any s _ HS.out).mono ?_); rintro e w1 ⟨g, rfl, htab, hb⟩; have HB0 := pxs HB hb; have HT1 := Aside0.mk (HT.out.below HB0.out); have HTB := Aside0.mk htab; clear HB HT; have HB := Aside0.mk (Below.refl w1.heap.size w1); clear htab hb))
  go_loopg [9, 10] N (fun kq v9 v10 w' => ∃ (k : Nat) (lv : Value), v9 = lv ∧ v10 = .int .i64 ((k : Int) + 1) ∧ Hid (k ≤ N ∧ kq = N - k) ∧ Aside0 (Kd.R k24 24 w' w1.heap.size (fun _ => True) lv ((List.range k).map (Sp.spJ s.data.toList))) ∧ Aside0 (Below w1.heap.size w1 w'))
  case atStart => exact ⟨0, _, rfl, rfl, ⟨Nat.zero_le _, rfl⟩, ⟨Kd.R_nil _ _ _ _ _⟩, HB⟩
  case round =>
    clear HB
    obtain ⟨k, lv, rfl, rfl, HK, HO, HB⟩ := hrel
    have hk9 : k ≤ 1501 := by have := HK.out; omega
    by_cases hk : k < N
    · have kk : decide ((k : Int) + 1 ≤ (N : Int)) = true := decide_eq_true (by omega)
      have HKN := Lib.hid hk
      obtain ⟨xs, hxs⟩ : ∃ xs, (List.range k).map (Sp.spJ s.data.toList) = xs := ⟨_, rfl⟩
      rw [hxs] at HO
      have HXS := Lib.hid hxs
      have hxl : xs.length = k := by rw [← hxs, List.length_map, List.length_range]
      obtain ⟨A, c, rfl⟩ := Kd.R_slice HO.out
      have HXL := Lib.hid hxl
      have HLI1 := Lib.hid (fun W hb => HLI.out _ _ _ HTB.out k hk W hb)
      have HAT1 := Lib.hid (fun a h1 h2 W hb => HAT.out _ _ _ HTB.out k a hk h1 h2 W hb)
      have hse := HSE.out k hk
      have HSPK := Lib.hid (show Sp.spJ s.data.toList k = ⟨(sN s.data.toList k : Int), (enN s.data.toList k : Int)⟩ from rfl)
      clear hk hxs hxl
      generalize sN s.data.toList k = F at HLI1 HAT1 hse HSPK
      generalize enN s.data.toList k = E at HLI1 HAT1 hse HSPK
      have hF9 : F ≤ 1500 := by omega
      have hE9 : E ≤ 1500 := hse.2
      have HFE := Lib.hid hse.1
      clear hse
      have HR := Aside0.mk (Below.refl wr.heap.size wr)
      have tok_wa : True := trivial
      have tok_wb : True := trivial
      go_wp2_with (first | (clear tok_wa; go_at_call 11; (with_reducible refine (HLN.out _ _ _ HTB.out _ (pxb HB)).mono ?_); rintro e wa ⟨rfl, rfl⟩) | (clear tok_wb; go_at_call 12; (with_reducible refine (HLI1.out _ (pxb HB)).mono ?_); rintro e wb ⟨rfl, hb⟩; have n0_ := pxs HB hb; have nHR_ := pxs HR hb; clear HB HR ; have HB := n0_; clear n0_; have HR := nHR_; clear nHR_; clear hb) | ((with_reducible refine gate_dst (N := 11) rfl ?_); refine box_event ?hg (N := 11) ?hd (cs := #[.int .i64 0, .int .i64 0]) (t := 24) ?hr ?_; (case hd => rfl); (case hg => rfl); (case hr => first | (go_simp; done) | (go_simp; rfl)); intro gp hg w2 hbox hb; have NWSP := Aside0.mk hbox; have GWSP := Aside0.mk ((by rw [hg]; exact (below_size (pxb HB)) : w1.heap.size ≤ gp)); have GWHRSP := Aside0.mk ((by rw [hg]; exact (below_size (pxb HR))) : wr.heap.size ≤ gp); clear hg hbox; have n0_ := pxs HB hb; have nHR_ := pxs HR hb; clear HB HR ; have HB := n0_; clear n0_; have HR := nHR_; clear nHR_; have SP := NWSP; clear NWSP hb; obtain ⟨xSP0, xSP1, ySP0, ySP1⟩ := pxf2 SP))
      generalize hW_ : World.setCell (World.setCell _ _ _) _ _ = w3
      have HB3 : Aside0 (Below w1.heap.size w1 w3) := ⟨by rw [← hW_]; exact pxb HB⟩
      have HR3 : Aside0 (Below wr.heap.size wr w3) := ⟨by rw [← hW_]; exact pxb HR⟩
      have SP3 : Aside0 (w3.heap[gp]? = some (.cells #[.int .i64 (F : Int), .int .i64 (E : Int)] 24 (0, 0))) := ⟨by rw [← hW_]; exact pxp SP⟩
      have HO3 : Aside0 (Kd.R k24 24 w3 w1.heap.size (fun q => True ∧ q ≠ gp) (.slice A xs.length c) xs) := ⟨Kd.R_below (Kd.R_elderB HO.out gp GWHRSP.out) HR3.out⟩
      clear hW_ HB HR SP HO xSP0 xSP1 ySP0 ySP1
      go_loopg [13] (E + 1 - F) (fun kq v13 w' => ∃ d : Nat, v13 = .int .i64 ((F : Int) + (d : Int)) ∧ Hid (F + d ≤ E + 1 ∧ kq = E + 1 - (F + d)) ∧ Aside0 (Below w3.heap.size w3 w'))
      case atStart => exact ⟨0, by simp, ⟨by have := HFE.out; omega, rfl⟩, ⟨Below.refl _ _⟩⟩
      case round =>
        obtain ⟨d, rfl, HD, HI⟩ := hrel
        have HB := Aside0.mk (below_step HB3.out HI.out)
        have SP := Aside0.mk (blk_below SP3.out HI.out)
        obtain ⟨xSP0, xSP1, ySP0, ySP1⟩ := pxf2 SP
        have hd9 : d ≤ 1501 := by have := HD.out.1; omega
        have ed : (F : Int) + (d : Int) - (F : Int) = (d : Int) := by omega
        by_cases ha : F + d ≤ E
        · have ka : decide ((F : Int) + (d : Int) ≤ (E : Int)) = true := decide_eq_true (by omega)
          have HAT2 := Lib.hid (fun W hb => HAT1.out (F + d) (by omega) ha W hb)
          rw [show ((F + d : Nat) : Int) = (F : Int) + (d : Int) by omega, show ((F + d - F : Nat) : Int) = (d : Int) by omega] at HAT2
          clear ha
          have tok_wc : True := trivial
          go_wp2_with (first | (clear tok_wc; go_at_call 13; (with_reducible refine (HAT2.out _ (pxb HB)).mono ?_); rintro e wc ⟨rfl, hb⟩; have n0_ := pxs HB hb; have nSP_ : Aside0 (wc.heap[gp]? = some (.cells #[.int .i64 (F : Int), .int .i64 (E : Int)] 24 (0, 0))) := ⟨blk_below (pxp SP) hb⟩; have nHI_ := pxs HI hb; clear HB HI SP; have HB := n0_; clear n0_; have HI := nHI_; clear nHI_; have SP := nSP_; clear nSP_; clear hb; obtain ⟨xSP0, xSP1, ySP0, ySP1⟩ := pxf2 SP) | ((with_reducible refine gate_dst (N := 14) rfl ?_); refine box_event ?hg (N := 14) ?hd (cs := #[.int .i64 0, .int .i64 0]) (t := 35) ?hr ?_; (case hd => rfl); (case hg => rfl); (case hr => first | (go_simp; done) | (go_simp; rfl)); intro gq hg wd hbox hb; have NWPB := Aside0.mk hbox; have GWPB := Aside0.mk ((by rw [hg]; exact (below_size (pxb HB)) : w1.heap.size ≤ gq)); have GWHIPB := Aside0.mk ((by rw [hg]; exact (below_size (pxb HI))) : w3.heap.size ≤ gq); have NESPPB := Aside0.mk (show gp ≠ gq by rw [hg]; exact Nat.ne_of_lt (blk_lt (pxp (o := .cells #[.int .i64 (F : Int), .int .i64 (E : Int)] 24 (0, 0)) SP))); have NEPBSP := Aside0.mk (Ne.symm NESPPB.out); have eSPPB := NESPPB.out; have ePBSP := NEPBSP.out; clear hg hbox; have n0_ := pxs HB hb; have nSP_ : Aside0 (wd.heap[gp]? = some (.cells #[.int .i64 (F : Int), .int .i64 (E : Int)] 24 (0, 0))) := ⟨blk_below (pxp SP) hb⟩; have nHI_ := pxs HI hb; clear HB HI SP; have HB := n0_; clear n0_; have HI := nHI_; clear nHI_; have SP := nSP_; clear nSP_; have PB := NWPB; clear NWPB hb; obtain ⟨xSP0, xSP1, ySP0, ySP1⟩ := pxf2 SP; obtain ⟨xPB0, xPB1, yPB0, yPB1⟩ := pxf2 PB))
          go_roundg (E + 1 - (F + (d + 1)))
          case measure => have := HD.out; have := of_decide_eq_true ka; omega
          case rel => exact ⟨d + 1, by rw [show ((d + 1 : Nat) : Int) = (d : Int) + 1 by omega, Int.add_assoc], ⟨by have := of_decide_eq_true ka; omega, rfl⟩, ⟨pxb HI⟩⟩
        · have ka : decide ((F : Int) + (d : Int) ≤ (E : Int)) = false := decide_eq_false (by omega)
          have HO := Aside0.mk (Kd.R_below HO3.out HI.out)
          have hgp := blk_lt SP.out
          have hxk : xs.length ≤ 1501 := by have := HXL.out; omega
          have HGP := Lib.hid hgp
          clear ha hgp
          go_wp2_with (first | ((with_reducible refine gate_builtin (b := .append) (xs := #[.tmp 109, .tmp 111]) rfl ?_); at_builtin; refine Kd.R_append k24 (w0 := w1) w1.heap.size rfl (.tmp 109) (.tmp 111) 22 24 (.agg #[.int .i64 0, .int .i64 0]) 16 rfl Tryd.underlying22 info24 rfl (by decide) (by omega) (.slice A xs.length c) xs (⟨(F : Int), (E : Int)⟩ : S24) [.int .i64 (F : Int), .int .i64 (E : Int)] (fun q => True ∧ q ≠ gp) (fun _ => False) rfl rfl ?aP (fun _ hk => hk.elim) ?aF ?aO ?aB ?aS ?aL ?_; (case aP => exact k24_mkM _ _ _ _); (case aF => exact fun q hq => ⟨trivial, by have := HGP.out; omega⟩); (case aO => exact HO.out); (case aB => exact HB.out); (case aS => exact HB.out.size); (case aL => omega); intro v1 w5 ho hb hg hat; have HO5 := Aside0.mk ho; have HB5 := Aside0.mk hb; clear ho hb hg hat))
          go_roundg (N - (k + 1))
          case measure => have := HK.out; have := HKN.out; omega
          case rel => exact ⟨k + 1, _, rfl, by rw [show ((k + 1 : Nat) : Int) = (k : Int) + 1 by omega], ⟨by have := HKN.out; omega, rfl⟩, ⟨by rw [List.range_succ, List.map_append, HXS.out, List.map_singleton, HSPK.out]; exact Kd.R_mono HO5.out (fun _ _ => trivial)⟩, HB5⟩
    · have kk : decide ((k : Int) + 1 ≤ (N : Int)) = false := decide_eq_false (by omega)
      have hkN : k = N := by have := HK.out; omega
      have e1 : (List.range k).map (Sp.spJ s.data.toList) = Sp.spL s.data.toList := by rw [hkN, Sp.spL, HNN.out]
      rw [e1] at HO
      obtain ⟨A1, c1, rfl, hle1, hC1⟩ := Kd.R_reads HO.out
      have hlen : s.data.toList.length = s.size := Array.length_toList
      have hs15 : s.size ≤ 1500 := of_decide_eq_false k1 |> fun h => by omega
      have hNN := HNN.out
      have hsl : (Sp.spL s.data.toList).length ≤ 100000 := by rw [Sp.spL, List.length_map, List.length_range]; omega
      have hgl : (Sp.gpL s.data.toList).length = N - 1 := by rw [Sp.gpL, List.length_map, List.length_range, hNN]
      have hso := Sp.sp_oks (l := s.data.toList) (by omega)
      have hgo := Sp.gp_oks (l := s.data.toList) (by omega)
      have hsr := Sp.sumI_range _ hso
      have hgr := Sp.sumI_range _ hgo
      have hsum := Sp.sums s.data.toList
      rw [hlen] at hsum
      have HGA := Lib.hid (fun W (hb : Below wr.heap.size wr W) => gaps_c (s := s) hs6 W (Kd.C_below hC1 hb) hle1)
      have HS1 := Lib.hid (fun W (hb : Below wr.heap.size wr W) => sum_c hsl hso W (Kd.C_below hC1 hb) hle1)
      have HS2 := Lib.hid (fun (A : Option Addr) (c : Nat) (w4 : World) (hC : Kd.C k24 w4 A (Sp.gpL s.data.toList).length (Sp.gpL s.data.toList)) (hc : (Sp.gpL s.data.toList).length ≤ c) W (hb : Below w4.heap.size w4 W) => sum_c (l := Sp.gpL s.data.toList) (by omega) hgo W (Kd.C_below hC hb) hc)
      have HGI := Lib.hid (fun (i : Nat) (hi : i < (Sp.gpL s.data.toList).length) => (show rd_T24 (Sp.gpL s.data.toList) (i : Int) = Sp.gpJ s.data.toList i by
        rw [Sp.rd24_lt hi]
        simp [Sp.gpL]))
      have HGT := Lib.hid (fun (i : Nat) (hi : i < N - 1) => Sp.gap_text s (j := i) (by omega))
      have HGX := Lib.hid (fun (i : Nat) (hi : i < N - 1) (W : World) => span_Text.calls s (Sp.gpJ s.data.toList i).f0 (Sp.gpJ s.data.toList i).f1 (s.extract (enN s.data.toList i) (sN s.data.toList (i + 1))) 0 W (by
        have h1 := Sp.en_lt (l := s.data.toList) (j := i) (by omega)
        have h2 := sN_le (l := s.data.toList) (i + 1)
        exact Sp.text_yes (f := (enN s.data.toList i : Int)) (t := (sN s.data.toList (i + 1) : Int)) (by omega)))
      obtain ⟨X, hX⟩ : ∃ X, Sp.sumI (Sp.spL s.data.toList) = X := ⟨_, rfl⟩
      obtain ⟨Y, hY⟩ : ∃ Y, Sp.sumI (Sp.gpL s.data.toList) = Y := ⟨_, rfl⟩
      rw [hX] at HS1 hsum hsr
      rw [hY] at HS2 hsum hgr
      have z1 : wrap64 (X + Y) = (s.size : Int) := by rw [hsum]; unfold wrap64; omega
      have z2 := hsum
      have HGL := Lib.hid hgl
      generalize Sp.gpL s.data.toList = GL at HGA HS2 HGI HGL
      generalize hSL : Sp.spL s.data.toList = SL at HGA HS1 hle1
      have hs9 : s.size ≤ 1500 := hs15
      have HBa := HB
      have HO6 : True := trivial
      have HB := Aside0.mk (Below.refl wr.heap.size wr)
      clear HO e1 hC1 hkN hlen hs15 hNN hsl hgl hso hgo hsr hgr hsum hX hY hSL hle1
      have tok_wa : True := trivial
      have tok_w4 : True := trivial
      have tok_w5 : True := trivial
      have tok_w6 : True := trivial
      go_wp2_with (first | (clear tok_wa; go_at_call 11; (with_reducible refine (HLN.out _ _ _ HTB.out _ (below_step HBa.out (pxb HB))).mono ?_); rintro e wa ⟨rfl, rfl⟩) | (clear tok_w4; go_at_call 14; (with_reducible refine (HGA.out _ (pxb HB)).mono ?_); rintro e w4 ⟨v_, rfl, hv_, hb⟩; obtain ⟨A2, c2, rfl, hle2, hC2⟩ := Kd.R_reads hv_; have HBb := pxs HB hb; clear HB hv_; have HB := Aside0.mk (Below.refl w4.heap.size w4); have HC2 := Aside0.mk hC2; have HLE2 := Lib.hid hle2; clear hb hC2 hle2) | (clear tok_w5; go_at_call 15; (with_reducible refine (HS1.out _ (below_step HBb.out (pxb HB))).mono ?_); rintro e w5 ⟨rfl, hb⟩; have n0_ := pxs HB hb; clear HB ; have HB := n0_; clear n0_; clear hb) | (clear tok_w6; go_at_call 15; (with_reducible refine (HS2.out _ _ _ HC2.out HLE2.out _ (pxb HB)).mono ?_); rintro e w6 ⟨rfl, hb⟩; have n0_ := pxs HB hb; clear HB ; have HB := n0_; clear n0_; clear hb))
      have HW4 := Aside0.mk (below_step (below_step HB0.out HBa.out) HBb.out)
      have HT14 := Aside0.mk (below_step HBa.out HBb.out)
      clear HBa HBb HGA HS1 HS2 HO6 HLI HAT HSE
      go_loopg [134] GL.length (fun kq v134 w' => ∃ i : Nat, v134 = .int .i64 i ∧ Hid (i ≤ GL.length ∧ kq = GL.length - i) ∧ Aside0 (Below w4.heap.size w4 w'))
      case atStart => exact ⟨0, rfl, ⟨Nat.zero_le _, rfl⟩, HB⟩
      case round =>
        clear HB
        obtain ⟨i, rfl, HI, HB⟩ := hrel
        have hg9 : GL.length ≤ 1501 := by have := HGL.out; omega
        by_cases hi : i < GL.length
        · have hi9 : i ≤ 1501 := by omega
          have p : (0 : Int) ≤ (i : Int) := by omega
          have q : (i : Int) < (GL.length : Int) := by omega
          obtain ⟨ad, rfl, hx0, hx1⟩ := at_T24 (Kd.C_below HC2.out HB.out) (i : Int) p q
          rw [HGI.out i hi] at hx0 hx1
          simp only [Int.toNat_natCast] at hx0 hx1
          have hiN : i < N - 1 := by have := HGL.out; omega
          have HX := Lib.hid (HGX.out i hiN)
          have hgt := HGT.out i hiN
          have HIG := Lib.hid hi
          replace p := eq_true p
          replace q := eq_true q
          have ki : decide (i < GL.length) = true := decide_eq_true hi
          clear hi hiN
          generalize (Sp.gpJ s.data.toList i).f0 = F at hx0 HX
          generalize (Sp.gpJ s.data.toList i).f1 = E at hx1 HX
          generalize s.extract (enN s.data.toList i) (sN s.data.toList (i + 1)) = tx at HX hgt
          rcases hgt with rfl | rfl
          all_goals
            have tok_wb : True := trivial
            go_wp2_with (first | ((with_reducible refine gate_dst (N := 18) rfl ?_); refine box_event ?hg (N := 18) ?hd (cs := #[.int .i64 0, .int .i64 0]) (t := 24) ?hr ?_; (case hd => rfl); (case hg => rfl); (case hr => first | (go_simp; done) | (go_simp; rfl)); intro gg hg wa hbox hb; have NWBG := Aside0.mk hbox; have GWBG := Aside0.mk ((by rw [hg]; exact (below_size (pxb HB)) : w4.heap.size ≤ gg)); clear hg hbox; have n0_ := pxs HB hb; clear HB ; have HB := n0_; clear n0_; have BG := NWBG; clear NWBG hb; obtain ⟨xBG0, xBG1, yBG0, yBG1⟩ := pxf2 BG) | (clear tok_wb; go_at_call 16; (with_reducible refine (HX.out _).mono ?_); rintro e wb ⟨rfl, hb⟩; have n0_ := pxs HB hb; have nBG_ : Aside0 (wb.heap[gg]? = some (.cells #[.int .i64 F, .int .i64 E] 24 (0, 0))) := ⟨blk_below (pxp BG) hb⟩; clear HB BG; have HB := n0_; clear n0_; have BG := nBG_; clear nBG_; clear hb; obtain ⟨xBG0, xBG1, yBG0, yBG1⟩ := pxf2 BG))
            go_roundg (GL.length - (i + 1))
            case measure => have := HI.out; have := HIG.out; omega
            case rel => exact ⟨i + 1, by go_num, ⟨by have := HIG.out; omega, rfl⟩, ⟨pxb HB⟩⟩
        · have ki : decide (i < GL.length) = false := decide_eq_false hi
          clear hi
          go_wp2
          go_loopg [157] L.length (fun kq v157 w' => ∃ j : Nat, v157 = .int .i64 j ∧ Hid (j ≤ L.length ∧ kq = L.length - j) ∧ Aside0 (Below w4.heap.size w4 w'))
          case atStart => exact ⟨0, rfl, ⟨Nat.zero_le _, rfl⟩, HB⟩
          case round =>
            clear HB HI
            obtain ⟨j, rfl, HI, HB⟩ := hrel
            have hl9 : L.length ≤ 30 := HLL.out
            by_cases hj : j < L.length
            · have hj9 : j ≤ 30 := by omega
              have p : (0 : Int) ≤ (j : Int) := by omega
              have q : (j : Int) < (L.length : Int) := by omega
              obtain ⟨ad, rfl, hx0, hx1⟩ := at_T24 (Kd.C_below HC.out (below_step HW4.out HB.out)) (j : Int) p q
              simp only [Int.toNat_natCast] at hx0 hx1
              have HJL := Lib.hid hj
              replace p := eq_true p
              replace q := eq_true q
              have ki : decide (j < L.length) = true := decide_eq_true hj
              clear hj
              generalize (rd_T24 L (j : Int)).f0 = f at hx0
              generalize (rd_T24 L (j : Int)).f1 = t at hx1
              by_cases hgd : 0 ≤ f ∧ f ≤ t ∧ t ≤ s.size
              · obtain ⟨a, ha, ha0⟩ := show_good hgd
                obtain ⟨b, hb, hb0⟩ := point_good hgd
                obtain ⟨D, hD⟩ : ∃ D : Nat, t - f = D := ⟨(t - f).toNat, by omega⟩
                have hsz : s.size ≤ 65536 := HS.out
                have hx2 : (s.extract f.toNat t.toNat).size = D := by
                  rw [ByteArray.size_extract]
                  omega
                have HSH := Lib.hid (show_from HS.out HTB.out HT1.out f t ha)
                have HPT := Lib.hid (point_from HS.out HTB.out f t hb)
                have HXT := Lib.hid (fun W => span_Text.calls s f t (s.extract f.toNat t.toNat) 0 W (Sp.text_yes (by omega)))
                have HCK := Lib.hid (fun W => span_Check.calls f t (s.size : Int) 0 W (Sp.check_yes (by omega)))
                have HLE := Lib.hid (fun W => by
                  obtain ⟨K, hK⟩ := Sp.len_any f t
                  have h := span_Len.calls K f t _ W (hK K (Nat.le_refl _))
                  have e : Sp.lenS f t = (D : Int) := by unfold Sp.lenS; rw [if_pos (Sp.okS_iff.2 (by omega)), hD]
                  rw [e] at h
                  exact h)
                have y1 : ¬ a.toList = [] := str_ne ha0
                have y2 : a.toList.isEmpty = false := str_ne2 ha0
                have y3 : ¬ b.toList = [] := str_ne hb0
                have y4 : b.toList.isEmpty = false := str_ne2 hb0
                generalize s.extract f.toNat t.toNat = tx at hx2 HXT
                clear ha hb ha0 hb0 hD hsz hgd
                by_cases hd0 : D = 0
                · have z3 : ((tx.size : Int) != 0) = false := by rw [hx2, hd0]; rfl
                  have z4 : (tx.size != 0) = false := by rw [hx2, hd0]; rfl
                  have z5 : tx.size = 0 := by rw [hx2, hd0]
                  have HX2 := Lib.hid hx2
                  clear hx2 hd0
                  have tok_wb : True := trivial
                  have tok_wc : True := trivial
                  have tok_wd : True := trivial
                  have tok_we : True := trivial
                  go_wp2_with (first | ((with_reducible refine gate_dst (N := 22) rfl ?_); refine box_event ?hg (N := 22) ?hd (cs := #[.int .i64 0, .int .i64 0]) (t := 24) ?hr ?_; (case hd => rfl); (case hg => rfl); (case hr => first | (go_simp; done) | (go_simp; rfl)); intro gr hg wa hbox hb; have NWBQ := Aside0.mk hbox; have GWBQ := Aside0.mk ((by rw [hg]; exact (below_size (pxb HB)) : w4.heap.size ≤ gr)); clear hg hbox; have n0_ := pxs HB hb; clear HB ; have HB := n0_; clear n0_; have BQ := NWBQ; clear NWBQ hb; obtain ⟨xBQ0, xBQ1, yBQ0, yBQ1⟩ := pxf2 BQ) | (clear tok_wb; go_at_call 17; (with_reducible refine (HSH.out _ (below_step HT14.out (pxb HB))).mono ?_); rintro e wb ⟨rfl, hb⟩; have n0_ := pxs HB hb; have nBQ_ : Aside0 (wb.heap[gr]? = some (.cells #[.int .i64 f, .int .i64 t] 24 (0, 0))) := ⟨blk_below (pxp BQ) hb⟩; clear HB BQ; have HB := n0_; clear n0_; have BQ := nBQ_; clear nBQ_; clear hb; obtain ⟨xBQ0, xBQ1, yBQ0, yBQ1⟩ := pxf2 BQ) | (clear tok_wc; go_at_call 18; (with_reducible refine (HPT.out _ (below_step HT14.out (pxb HB))).mono ?_); rintro e wc ⟨rfl, hb⟩; have n0_ := pxs HB hb; have nBQ_ : Aside0 (wc.heap[gr]? = some (.cells #[.int .i64 f, .int .i64 t] 24 (0, 0))) := ⟨blk_below (pxp BQ) hb⟩; clear HB BQ; have HB := n0_; clear n0_; have BQ := nBQ_; clear nBQ_; clear hb; obtain ⟨xBQ0, xBQ1, yBQ0, yBQ1⟩ := pxf2 BQ) | (clear tok_wd; go_at_call 16; (with_reducible refine (HXT.out _).mono ?_); rintro e wd ⟨rfl, hb⟩; have n0_ := pxs HB hb; have nBQ_ : Aside0 (wd.heap[gr]? = some (.cells #[.int .i64 f, .int .i64 t] 24 (0, 0))) := ⟨blk_below (pxp BQ) hb⟩; clear HB BQ; have HB := n0_; clear n0_; have BQ := nBQ_; clear nBQ_; clear hb; obtain ⟨xBQ0, xBQ1, yBQ0, yBQ1⟩ := pxf2 BQ) | (clear tok_we; go_at_call 19; (with_reducible refine (HCK.out _).mono ?_); rintro e we ⟨rfl, hb⟩; have n0_ := pxs HB hb; have nBQ_ : Aside0 (we.heap[gr]? = some (.cells #[.int .i64 f, .int .i64 t] 24 (0, 0))) := ⟨blk_below (pxp BQ) hb⟩; clear HB BQ; have HB := n0_; clear n0_; have BQ := nBQ_; clear nBQ_; clear hb; obtain ⟨xBQ0, xBQ1, yBQ0, yBQ1⟩ := pxf2 BQ))
                  go_roundg (L.length - (j + 1))
                  case measure => have := HI.out; have := HJL.out; omega
                  case rel => exact ⟨j + 1, by go_num, ⟨by have := HJL.out; omega, rfl⟩, ⟨pxb HB⟩⟩
                · have z3 : ((tx.size : Int) != 0) = true := by rw [hx2]; exact bne_iff_ne.2 (by omega)
                  have z4 : (tx.size != 0) = true := by rw [hx2]; exact bne_iff_ne.2 hd0
                  have z5 : ((tx.size : Int) != (D : Int)) = false := by rw [hx2]; exact bne_self_eq_false _
                  have z6 : (tx.size != D) = false := by rw [hx2]; exact bne_self_eq_false _
                  have HX2 := Lib.hid hx2
                  clear hx2 hd0
                  have tok_wb : True := trivial
                  have tok_wc : True := trivial
                  have tok_wd : True := trivial
                  have tok_we : True := trivial
                  have tok_wf : True := trivial
                  go_wp2_with (first | ((with_reducible refine gate_dst (N := 22) rfl ?_); refine box_event ?hg (N := 22) ?hd (cs := #[.int .i64 0, .int .i64 0]) (t := 24) ?hr ?_; (case hd => rfl); (case hg => rfl); (case hr => first | (go_simp; done) | (go_simp; rfl)); intro gr hg wa hbox hb; have NWBQ := Aside0.mk hbox; have GWBQ := Aside0.mk ((by rw [hg]; exact (below_size (pxb HB)) : w4.heap.size ≤ gr)); clear hg hbox; have n0_ := pxs HB hb; clear HB ; have HB := n0_; clear n0_; have BQ := NWBQ; clear NWBQ hb; obtain ⟨xBQ0, xBQ1, yBQ0, yBQ1⟩ := pxf2 BQ) | (clear tok_wb; go_at_call 17; (with_reducible refine (HSH.out _ (below_step HT14.out (pxb HB))).mono ?_); rintro e wb ⟨rfl, hb⟩; have n0_ := pxs HB hb; have nBQ_ : Aside0 (wb.heap[gr]? = some (.cells #[.int .i64 f, .int .i64 t] 24 (0, 0))) := ⟨blk_below (pxp BQ) hb⟩; clear HB BQ; have HB := n0_; clear n0_; have BQ := nBQ_; clear nBQ_; clear hb; obtain ⟨xBQ0, xBQ1, yBQ0, yBQ1⟩ := pxf2 BQ) | (clear tok_wc; go_at_call 18; (with_reducible refine (HPT.out _ (below_step HT14.out (pxb HB))).mono ?_); rintro e wc ⟨rfl, hb⟩; have n0_ := pxs HB hb; have nBQ_ : Aside0 (wc.heap[gr]? = some (.cells #[.int .i64 f, .int .i64 t] 24 (0, 0))) := ⟨blk_below (pxp BQ) hb⟩; clear HB BQ; have HB := n0_; clear n0_; have BQ := nBQ_; clear nBQ_; clear hb; obtain ⟨xBQ0, xBQ1, yBQ0, yBQ1⟩ := pxf2 BQ) | (clear tok_wd; go_at_call 16; (with_reducible refine (HXT.out _).mono ?_); rintro e wd ⟨rfl, hb⟩; have n0_ := pxs HB hb; have nBQ_ : Aside0 (wd.heap[gr]? = some (.cells #[.int .i64 f, .int .i64 t] 24 (0, 0))) := ⟨blk_below (pxp BQ) hb⟩; clear HB BQ; have HB := n0_; clear n0_; have BQ := nBQ_; clear nBQ_; clear hb; obtain ⟨xBQ0, xBQ1, yBQ0, yBQ1⟩ := pxf2 BQ) | (clear tok_we; go_at_call 19; (with_reducible refine (HCK.out _).mono ?_); rintro e we ⟨rfl, hb⟩; have n0_ := pxs HB hb; have nBQ_ : Aside0 (we.heap[gr]? = some (.cells #[.int .i64 f, .int .i64 t] 24 (0, 0))) := ⟨blk_below (pxp BQ) hb⟩; clear HB BQ; have HB := n0_; clear n0_; have BQ := nBQ_; clear nBQ_; clear hb; obtain ⟨xBQ0, xBQ1, yBQ0, yBQ1⟩ := pxf2 BQ) | (clear tok_wf; go_at_call 20; (with_reducible refine (HLE.out _).mono ?_); rintro e wf ⟨rfl, hb⟩; have n0_ := pxs HB hb; have nBQ_ : Aside0 (wf.heap[gr]? = some (.cells #[.int .i64 f, .int .i64 t] 24 (0, 0))) := ⟨blk_below (pxp BQ) hb⟩; clear HB BQ; have HB := n0_; clear n0_; have BQ := nBQ_; clear nBQ_; clear hb; obtain ⟨xBQ0, xBQ1, yBQ0, yBQ1⟩ := pxf2 BQ))
                  go_roundg (L.length - (j + 1))
                  case measure => have := HI.out; have := HJL.out; omega
                  case rel => exact ⟨j + 1, by go_num, ⟨by have := HJL.out; omega, rfl⟩, ⟨pxb HB⟩⟩
              · have HSH := Lib.hid (show_from HS.out HTB.out HT1.out f t (show showV s f t = (⟨#[]⟩, 1) by rw [showV, if_neg hgd]))
                have HPT := Lib.hid (point_from HS.out HTB.out f t (show pointV s f t = (⟨#[]⟩, 1) by rw [pointV, if_neg hgd]))
                have HXT := Lib.hid (fun W => span_Text.calls s f t ⟨#[]⟩ 1 W (Sp.text_no (by omega)))
                have HCK := Lib.hid (fun W => span_Check.calls f t (s.size : Int) 1 W (Sp.check_no (by omega)))
                clear hgd
                have tok_wb : True := trivial
                have tok_wc : True := trivial
                have tok_wd : True := trivial
                have tok_we : True := trivial
                go_wp2_with (first | ((with_reducible refine gate_dst (N := 22) rfl ?_); refine box_event ?hg (N := 22) ?hd (cs := #[.int .i64 0, .int .i64 0]) (t := 24) ?hr ?_; (case hd => rfl); (case hg => rfl); (case hr => first | (go_simp; done) | (go_simp; rfl)); intro gr hg wa hbox hb; have NWBQ := Aside0.mk hbox; have GWBQ := Aside0.mk ((by rw [hg]; exact (below_size (pxb HB)) : w4.heap.size ≤ gr)); clear hg hbox; have n0_ := pxs HB hb; clear HB ; have HB := n0_; clear n0_; have BQ := NWBQ; clear NWBQ hb; obtain ⟨xBQ0, xBQ1, yBQ0, yBQ1⟩ := pxf2 BQ) | (clear tok_wb; go_at_call 17; (with_reducible refine (HSH.out _ (below_step HT14.out (pxb HB))).mono ?_); rintro e wb ⟨rfl, hb⟩; have n0_ := pxs HB hb; have nBQ_ : Aside0 (wb.heap[gr]? = some (.cells #[.int .i64 f, .int .i64 t] 24 (0, 0))) := ⟨blk_below (pxp BQ) hb⟩; clear HB BQ; have HB := n0_; clear n0_; have BQ := nBQ_; clear nBQ_; clear hb; obtain ⟨xBQ0, xBQ1, yBQ0, yBQ1⟩ := pxf2 BQ) | (clear tok_wc; go_at_call 18; (with_reducible refine (HPT.out _ (below_step HT14.out (pxb HB))).mono ?_); rintro e wc ⟨rfl, hb⟩; have n0_ := pxs HB hb; have nBQ_ : Aside0 (wc.heap[gr]? = some (.cells #[.int .i64 f, .int .i64 t] 24 (0, 0))) := ⟨blk_below (pxp BQ) hb⟩; clear HB BQ; have HB := n0_; clear n0_; have BQ := nBQ_; clear nBQ_; clear hb; obtain ⟨xBQ0, xBQ1, yBQ0, yBQ1⟩ := pxf2 BQ) | (clear tok_wd; go_at_call 16; (with_reducible refine (HXT.out _).mono ?_); rintro e wd ⟨rfl, hb⟩; have n0_ := pxs HB hb; have nBQ_ : Aside0 (wd.heap[gr]? = some (.cells #[.int .i64 f, .int .i64 t] 24 (0, 0))) := ⟨blk_below (pxp BQ) hb⟩; clear HB BQ; have HB := n0_; clear n0_; have BQ := nBQ_; clear nBQ_; clear hb; obtain ⟨xBQ0, xBQ1, yBQ0, yBQ1⟩ := pxf2 BQ) | (clear tok_we; go_at_call 19; (with_reducible refine (HCK.out _).mono ?_); rintro e we ⟨rfl, hb⟩; have n0_ := pxs HB hb; have nBQ_ : Aside0 (we.heap[gr]? = some (.cells #[.int .i64 f, .int .i64 t] 24 (0, 0))) := ⟨blk_below (pxp BQ) hb⟩; clear HB BQ; have HB := n0_; clear n0_; have BQ := nBQ_; clear nBQ_; clear hb; obtain ⟨xBQ0, xBQ1, yBQ0, yBQ1⟩ := pxf2 BQ))
                go_roundg (L.length - (j + 1))
                case measure => have := HI.out; have := HJL.out; omega
                case rel => exact ⟨j + 1, by go_num, ⟨by have := HJL.out; omega, rfl⟩, ⟨pxb HB⟩⟩
            · have ki : decide (j < L.length) = false := decide_eq_false hj
              go_wp2
              go_ret
              exact ⟨rfl, below_step HW4.out (pxb HB)⟩
theorem whole_any (s : ByteArray) (L : List S24) (A0 : Option Addr) (c0 : Nat) (w : World) (ht : TT w) (hC : Kd.C k24 w A0 L.length L) (hc : L.length ≤ c0) : Calls Tryd.prog 3 #[.string s, .slice A0 L.length c0] w fun e w' => e = .returned (.bool true) ∧ Below w.heap.size w w' := by
  by_cases hn : 1500 < s.size ∨ 30 < L.length
  · exact whole_out s L A0 c0 hn w ht
  · exact whole_in w ht s L A0 c0 (by omega) (by omega) hC hc
end Go.Proofs.YtimhbepecnmjeaaDoor.LiW
