/- The place of a byte: what the table's method answers; every table that Of makes. -/
import Derived.Test.YtimhbepecnmjeaaDoorLinesW1
import Derived.Test.YtimhbepecnmjeaaDoorShelf
namespace Go.Proofs.YtimhbepecnmjeaaDoor.LiW
open Go.RowKit Go.Shelf Go.Proofs.YtimhbepecnmjeaaDoorW.PrintWords Go.Proofs.YtimhbepecnmjeaaDoor.Li
set_option linter.unusedVariables false
set_option linter.unusedSimpArgs false
theorem line_any (g B : Nat) (s : ByteArray) (n : Int) (w : World) (hs : s.size ≤ 65536) (h : Tab g B s w) : Calls Tryd.prog 12 #[.pointer (some ⟨g, 0, none⟩), .int .i64 n] w (LineP s n w) := by
  by_cases h1 : 1 ≤ n ∧ n ≤ (ssN s.data.toList).length
  · by_cases h2 : n = (ssN s.data.toList).length
    · exact line_last g B s n w h1.1 h2 hs h
    · exact line_mid g B s n w h1.1 (by omega) hs h
  · exact line_bad g B s n w h1 h
theorem cell_bl {w w2 : World} {b i : Nat} {x : Value} (hb : Below w.heap.size w w2) (h : w.cell? ⟨b, i, none⟩ = some x) : w2.cell? ⟨b, i, none⟩ = some x := (hb.cell (p := ⟨b, i, none⟩) (World.block_lt_of_cell? w _ h)).trans h
theorem countP_ssI (l : List UInt8) (k : Nat) : ((ssI l).toArray.toList.countP (fun y => !decide ((k : Int) + 1 ≤ y))) = cnN l k := by
  rw [ssI, List.countP_map, cnN]
  refine List.countP_congr (fun x _ => ?_)
  simp only [Function.comp, Bool.not_eq_true', decide_eq_false_iff_not, decide_eq_true_iff]
  omega
theorem search_any (g B : Nat) (s : ByteArray) (k : Nat) (lv : Value) (w : World) (h : TabAt g B s lv (ssI s.data.toList) w) (hs : s.size ≤ 65536) :
    Calls Tryd.prog 31 #[lv, .int .i64 ((k : Int) + 1)] w fun e w' => e = .returned (.int .i64 (cnN s.data.toList k : Nat)) ∧ Below w.heap.size w w' := by
  obtain ⟨b, c, rfl, hb, hc⟩ := tab_cell h
  have hsz : (ssI s.data.toList).toArray.size = (ssN s.data.toList).length := by rw [List.size_toArray, ssI_len]
  have hget : ∀ i, i < (ssN s.data.toList).length → (ssI s.data.toList).toArray[i]! = (sN s.data.toList i : Int) := by
    intro i hi
    rw [getElem!_pos _ i (by rw [hsz]; exact hi), List.getElem_toArray]
    rw [sN_eq hi]
    simp [ssI]
  have hle := ssN_len s.data.toList
  have hle2 : s.data.toList.length = s.size := Array.length_toList
  have hr := Any.sort_SearchInts Shelf.sllayso14 b 0 c (ssI s.data.toList).toArray ((k : Int) + 1) w (fun i hi => by rw [hsz] at hi; rw [Nat.zero_add, hget i hi]; exact hc i hi) hb (by rw [hsz]; omega) (fun x y hxy hy hd => by
    rw [hsz] at hy
    rw [hget x (by omega)] at hd
    rw [hget y hy]
    have := of_decide_eq_true hd
    have := sN_mono hxy hy
    exact decide_eq_true (by omega))
  rw [hsz, countP_ssI] at hr
  exact hr
set_option maxHeartbeats 4000000 in
set_option maxRecDepth 100000 in
theorem at_bad (g B : Nat) (s : ByteArray) (k : Int) (w : World) (hk : ¬ (0 ≤ k ∧ k ≤ s.size)) (h : Tab g B s w) : Calls Tryd.prog 13 #[.pointer (some ⟨g, 0, none⟩), .int .i64 k] w fun e w' => e = .returned (.tuple #[.agg #[.int .i64 0, .int .i64 0], .int .i64 1]) ∧ Below w.heap.size w w' := by
  obtain ⟨lv, h⟩ := h
  obtain ⟨c0, c1, f0, f1⟩ := h.at
  have hgl := h.lt
  have HB := Aside0.mk (Below.refl w.heap.size w)
  have G0 := Aside0.mk (Nat.le_refl w.heap.size)
  by_cases h1 : k < 0
  · have k1 : decide (k < 0) = true := decide_eq_true h1
    clear h hk
    go_enter Tryd.func13, Tryd.ntmps13
    go_wp2
    exact bodyPost_ret (v := .tuple #[.agg #[.int .i64 0, .int .i64 0], .int .i64 1]) (by simp [results, Tryd.results13, go_sem]) rfl ⟨rfl, pxb HB⟩
  · have k1 : decide (k < 0) = false := decide_eq_false h1
    have k2 : decide ((s.size : Int) < k) = true := decide_eq_true (by omega)
    clear h hk
    go_enter Tryd.func13, Tryd.ntmps13
    go_wp2
    exact bodyPost_ret (v := .tuple #[.agg #[.int .i64 0, .int .i64 0], .int .i64 1]) (by simp [results, Tryd.results13, go_sem]) rfl ⟨rfl, pxb HB⟩
set_option maxHeartbeats 4000000 in
set_option maxRecDepth 100000 in
theorem at_any (g B : Nat) (s : ByteArray) (k : Nat) (w : World) (hk : k ≤ s.size) (hs : s.size ≤ 65536) (h : Tab g B s w) : Calls Tryd.prog 13 #[.pointer (some ⟨g, 0, none⟩), .int .i64 k] w fun e w' => e = .returned (.tuple #[.agg #[.int .i64 (plN s.data.toList k).1, .int .i64 (plN s.data.toList k).2], .int .i64 0]) ∧ Below w.heap.size w w' := by
  have hle2 : s.data.toList.length = s.size := Array.length_toList
  have hcl := cn_line (l := s.data.toList) (k := k) (by omega)
  rw [plN_eq (by omega)]
  have hcn := @cnN_pos s.data.toList k
  have hcn2 := @cnN_le s.data.toList k
  have hle := ssN_len s.data.toList
  obtain ⟨lv, h⟩ := h
  have HSE : ∀ w', Below w.heap.size w w' → Calls Tryd.prog 31 #[lv, .int .i64 ((k : Int) + 1)] w' fun e w2 => e = .returned (.int .i64 (cnN s.data.toList k : Nat)) ∧ Below w'.heap.size w' w2 := fun w' hb => search_any g B s k lv w' (h.below hb) hs
  have HSE := Lib.hid HSE
  obtain ⟨b, c, rfl, hb, hc⟩ := tab_cell h
  obtain ⟨c0, c1, f0, f1⟩ := h.at
  have hgl := h.lt
  have hcell := hc (cnN s.data.toList k - 1) hcl.1
  have h3 := hcl.2.1
  obtain ⟨N, hN⟩ : ∃ N, (ssN s.data.toList).length = N := ⟨_, rfl⟩
  rw [hN] at HSE c1 hcl hcn2 hle
  generalize cnN s.data.toList k = C at *
  obtain ⟨C, rfl⟩ : ∃ m, C = m + 1 := ⟨C - 1, by omega⟩
  rw [Nat.add_sub_cancel] at hcl hcell h3 ⊢
  generalize sN s.data.toList C = F at *
  have hk9 : k ≤ 65536 := by omega
  have hC9 : C ≤ 65536 := by omega
  have HB := Aside0.mk (Below.refl w.heap.size w)
  have G0 := Aside0.mk (Nat.le_refl w.heap.size)
  have k1 : decide ((k : Int) < 0) = false := decide_eq_false (by omega)
  have k2 : decide (s.size < k) = false := decide_eq_false (by omega)
  have k3 : (C : Int) < N := by omega
  have k4 : (0 : Int) ≤ C := by omega
  have k5 : F ≤ k := h3
  clear h hc hcl hcn hcn2 hle hle2 hN hk hs h3
  go_enter Tryd.func13, Tryd.ntmps13
  go_wp2_with (go_at_call 31; refine (HSE.out _ (pxb HB)).mono ?_; rintro e w2 ⟨rfl, hb2⟩; have n0 := pxs HB hb2; have hbx := blk_below (o := .cells #[.int .i64 0, .int .i64 0] 35 (0, 0)) (by exact heap_alloc_new _ _) hb2; have hsz2 := hb2.size; rw [World.size_alloc] at hsz2; have c1 := cell_bl n0.out c1; have hcell := cell_bl n0.out hcell; clear HB; have HB := n0; clear n0; obtain ⟨x0, x1, y0, y1⟩ := pxf2 ⟨hbx⟩; have hbx := Aside0.mk hbx; clear hb2)
  go_wp2
  exact bodyPost_ret (v := .tuple #[.agg #[.int .i64 ((C : Int) + 1), .int .i64 ((k : Int) - F + 1)], .int .i64 0]) (by simp [results, Tryd.results13, go_sem, hsz2, x0, x1, y0, y1]) rfl ⟨by rw [show ((k - F + 1 : Nat) : Int) = (k : Int) - F + 1 by omega]; rfl, pxb HB⟩
/-- What At answers. -/
def atV (s : ByteArray) (k : Int) : Int × Int × Int := if 0 ≤ k ∧ k ≤ s.size then ((plN s.data.toList k.toNat).1, (plN s.data.toList k.toNat).2, 0) else (0, 0, 1)
theorem at_all (g B : Nat) (s : ByteArray) (k : Int) (w : World) (hs : s.size ≤ 65536) (h : Tab g B s w) : Calls Tryd.prog 13 #[.pointer (some ⟨g, 0, none⟩), .int .i64 k] w fun e w' => e = .returned (.tuple #[.agg #[.int .i64 (atV s k).1, .int .i64 (atV s k).2.1], .int .i64 (atV s k).2.2]) ∧ Below w.heap.size w w' := by
  unfold atV
  by_cases hk : 0 ≤ k ∧ k ≤ s.size
  · rw [if_pos hk]
    have h1 := at_any g B s k.toNat w (by omega) hs h
    rw [Int.toNat_of_nonneg hk.1] at h1
    exact h1
  · rw [if_neg hk]
    exact at_bad g B s k w hk h
set_option maxHeartbeats 4000000 in
set_option maxRecDepth 100000 in
theorem text_bad (g B : Nat) (s : ByteArray) (n : Int) (w : World) (hn : ¬ (1 ≤ n ∧ n ≤ (ssN s.data.toList).length)) (hs : s.size ≤ 65536) (h : Tab g B s w) : Calls Tryd.prog 27 #[.pointer (some ⟨g, 0, none⟩), .int .i64 n] w fun e w' => e = .returned (.tuple #[.string ⟨#[]⟩, .int .i64 1]) ∧ Below w.heap.size w w' := by
  have HL := line_any g B s n w hs h
  unfold LineP at HL
  rw [if_neg hn, if_neg hn, if_neg hn] at HL
  have HL := Lib.hid HL
  clear hn h hs
  go_enter Tryd.func27, Tryd.ntmps27
  go_wp2_with (go_at_call 12; refine HL.out.mono ?_; rintro e w2 ⟨rfl, hb2⟩; have HB := Aside0.mk hb2; clear hb2)
  go_ret2
  exact ⟨rfl, pxb HB⟩
set_option maxHeartbeats 4000000 in
set_option maxRecDepth 100000 in
theorem text_any (g B : Nat) (s : ByteArray) (j : Nat) (w : World) (hj : j < (ssN s.data.toList).length) (hs : s.size ≤ 65536) (h : Tab g B s w) : Calls Tryd.prog 27 #[.pointer (some ⟨g, 0, none⟩), .int .i64 ((j : Int) + 1)] w fun e w' => e = .returned (.tuple #[.string (s.extract (sN s.data.toList j) (enN s.data.toList j)), .int .i64 0]) ∧ Below w.heap.size w w' := by
  have HL := line_any g B s ((j : Int) + 1) w hs h
  unfold LineP at HL
  have e2 : ((j : Int) + 1 - 1).toNat = j := by omega
  rw [if_pos (by omega), if_pos (by omega), if_pos (by omega), e2] at HL
  have HL := Lib.hid HL
  obtain ⟨lv, h⟩ := h
  obtain ⟨c0, c1, f0, f1⟩ := h.at
  have hgl := h.lt
  have hle2 : s.data.toList.length = s.size := Array.length_toList
  have h1 := sN_enN hj
  have h2 := Nat.le_trans (enN_toN (l := s.data.toList) j) (toN_le j)
  rw [hle2] at h2
  generalize sN s.data.toList j = F at *
  generalize enN s.data.toList j = E at *
  clear hj h hs hle2 e2 c1 f1
  have q1 : decide (F ≤ E) = true := decide_eq_true h1
  have q2 : decide (E ≤ s.size) = true := decide_eq_true h2
  go_enter Tryd.func27, Tryd.ntmps27
  go_wp2_with (go_at_call 12; refine HL.out.mono ?_; rintro e w2 ⟨rfl, hb2⟩; have HB := Aside0.mk hb2; have c0 := cell_bl hb2 c0; have hgl2 := Nat.lt_of_lt_of_le hgl hb2.size; clear hb2)
  go_quiet (fail)
  go_wp2
  go_ret2
  exact ⟨rfl, pxb HB⟩
end Go.Proofs.YtimhbepecnmjeaaDoor.LiW
