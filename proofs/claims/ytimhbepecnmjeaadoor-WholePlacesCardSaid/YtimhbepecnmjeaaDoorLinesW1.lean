/- How many lines there are, a line's bytes, and the byte at a place: what a table's methods answer; every table that Of makes. -/
import Derived.Test.YtimhbepecnmjeaaDoorLinesW0
import Derived.StillTailTactics
import Derived.BigRegion
import Derived.IntWalk
import Derived.RegionTactic
import Derived.Outline
namespace Go.Proofs.YtimhbepecnmjeaaDoor.LiW
open Go.RowKit Go.Proofs.YtimhbepecnmjeaaDoorW.PrintWords Go.Proofs.YtimhbepecnmjeaaDoor.Li
set_option linter.unusedVariables false
set_option linter.unusedSimpArgs false
theorem cell_al {w : World} {b i : Nat} {x : Value} (o : Obj) (h : w.cell? ⟨b, i, none⟩ = some x) : (w.alloc o).cell? ⟨b, i, none⟩ = some x := ((below_alloc (Below.refl w.heap.size w) o).cell (p := ⟨b, i, none⟩) (World.block_lt_of_cell? w _ h)).trans h
theorem ssI_len (l : List UInt8) : (ssI l).length = (ssN l).length := List.length_map ..
theorem ssI_rd {l : List UInt8} {j : Nat} (h : j < (ssN l).length) : rd (ssI l) (j : Int) = (sN l j : Int) := by
  unfold rd
  rw [Int.toNat_natCast, sN_eq h]
  simp [ssI, List.getD_eq_getElem?_getD, h]
theorem tab_cell {g B : Nat} {s : ByteArray} {lv : Value} {W : World} (h : TabAt g B s lv (ssI s.data.toList) W) : ∃ (b c : Nat), lv = .slice (some ⟨b, 0, none⟩) (ssN s.data.toList).length c ∧ b < W.heap.size ∧ ∀ j, j < (ssN s.data.toList).length → W.cell? ⟨b, j, none⟩ = some (.int .i64 (sN s.data.toList j)) := by
  obtain ⟨A, c, rfl, hle, hC⟩ := Kd.R_reads h.row
  have hp := ssN_pos s.data.toList
  have hg := Kd.R_own h.row
  obtain ⟨inner, _, hg⟩ := hg
  rcases hg with ⟨e1, e2⟩ | ⟨b, cap, cur, e1, _, hb, _⟩
  · rw [ssI_len] at e2
    omega
  · injection e1 with e1 e2 e3
    subst e1
    refine ⟨b, c, by rw [ssI_len], blk_lt hb, fun j hj => ?_⟩
    obtain ⟨ad, e4, e5⟩ := Kd.at_int hC (j : Int) (by omega) (by rw [ssI_len]; omega)
    injection e4 with e4
    subst e4
    rw [ssI_rd hj, Int.toNat_natCast] at e5
    have e6 : (⟨b, 0, none⟩ : Addr).add j = ⟨b, j, none⟩ := by
      unfold Addr.add
      split
      · rename_i h0; rw [h0]
      · rw [Nat.zero_add]
    rw [e6] at e5
    exact e5
set_option maxHeartbeats 4000000 in
set_option maxRecDepth 100000 in
theorem lines_any (g B : Nat) (s : ByteArray) (w : World) (h : Tab g B s w) : Calls Tryd.prog 11 #[.pointer (some ⟨g, 0, none⟩)] w fun e w' => e = .returned (.int .i64 (ssN s.data.toList).length) ∧ w' = w := by
  obtain ⟨lv, h⟩ := h
  obtain ⟨b, c, rfl, hb, hc⟩ := tab_cell h
  obtain ⟨c0, c1, f0, f1⟩ := h.at
  clear hc h
  go_enter Tryd.func11, Tryd.ntmps11
  go_wp2
  go_ret
  exact ⟨rfl, rfl⟩
/-- The bytes of a line, by its number. -/
def LineP (s : ByteArray) (n : Int) (w : World) (e : Ending) (w' : World) : Prop :=
  e = .returned (.tuple #[.agg #[.int .i64 (if 1 ≤ n ∧ n ≤ (ssN s.data.toList).length then sN s.data.toList (n - 1).toNat else 0 : Nat), .int .i64 (if 1 ≤ n ∧ n ≤ (ssN s.data.toList).length then enN s.data.toList (n - 1).toNat else 0 : Nat)], .int .i64 (if 1 ≤ n ∧ n ≤ (ssN s.data.toList).length then 0 else 1)]) ∧ Below w.heap.size w w'
set_option maxHeartbeats 4000000 in
set_option maxRecDepth 100000 in
theorem line_bad (g B : Nat) (s : ByteArray) (n : Int) (w : World) (hn : ¬ (1 ≤ n ∧ n ≤ (ssN s.data.toList).length)) (h : Tab g B s w) : Calls Tryd.prog 12 #[.pointer (some ⟨g, 0, none⟩), .int .i64 n] w (LineP s n w) := by
  unfold LineP
  rw [if_neg hn, if_neg hn, if_neg hn]
  obtain ⟨lv, h⟩ := h
  obtain ⟨b, c, rfl, hb, hc⟩ := tab_cell h
  obtain ⟨c0, c1, f0, f1⟩ := h.at
  clear hc
  have hgl := h.lt
  have HB := Aside0.mk (Below.refl w.heap.size w)
  by_cases h1 : n < 1
  · have k1 : decide (n < 1) = true := decide_eq_true h1
    clear h hn
    go_enter Tryd.func12, Tryd.ntmps12
    go_wp2
    exact bodyPost_ret (v := .tuple #[.agg #[.int .i64 0, .int .i64 0], .int .i64 1]) (by simp [results, Tryd.results12, go_sem]) rfl ⟨rfl, pxb HB⟩
  · have k1 : decide (n < 1) = false := decide_eq_false h1
    have k2 : decide (((ssN s.data.toList).length : Int) < n) = true := decide_eq_true (by omega)
    clear h hn
    go_enter Tryd.func12, Tryd.ntmps12
    go_wp2
    exact bodyPost_ret (v := .tuple #[.agg #[.int .i64 0, .int .i64 0], .int .i64 1]) (by simp [results, Tryd.results12, go_sem]) rfl ⟨rfl, pxb HB⟩
set_option maxHeartbeats 4000000 in
set_option maxRecDepth 100000 in
theorem line_last (g B : Nat) (s : ByteArray) (n : Int) (w : World) (h1 : 1 ≤ n) (h2 : n = (ssN s.data.toList).length) (hs : s.size ≤ 65536) (h : Tab g B s w) : Calls Tryd.prog 12 #[.pointer (some ⟨g, 0, none⟩), .int .i64 n] w (LineP s n w) := by
  unfold LineP
  rw [if_pos ⟨h1, by omega⟩, if_pos ⟨h1, by omega⟩, if_pos ⟨h1, by omega⟩]
  obtain ⟨lv, h⟩ := h
  obtain ⟨b, c, rfl, hb, hc⟩ := tab_cell h
  obtain ⟨c0, c1, f0, f1⟩ := h.at
  have hgl := h.lt
  have HB := Aside0.mk (Below.refl w.heap.size w)
  obtain ⟨j, rfl⟩ : ∃ j : Nat, n = (j : Int) + 1 := ⟨(n - 1).toNat, by omega⟩
  have hj : (ssN s.data.toList).length = j + 1 := by omega
  have hle := ssN_len s.data.toList
  have hle2 : s.data.toList.length = s.size := Array.length_toList
  have hj9 : j < 65537 := by omega
  have hcell := hc j (by omega)
  have e : enN s.data.toList ((j : Int) + 1 - 1).toNat = s.size := by
    rw [enN, if_neg (by omega)]; exact hle2
  have e2 : ((j : Int) + 1 - 1).toNat = j := by omega
  rw [e, e2]
  rw [hj] at c1
  have k1 : decide ((j : Int) + 1 < 1) = false := decide_eq_false (by omega)
  have k2 : decide (((j + 1 : Nat) : Int) < (j : Int) + 1) = false := decide_eq_false (by omega)
  have k3 : decide ((j : Int) + 1 < ((j + 1 : Nat) : Int)) = false := decide_eq_false (by omega)
  clear h h1 h2 hle hle2 hj hc e e2
  go_enter Tryd.func12, Tryd.ntmps12
  go_wp2
  have d0 : (w.alloc (.cells #[.int .i64 0, .int .i64 0] 24)).cell? ⟨g, 0, none⟩ = some (.string s) := cell_al _ c0
  have d1 : (w.alloc (.cells #[.int .i64 0, .int .i64 0] 24)).cell? ⟨g, 1, none⟩ = some (.slice (some ⟨b, 0, none⟩) (j + 1) c) := cell_al _ c1
  have d2 : (w.alloc (.cells #[.int .i64 0, .int .i64 0] 24)).cell? ⟨b, j, none⟩ = some (.int .i64 (sN s.data.toList j)) := cell_al _ hcell
  have hz : (w.alloc (.cells #[.int .i64 0, .int .i64 0] 24)).heap.size = w.heap.size + 1 := World.size_alloc _ _
  have hg1 : g < (w.alloc (.cells #[.int .i64 0, .int .i64 0] 24)).heap.size := by rw [hz]; exact Nat.lt_succ_of_lt hgl
  have hb1 : b < (w.alloc (.cells #[.int .i64 0, .int .i64 0] 24)).heap.size := by rw [hz]; exact Nat.lt_succ_of_lt hb
  have hw1 : IntKind.i64.wrap (j : Int) = j := IntWalk.i64_in _ (by omega)
  generalize hwq : w.alloc (.cells #[.int .i64 0, .int .i64 0] 24) = W1 at d0 d1 d2 hz hg1 hb1 ⊢
  go_region
  subst hwq
  clear d0 d1 d2 hz hg1 hb1
  go_wp2
  exact bodyPost_ret (v := .tuple #[.agg #[.int .i64 (sN s.data.toList j), .int .i64 s.size], .int .i64 0]) (by simp [results, Tryd.results12, go_sem]) rfl ⟨rfl, pxb HB⟩
set_option maxHeartbeats 8000000 in
set_option maxRecDepth 100000 in
theorem line_mid (g B : Nat) (s : ByteArray) (n : Int) (w : World) (h1 : 1 ≤ n) (h2 : n < (ssN s.data.toList).length) (hs : s.size ≤ 65536) (h : Tab g B s w) : Calls Tryd.prog 12 #[.pointer (some ⟨g, 0, none⟩), .int .i64 n] w (LineP s n w) := by
  unfold LineP
  rw [if_pos ⟨h1, by omega⟩, if_pos ⟨h1, by omega⟩, if_pos ⟨h1, by omega⟩]
  obtain ⟨lv, h⟩ := h
  obtain ⟨b, c, rfl, hb, hc⟩ := tab_cell h
  obtain ⟨c0, c1, f0, f1⟩ := h.at
  have hgl := h.lt
  have HB := Aside0.mk (Below.refl w.heap.size w)
  obtain ⟨j, rfl⟩ : ∃ j : Nat, n = (j : Int) + 1 := ⟨(n - 1).toNat, by omega⟩
  have hj : j + 1 < (ssN s.data.toList).length := by omega
  have hle := ssN_len s.data.toList
  have hle2 : s.data.toList.length = s.size := Array.length_toList
  have hj9 : j < 65536 := by omega
  have hcell := hc j (by omega)
  have hcell2 := hc (j + 1) hj
  have e2 : ((j : Int) + 1 - 1).toNat = j := by omega
  rw [e2]
  have hlt := sN_lt (l := s.data.toList) (i := j) (j := j + 1) (by omega) hj
  have hF : sN s.data.toList (j + 1) ≤ s.size := by rw [← hle2]; exact sN_le _
  have e : enN s.data.toList j = if sN s.data.toList j < sN s.data.toList (j + 1) - 1 ∧ s.data.toList.getD (sN s.data.toList (j + 1) - 1 - 1) 0 = 13 then sN s.data.toList (j + 1) - 1 - 1 else sN s.data.toList (j + 1) - 1 := by rw [enN, if_pos hj]
  obtain ⟨N, hN⟩ : ∃ N, (ssN s.data.toList).length = N := ⟨_, rfl⟩
  rw [hN] at c1 hj hle
  have k1 : decide ((j : Int) + 1 < 1) = false := decide_eq_false (by omega)
  have k2 : decide ((N : Int) < (j : Int) + 1) = false := decide_eq_false (by omega)
  have k3 : decide ((j : Int) + 1 < (N : Int)) = true := decide_eq_true (by omega)
  have hN9 : N ≤ 65537 := by omega
  generalize sN s.data.toList (j + 1) = T at *
  generalize sN s.data.toList j = F at *
  obtain ⟨T, rfl⟩ : ∃ m, T = m + 1 := ⟨T - 1, by omega⟩
  rw [Nat.add_sub_cancel] at e
  have hFT : F ≤ T := by omega
  have hTs : T < s.size := by omega
  have hs9 : s.size ≤ 65536 := hs
  have hw1 : IntKind.i64.wrap (j : Int) = j := IntWalk.i64_in _ (by omega)
  have hw2 : IntKind.i64.wrap (T : Int) = T := IntWalk.i64_in _ (by omega)
  have d0 : (w.alloc (.cells #[.int .i64 0, .int .i64 0] 24)).cell? ⟨g, 0, none⟩ = some (.string s) := cell_al _ c0
  have d1 : (w.alloc (.cells #[.int .i64 0, .int .i64 0] 24)).cell? ⟨g, 1, none⟩ = some (.slice (some ⟨b, 0, none⟩) N c) := cell_al _ c1
  have d2 : (w.alloc (.cells #[.int .i64 0, .int .i64 0] 24)).cell? ⟨b, j, none⟩ = some (.int .i64 F) := cell_al _ hcell
  have hz : (w.alloc (.cells #[.int .i64 0, .int .i64 0] 24)).heap.size = w.heap.size + 1 := World.size_alloc _ _
  have hg1 : g < (w.alloc (.cells #[.int .i64 0, .int .i64 0] 24)).heap.size := by rw [hz]; exact Nat.lt_succ_of_lt hgl
  have hb1 : b < (w.alloc (.cells #[.int .i64 0, .int .i64 0] 24)).heap.size := by rw [hz]; exact Nat.lt_succ_of_lt hb
  have k5 : decide ((j : Int) < (N : Int)) = true := decide_eq_true (by omega)
  have k6 : (0 : Int) ≤ j := by omega
  have k7 : (j : Int) < N := by omega
  have k13 : (j : Int) + 1 < N := by omega
  have k14 : (0 : Int) ≤ (j : Int) + 1 := by omega
  clear h h1 h2 hle hle2 hj hc e2 hN hlt hF hs
  have HE := Lib.hid e
  clear e
  by_cases hft : F < T
  · obtain ⟨T, rfl⟩ : ∃ m, T = m + 1 := ⟨T - 1, by omega⟩
    rw [Nat.add_sub_cancel] at HE
    have k9 : T < s.size := by omega
    have hgT : (s.data.toList.getD T 0) = s[T]'k9 := by
      rw [List.getD_eq_getElem?_getD, List.getElem?_eq_getElem (by rw [Array.length_toList]; exact k9), Option.getD_some]
      rfl
    rw [hgT] at HE
    have k4 : decide ((F : Int) < (T : Int) + 1) = true := decide_eq_true (by omega)
    have k10 : (0 : Int) ≤ (T : Int) := by omega
    have k11 : (T : Int) < s.size := by omega
    have k12 : (F : Int) < (T : Int) + 1 := by omega
    clear hgT
    by_cases hcr : s[T]'k9 = 13
    · have HE' : Hid (enN s.data.toList j = T) := by rw [HE.out, if_pos ⟨hft, hcr⟩]; rfl
      have t1 : (((s[T]'k9).toNat : Int) == 13) = true := by rw [hcr]; rfl
      clear HE hcr
      go_enter Tryd.func12, Tryd.ntmps12
      go_wp2
      generalize hwq : w.alloc (.cells #[.int .i64 0, .int .i64 0] 24) = W1 at d0 d1 d2 hz hg1 hb1 ⊢
      go_region
      subst hwq
      clear d0 d1 d2 hz hg1 hb1
      go_wp2
      go_quiet (fail)
      go_wp2
      exact bodyPost_ret (v := .tuple #[.agg #[.int .i64 F, .int .i64 T], .int .i64 0]) (by simp [results, Tryd.results12, go_sem]) rfl ⟨by rw [HE'.out], by have G0 := Aside0.mk (Nat.le_refl w.heap.size); have G1 := Aside0.mk (Nat.le_succ w.heap.size); exact pxb HB⟩
    · have HE' : Hid (enN s.data.toList j = T + 1) := by rw [HE.out, if_neg (fun h => hcr h.2)]; rfl
      have t1 : (((s[T]'k9).toNat : Int) == 13) = false := (u8_eq _ 13 (by decide)).trans (beq_eq_false_iff_ne.2 hcr)
      clear HE hcr
      go_enter Tryd.func12, Tryd.ntmps12
      go_wp2
      generalize hwq : w.alloc (.cells #[.int .i64 0, .int .i64 0] 24) = W1 at d0 d1 d2 hz hg1 hb1 ⊢
      go_region
      subst hwq
      clear d0 d1 d2 hz hg1 hb1
      go_wp2
      go_quiet (fail)
      go_wp2
      exact bodyPost_ret (v := .tuple #[.agg #[.int .i64 F, .int .i64 ((T : Int) + 1)], .int .i64 0]) (by simp [results, Tryd.results12, go_sem]) rfl ⟨by rw [HE'.out]; rfl, by have G0 := Aside0.mk (Nat.le_refl w.heap.size); have G1 := Aside0.mk (Nat.le_succ w.heap.size); exact pxb HB⟩
  · have HE' : Hid (enN s.data.toList j = T) := by rw [HE.out, if_neg (fun h => hft h.1)]; rfl
    have k4 : decide ((F : Int) < (T : Int)) = false := decide_eq_false (by omega)
    have k12 : ¬ (F : Int) < (T : Int) := by omega
    clear HE
    go_enter Tryd.func12, Tryd.ntmps12
    go_wp2
    generalize hwq : w.alloc (.cells #[.int .i64 0, .int .i64 0] 24) = W1 at d0 d1 d2 hz hg1 hb1 ⊢
    go_region
    subst hwq
    clear d0 d1 d2 hz hg1 hb1
    go_wp2
    go_quiet (fail)
    go_wp2
    exact bodyPost_ret (v := .tuple #[.agg #[.int .i64 F, .int .i64 T], .int .i64 0]) (by simp [results, Tryd.results12, go_sem]) rfl ⟨by rw [HE'.out], by have G0 := Aside0.mk (Nat.le_refl w.heap.size); have G1 := Aside0.mk (Nat.le_succ w.heap.size); exact pxb HB⟩
end Go.Proofs.YtimhbepecnmjeaaDoor.LiW
