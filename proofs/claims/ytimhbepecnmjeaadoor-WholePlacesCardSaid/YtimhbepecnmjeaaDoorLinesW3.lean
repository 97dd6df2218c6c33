/- The byte at a place: what the table's method answers; every table that Of makes. -/
import Derived.Test.YtimhbepecnmjeaaDoorLinesW2
namespace Go.Proofs.YtimhbepecnmjeaaDoor.LiW
open Go.RowKit Go.Shelf Go.Proofs.YtimhbepecnmjeaaDoorW.PrintWords Go.Proofs.YtimhbepecnmjeaaDoor.Li
set_option linter.unusedVariables false
set_option linter.unusedSimpArgs false
/-- The byte at a place. -/
def byteV (s : ByteArray) (a b : Int) : Int × Int :=
  if 1 ≤ a ∧ a ≤ (ssN s.data.toList).length ∧ 1 ≤ b ∧ b ≤ 65537 ∧ (sN s.data.toList (a - 1).toNat : Int) + b - 1 ≤ toN s.data.toList (a - 1).toNat then ((sN s.data.toList (a - 1).toNat : Int) + b - 1, 0) else (0, 1)
set_option maxHeartbeats 4000000 in
set_option maxRecDepth 100000 in
theorem byte_bad (g B : Nat) (s : ByteArray) (a b : Int) (w : World) (hn : ¬ (1 ≤ a ∧ a ≤ (ssN s.data.toList).length ∧ 1 ≤ b ∧ b ≤ 65537)) (hs : s.size ≤ 65536) (h : Tab g B s w) : Calls Tryd.prog 23 #[.pointer (some ⟨g, 0, none⟩), .agg #[.int .i64 a, .int .i64 b]] w fun e w' => e = .returned (.tuple #[.int .i64 0, .int .i64 1]) ∧ Below w.heap.size w w' := by
  obtain ⟨lv, h⟩ := h
  obtain ⟨q, c, rfl, hb, hc⟩ := tab_cell h
  obtain ⟨c0, c1, f0, f1⟩ := h.at
  have hgl := h.lt
  have HB := Aside0.mk (Below.refl w.heap.size w)
  have G0 := Aside0.mk (Nat.le_refl w.heap.size)
  clear hc h hs
  by_cases t0 : a < 1
  · have k1 : decide (a < 1) = true := decide_eq_true t0
    clear hn
    go_enter Tryd.func23, Tryd.ntmps23
    go_wp2
    go_quiet (fail)
    go_wp2
    go_ret2
    exact ⟨rfl, pxb HB⟩
  · have k1 : decide (a < 1) = false := decide_eq_false t0
    by_cases t1 : ((ssN s.data.toList).length : Int) < a
    · have k2 : decide (((ssN s.data.toList).length : Int) < a) = true := decide_eq_true t1
      clear hn
      go_enter Tryd.func23, Tryd.ntmps23
      go_wp2
      go_quiet (fail)
      go_wp2
      go_ret2
      exact ⟨rfl, pxb HB⟩
    · have k2 : decide (((ssN s.data.toList).length : Int) < a) = false := decide_eq_false t1
      by_cases t2 : b < 1
      · have k3 : decide (b < 1) = true := decide_eq_true t2
        clear hn
        go_enter Tryd.func23, Tryd.ntmps23
        go_wp2
        go_quiet (fail)
        go_wp2
        go_ret2
        exact ⟨rfl, pxb HB⟩
      · have k3 : decide (b < 1) = false := decide_eq_false t2
        have k4 : decide ((65537 : Int) < b) = true := decide_eq_true (by omega)
        clear hn
        go_enter Tryd.func23, Tryd.ntmps23
        go_wp2
        go_quiet (fail)
        go_wp2
        go_ret2
        exact ⟨rfl, pxb HB⟩
set_option maxHeartbeats 8000000 in
set_option maxRecDepth 100000 in
theorem byte_good (g B : Nat) (s : ByteArray) (j c : Nat) (w : World) (hj : j < (ssN s.data.toList).length) (hc9 : c ≤ 65536) (hs : s.size ≤ 65536) (h : Tab g B s w) : Calls Tryd.prog 23 #[.pointer (some ⟨g, 0, none⟩), .agg #[.int .i64 ((j : Int) + 1), .int .i64 ((c : Int) + 1)]] w fun e w' => e = .returned (.tuple #[.int .i64 (if sN s.data.toList j + c ≤ toN s.data.toList j then ((sN s.data.toList j + c : Nat) : Int) else 0), .int .i64 (if sN s.data.toList j + c ≤ toN s.data.toList j then 0 else 1)]) ∧ Below w.heap.size w w' := by
  obtain ⟨lv, h⟩ := h
  obtain ⟨q, cc, rfl, hb, hc⟩ := tab_cell h
  obtain ⟨c0, c1, f0, f1⟩ := h.at
  have hgl := h.lt
  have HB := Aside0.mk (Below.refl w.heap.size w)
  have G0 := Aside0.mk (Nat.le_refl w.heap.size)
  have hle := ssN_len s.data.toList
  have hle2 : s.data.toList.length = s.size := Array.length_toList
  have hcell := hc j hj
  have hF := sN_le (l := s.data.toList) j
  rw [hle2] at hF
  have hto : toN s.data.toList j = if j + 1 < (ssN s.data.toList).length then sN s.data.toList (j + 1) - 1 else s.size := by rw [toN, hle2]
  have hcell2 : j + 1 < (ssN s.data.toList).length → w.cell? ⟨q, j + 1, none⟩ = some (.int .i64 (sN s.data.toList (j + 1))) := fun h1 => hc (j + 1) h1
  have hlt : j + 1 < (ssN s.data.toList).length → sN s.data.toList j < sN s.data.toList (j + 1) := fun h1 => sN_lt (by omega) h1
  have hT : sN s.data.toList (j + 1) ≤ s.size := by rw [← hle2]; exact sN_le _
  obtain ⟨N, hN⟩ : ∃ N, (ssN s.data.toList).length = N := ⟨_, rfl⟩
  rw [hN] at c1 hj hle hto hcell2 hlt
  have hj9 : j < 65537 := by omega
  have hN9 : N ≤ 65537 := by omega
  generalize sN s.data.toList (j + 1) = T at *
  generalize sN s.data.toList j = F at *
  generalize toN s.data.toList j = E at *
  have k1 : decide ((j : Int) + 1 < 1) = false := decide_eq_false (by omega)
  have k2 : decide ((N : Int) < (j : Int) + 1) = false := decide_eq_false (by omega)
  have k3 : decide ((c : Int) + 1 < 1) = false := decide_eq_false (by omega)
  have k4 : decide ((65537 : Int) < (c : Int) + 1) = false := decide_eq_false (by omega)
  have k6 : (0 : Int) ≤ j := by omega
  have k7 : (j : Int) < N := by omega
  have k8 : (0 : Int) ≤ (j : Int) + 1 := by omega
  have p1 : ((j : Int) + 1).toNat = j + 1 := by omega
  have w1 : IntKind.i64.wrap (j : Int) = j := IntWalk.i64_in _ (by omega)
  have w2 : IntKind.i64.wrap ((F : Int) + ((c : Int) + 1)) = (F : Int) + ((c : Int) + 1) := IntWalk.i64_in _ (by omega)
  have w3 : IntKind.i64.wrap ((F : Int) + ((c : Int) + 1) - 1) = (F : Int) + (c : Int) := (IntWalk.i64_in _ (by omega)).trans (by omega)
  have HTO := Lib.hid hto
  have HF9 := Lib.hid hs
  clear h hc hle hle2 hN hto hs
  by_cases hlast : j + 1 < N
  · have hT0 := hlt hlast
    have hcell2 := hcell2 hlast
    obtain ⟨T, rfl⟩ : ∃ m, T = m + 1 := ⟨T - 1, by omega⟩
    have hE : E = T := by rw [HTO.out, if_pos hlast]; rfl
    subst hE
    have k5 : decide ((j : Int) + 1 < (N : Int)) = true := decide_eq_true (by omega)
    have k9 : (j : Int) + 1 < N := by omega
    have w4 : IntKind.i64.wrap (E : Int) = E := IntWalk.i64_in _ (by have := HF9.out; omega)
    clear hlt HTO hlast
    by_cases hin : F + c ≤ E
    · rw [if_pos hin, if_pos hin]
      have k10 : decide ((E : Int) < (F : Int) + (c : Int)) = false := decide_eq_false (by omega)
      clear hin
      go_enter Tryd.func23, Tryd.ntmps23
      go_wp2
      go_quiet (fail)
      go_wp2
      go_quiet (fail)
      go_wp2
      go_quiet (fail)
      go_wp2
      go_quiet (fail)
      go_wp2
      go_ret2
      exact ⟨by rw [Int.natCast_add]; rfl, pxb HB⟩
    · rw [if_neg hin, if_neg hin]
      have k10 : decide ((E : Int) < (F : Int) + (c : Int)) = true := decide_eq_true (by omega)
      clear hin
      go_enter Tryd.func23, Tryd.ntmps23
      go_wp2
      go_quiet (fail)
      go_wp2
      go_quiet (fail)
      go_wp2
      go_quiet (fail)
      go_wp2
      go_quiet (fail)
      go_wp2
      go_ret2
      exact ⟨rfl, pxb HB⟩
  · have hE : E = s.size := by rw [HTO.out, if_neg hlast]
    subst hE
    have k5 : decide ((j : Int) + 1 < (N : Int)) = false := decide_eq_false (by omega)
    clear hlt HTO hcell2 hlast
    by_cases hin : F + c ≤ s.size
    · rw [if_pos hin, if_pos hin]
      have k10 : decide ((s.size : Int) < (F : Int) + (c : Int)) = false := decide_eq_false (by omega)
      clear hin
      go_enter Tryd.func23, Tryd.ntmps23
      go_wp2
      go_quiet (fail)
      go_wp2
      go_quiet (fail)
      go_wp2
      go_quiet (fail)
      go_wp2
      go_ret2
      exact ⟨by rw [Int.natCast_add]; rfl, pxb HB⟩
    · rw [if_neg hin, if_neg hin]
      have k10 : decide ((s.size : Int) < (F : Int) + (c : Int)) = true := decide_eq_true (by omega)
      clear hin
      go_enter Tryd.func23, Tryd.ntmps23
      go_wp2
      go_quiet (fail)
      go_wp2
      go_quiet (fail)
      go_wp2
      go_quiet (fail)
      go_wp2
      go_ret2
      exact ⟨rfl, pxb HB⟩
end Go.Proofs.YtimhbepecnmjeaaDoor.LiW
