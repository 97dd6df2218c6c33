/- A text's table: what lies in memory, and that Of makes it; every text. -/
import Derived.Test.YtimhbepecnmjeaaDoorLinesTheory3
import Derived.Test.YtimhbepecnmjeaaDoorShort4
import Derived.Test.YtimhbepecnmjeaaDoorShort2
import Derived.Test.YtimhbepecnmjeaaDoorProg
import Derived.Test.YtimhbepecnmjeaaDoorShort
import Derived.Lib.Hide
import Derived.Deep.LoopGhost
import Derived.Deep.QuietTactic
import Derived.BigQuiet
namespace Go.Proofs.YtimhbepecnmjeaaDoor.LiW
open Go.RowKit Go.Proofs.YtimhbepecnmjeaaDoorW.PrintWords Go.Proofs.YtimhbepecnmjeaaDoor.Li
set_option linter.unusedVariables false
set_option linter.unusedSimpArgs false
/-- A table in its block, with the lines' beginnings. -/
structure TabAt (g B : Nat) (s : ByteArray) (lv : Value) (ss : List Int) (W : World) : Prop where
  le : B ≤ g
  bk : W.heap[g]? = some (.cells #[.string s, lv] 66 (0, 0))
  row : Kd.R (Kd.int .i64) 3 W B (fun k => k ≠ g) lv ss
theorem TabAt.below {g B : Nat} {s : ByteArray} {lv : Value} {ss : List Int} {W W' : World} (h : TabAt g B s lv ss W) (hb : Below W.heap.size W W') : TabAt g B s lv ss W' := ⟨h.le, blk_below h.bk hb, Kd.R_below h.row hb⟩
theorem TabAt.put {g B : Nat} {s : ByteArray} {lv v1 : Value} {ss ss1 : List Int} {W w1 : World} (h : TabAt g B s lv ss W) (hg : W.grownBy w1 lv.ownBlock) (ho : Kd.R (Kd.int .i64) 3 w1 B (fun k => k ≠ g) v1 ss1) : TabAt g B s v1 ss1 (w1.setCell ⟨g, 1, none⟩ v1) :=
  ⟨h.le, blk_put (cs := #[.string s, lv]) ((hg.block g (blk_lt h.bk) (fun e => h.row.1 g e.symm rfl)).trans h.bk) 1 _ rfl, Kd.R_far (p := ⟨g, 1, none⟩) ho (fun k hk => hk) _⟩
theorem TabAt.at {g B : Nat} {s : ByteArray} {lv : Value} {ss : List Int} {W : World} (h : TabAt g B s lv ss W) : W.cell? ⟨g, 0, none⟩ = some (.string s) ∧ W.cell? ⟨g, 1, none⟩ = some lv ∧ W.frozen? ⟨g, 0, none⟩ = false ∧ W.frozen? ⟨g, 1, none⟩ = false := pxf2 ⟨h.bk⟩
theorem TabAt.lt {g B : Nat} {s : ByteArray} {lv : Value} {ss : List Int} {W : World} (h : TabAt g B s lv ss W) : g < W.heap.size := blk_lt h.bk
/-- The lines' beginnings, as whole numbers. -/
def ssI (l : List UInt8) : List Int := (ssN l).map fun n : Nat => (n : Int)
def Tab (g B : Nat) (s : ByteArray) (W : World) : Prop := ∃ lv, TabAt g B s lv (ssI s.data.toList) W
theorem Tab.below {g B : Nat} {s : ByteArray} {W W' : World} (h : Tab g B s W) (hb : Below W.heap.size W W') : Tab g B s W' := h.imp fun _ h => h.below hb
set_option maxHeartbeats 8000000 in
set_option maxRecDepth 100000 in
theorem of_long (s : ByteArray) (w : World) (hs : 65536 < s.size) : Calls Tryd.prog 10 #[.string s] w fun e w' => e = .returned (.tuple #[.pointer none, .int .i64 2]) ∧ Below w.heap.size w w' := by
  have HB := Aside0.mk (Below.refl w.heap.size w)
  have k1 : decide ((65536 : Int) < (s.size : Int)) = true := decide_eq_true (by omega)
  go_enter Tryd.func10, Tryd.ntmps10
  go_wp2
  go_ret2
  exact ⟨rfl, pxb HB⟩
theorem info3 : (Tryd.prog.info? 3).map (fun i => (i.zero, i.size, i.bytes)) = some (some (.int .i64 0), 1, 8) := by kernel_rfl
/-- What Of has made before its loop. -/
def of0 (s : ByteArray) (w : World) : World := (w.alloc (.cells #[.int .i64 0] 3)).alloc (.cells #[.string s, .slice (some ⟨w.heap.size, 0, none⟩) 1 1] 66)
theorem of0_tab (s : ByteArray) (w : World) : TabAt (w.heap.size + 1) w.heap.size s (.slice (some ⟨w.heap.size, 0, none⟩) 1 1) [0] (of0 s w) := by
  have h1 : (w.alloc (.cells #[.int .i64 0] 3)).heap.size = w.heap.size + 1 := World.size_alloc _ _
  refine ⟨by omega, ?_, ?_⟩
  · have := heap_alloc_new (w.alloc (.cells #[.int .i64 0] 3)) (.cells #[.string s, .slice (some ⟨w.heap.size, 0, none⟩) 1 1] 66)
    rw [h1] at this
    exact this
  · refine Kd.R_alloc ?_ _
    refine ⟨fun k hk => ?_, ?_⟩
    · have : k = w.heap.size := by simpa [Value.ownBlock] using hk.symm
      omega
    · exact ⟨_, World.ownsRow_lit w #[.int .i64 0] 1 (Nat.le_refl _) (by decide) rfl, Reps.one rfl (Reps.none _ _)⟩
theorem of0_below (s : ByteArray) (w : World) : Below w.heap.size w (of0 s w) := below_alloc (below_alloc (Below.refl _ _) _) _
theorem take_snoc (s : ByteArray) (k : Nat) (h : k < s.size) : s.data.toList.take (k + 1) = s.data.toList.take k ++ [s[k]] := by
  rw [List.take_succ_eq_append_getElem (by simpa using h)]; rfl
/-- The beginnings of the lines that begin at a byte or ahead of it. -/
def ssK (s : ByteArray) (j : Nat) : List Int := (0 :: stN 0 (s.data.toList.take j)).map fun n : Nat => (n : Int)
theorem ssK_step (s : ByteArray) (j : Nat) (h : j < s.size) : ssK s (j + 1) = if s[j] = 10 then ssK s j ++ [((j : Int) + 1)] else ssK s j := by
  unfold ssK
  rw [take_snoc s j h, stN_snoc]
  have hl : (s.data.toList.take j).length = j := by rw [List.length_take, Array.length_toList]; exact Nat.min_eq_left (Nat.le_of_lt h)
  by_cases hc : s[j] = 10
  · rw [if_pos hc, if_pos hc, hl]
    simp
  · rw [if_neg hc, if_neg hc, List.append_nil]
theorem ssK_len (s : ByteArray) (j : Nat) : (ssK s j).length ≤ j + 1 := by
  have := ssN_len (s.data.toList.take j)
  have h2 : (s.data.toList.take j).length ≤ j := List.length_take_le _ _
  unfold ssN at this
  unfold ssK
  rw [List.length_map]
  omega
theorem ssK_end (s : ByteArray) (j : Nat) (h : s.size ≤ j) : ssK s j = ssI s.data.toList := by
  unfold ssK ssI ssN
  rw [List.take_of_length_le (by rw [Array.length_toList]; exact h)]
theorem u8_eq (c : UInt8) (n : Nat) (h : n < 256) : ((c.toNat : Int) == (n : Int)) = (c == UInt8.ofNat n) := by
  rw [Bool.eq_iff_iff, beq_iff_eq, beq_iff_eq, ← UInt8.toNat_inj, UInt8.toNat_ofNat']
  omega
/-- What is so at each round. -/
structure OfR (g : Nat) (s : ByteArray) (w : World) (j : Nat) (lv : Value) (W : World) : Prop where
  tab : TabAt g w.heap.size s lv (ssK s j) W
  below : Below w.heap.size w W
set_option maxHeartbeats 8000000 in
set_option maxRecDepth 100000 in
theorem of_any (s : ByteArray) (w : World) (hs : s.size ≤ 65536) : Calls Tryd.prog 10 #[.string s] w fun e w' => ∃ g, e = .returned (.tuple #[.pointer (some ⟨g, 0, none⟩), .int .i64 0]) ∧ Tab g w.heap.size s w' ∧ Below w.heap.size w w' := by
  have HS := Lib.hid hs
  have k1 : decide ((65536 : Int) < (s.size : Int)) = false := decide_eq_false (by omega)
  go_enter Tryd.func10, Tryd.ntmps10
  go_wp2
  clear k1 hs
  go_loopg [15] s.size (fun kq v15 w' => ∃ (j : Nat) (lv : Value), v15 = .int .i64 j ∧ Hid (j ≤ s.size ∧ kq = s.size - j) ∧ Aside0 (OfR (w.heap.size + 1) s w j lv w'))
  case atStart => exact ⟨0, _, rfl, ⟨Nat.zero_le _, rfl⟩, ⟨⟨of0_tab s w, of0_below s w⟩⟩⟩
  case round =>
    obtain ⟨j, lv, rfl, HJ, HT⟩ := hrel
    obtain ⟨A, c, rfl⟩ := Kd.R_slice HT.out.tab.row
    obtain ⟨c0, c1, f0, f1⟩ := HT.out.tab.at
    by_cases hlt : j < s.size
    · have HSTEP := Lib.hid (ssK_step s j hlt)
      have HLEN := Lib.hid (ssK_len s j)
      have hj5 : j < 65536 := by have := HS.out; omega
      by_cases hc : s[j] = 10
      · have k2 : ((s[j].toNat : Int) == 10) = true := by rw [hc]; rfl
        have HC := Lib.hid hc
        clear hc
        go_wp2_with ((with_reducible refine gate_builtin (b := .append) (xs := #[.tmp 26, .tmp 29]) rfl ?_); at_builtin; refine Kd.R_append (Kd.int .i64) (w0 := w) w.heap.size rfl (.tmp 26) (.tmp 29) 64 3 (.int .i64 0) 8 rfl Tryd.underlying64 info3 rfl (by decide) (by omega) (.slice A (ssK s j).length c) (ssK s j) ((j : Int) + 1) [.int .i64 ((j : Int) + 1)] (fun k => k ≠ w.heap.size + 1) (fun _ => False) rfl rfl ?aP (fun _ hk => hk.elim) ?aF ?aO ?aB ?aS ?aL ?_; (case aP => rfl); (case aF => exact fun k hk => by have := HT.out.tab.lt; omega); (case aO => exact HT.out.tab.row); (case aB => exact HT.out.below); (case aS => exact HT.out.below.size); (case aL => have := HLEN.out; omega); intro v1 w1 ho hb hg hat; obtain ⟨A1, cc1, rfl⟩ := Kd.R_slice ho; rw [List.length_append, List.length_singleton] at *; have hgg := blk_lt HT.out.tab.bk; have hk1 := (hg.block (w.heap.size + 1) hgg (fun e => HT.out.tab.row.1 _ e.symm rfl)).trans HT.out.tab.bk; obtain ⟨d0, d1, e0, e1⟩ := pxf2 ⟨hk1⟩; have HT1 := Aside0.mk (show OfR (w.heap.size + 1) s w (j + 1) (.slice A1 ((ssK s j).length + 1) cc1) (w1.setCell ⟨w.heap.size + 1, 1, none⟩ (.slice A1 ((ssK s j).length + 1) cc1)) from ⟨by rw [HSTEP.out, if_pos HC.out]; exact HT.out.tab.put hg ho, hb.setCell (p := ⟨w.heap.size + 1, 1, none⟩) (Nat.le_succ _) _⟩); clear ho hb hg hat hgg hk1)
        go_roundg (s.size - (j + 1))
        case measure => have := HJ.out; omega
        case rel => exact ⟨j + 1, _, by go_num, ⟨by omega, rfl⟩, HT1⟩
      · have k2 : ((s[j].toNat : Int) == 10) = false := (u8_eq s[j] 10 (by decide)).trans (beq_eq_false_iff_ne.2 hc)
        have HT1 : Aside0 (OfR (w.heap.size + 1) s w (j + 1) (.slice A (ssK s j).length c) wr) := ⟨⟨by rw [HSTEP.out, if_neg hc]; exact HT.out.tab, HT.out.below⟩⟩
        clear hc
        go_wp2
        go_roundg (s.size - (j + 1))
        case measure => have := HJ.out; omega
        case rel => exact ⟨j + 1, _, by go_num, ⟨by omega, rfl⟩, HT1⟩
    · go_wp2
      go_ret2
      exact ⟨_, rfl, ⟨_, by rw [← ssK_end s j (by omega)]; exact HT.out.tab⟩, HT.out.below⟩
end Go.Proofs.YtimhbepecnmjeaaDoor.LiW
