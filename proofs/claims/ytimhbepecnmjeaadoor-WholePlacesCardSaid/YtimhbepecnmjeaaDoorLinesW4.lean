/- How a place and a span are shown: what the methods answer; every table that Of makes, the library's table of powers as its initialiser lays it. -/
import Derived.Test.YtimhbepecnmjeaaDoorLinesW3
namespace Go.Proofs.YtimhbepecnmjeaaDoor.LiW
open Go.RowKit Go.Shelf Go.Proofs.YtimhbepecnmjeaaDoorW.PrintWords Go.Proofs.YtimhbepecnmjeaaDoorW.PrintLast Go.Proofs.YtimhbepecnmjeaaDoor.Li
set_option linter.unusedVariables false
set_option linter.unusedSimpArgs false
/-- The library's table of powers is as its initialiser lays it. -/
def TT (w : World) : Prop := Lib.TabIs Tryd.prog w "internal/strconv.uint64pow10" .u64 Lib.pow10Tab
theorem TT.below {w w' : World} (h : TT w) (hb : Below w.heap.size w w') : TT w' := by
  have hs : (Tryd.prog.globalNamed "internal/strconv.uint64pow10").isSome = true := by kernel_rfl
  obtain ⟨g, hg⟩ := Option.isSome_iff_exists.1 hs
  clear hs --(show (Tryd.prog.globalNamed "internal/strconv.uint64pow10").isSome = true from by kernel_rfl)
  unfold TT Lib.TabIs World.var? at h ⊢
  rw [hg] at h ⊢
  simp only [Option.bind_some] at h ⊢
  have hlt : g < w.heap.size := by
    rcases Nat.lt_or_ge g w.heap.size with h' | h'
    · exact h'
    · rw [Array.getElem?_eq_none h'] at h; cases h
  rw [hb.block g hlt]
  exact h
theorem itoa_any (n : Int) (h0 : -9223372036854775808 ≤ n) (h1 : n ≤ 9223372036854775807) (w : World) (ht : TT w) : Calls Tryd.prog 38 #[.int .i64 n] w fun e w' => e = .returned (.string ⟨(Lib.itoa n).toArray⟩) ∧ Below w.heap.size w w' := by
  refine (Any.strconv_Itoa Shelf.laysm171 n h0 h1 w ht).mono ?_
  rintro e w' ⟨rfl, k, os, rfl⟩
  exact ⟨rfl, below_grown_sl _ w k os (Nat.le_refl _)⟩
theorem nDigits_le : ∀ (k u : Nat), u < 10 ^ (k + 1) → Lib.nDigits u ≤ k + 1
  | 0, u, h => by rw [Lib.nDigits_small (by simpa using h)]; exact Nat.le_refl _
  | k + 1, u, h => by
    by_cases h1 : u < 10
    · rw [Lib.nDigits_small h1]; omega
    · rw [Lib.nDigits_big h1]
      have := nDigits_le k (u / 10) (by rw [Nat.pow_succ] at h; omega)
      omega
theorem itoa_short (a : Int) (ha : 0 ≤ a ∧ a ≤ 70000) : (⟨(Lib.itoa a).toArray⟩ : ByteArray).size ≤ 5 := by
  show (Lib.itoa a).toArray.size ≤ 5
  rw [List.size_toArray]
  unfold Lib.itoa
  rw [if_neg (by omega), Lib.decDigits_length]
  exact nDigits_le 4 _ (by show _ < 100000; omega)
/-- A place, as it is shown. -/
def plS (a b : Int) : ByteArray := ⟨(Lib.itoa a).toArray⟩ ++ ⟨#[58]⟩ ++ ⟨(Lib.itoa b).toArray⟩
set_option maxHeartbeats 4000000 in
set_option maxRecDepth 100000 in
theorem string_any (a b : Int) (w : World) (ha : 0 ≤ a ∧ a ≤ 70000) (hb : 0 ≤ b ∧ b ≤ 70000) (ht : TT w) : Calls Tryd.prog 24 #[.agg #[.int .i64 a, .int .i64 b]] w fun e w' => e = .returned (.string (plS a b)) ∧ Below w.heap.size w w' := by
  have hsa := itoa_short a ha
  have hsb := itoa_short b hb
  have HA := Lib.hid (fun w ht => itoa_any a (by omega) (by omega) w ht)
  have HBB := Lib.hid (fun w ht => itoa_any b (by omega) (by omega) w ht)
  unfold plS
  generalize (⟨(Lib.itoa a).toArray⟩ : ByteArray) = sa at hsa HA ⊢
  generalize (⟨(Lib.itoa b).toArray⟩ : ByteArray) = sb at hsb HBB ⊢
  have k1 : (9223372036854775807 < sa.size + 1) = False := eq_false (by omega)
  have k2 : (9223372036854775807 < sa.size + 1 + sb.size) = False := eq_false (by omega)
  have hz : (sa ++ (⟨#[58]⟩ : ByteArray)).size = sa.size + 1 := ByteArray.size_append
  have HB := Aside0.mk (Below.refl w.heap.size w)
  have HT := Aside0.mk ht
  clear ht ha hb
  go_enter Tryd.func24, Tryd.ntmps24
  go_wp2
  have n0 := below_alloc HB.out (.cells #[.int .i64 a, .int .i64 b] 35)
  have hbx := heap_alloc_new w (.cells #[.int .i64 a, .int .i64 b] 35)
  have hbx1 := blk_drew hbx
  obtain ⟨x0, x1, y0, y1⟩ := pxf2 ⟨hbx1⟩
  refine start_ (n := 9) (S := fun w' => w'.cell? ⟨w.heap.size, 0, none⟩ = some (.int .i64 a) ∧ w'.cell? ⟨w.heap.size, 1, none⟩ = some (.int .i64 b)) (ds := []) #[false, false, false, false, false, false, false, false, false] (by kernel_rfl) rfl rfl ⟨x0, x1⟩ (fun hHeld => ?_); refine with_tab rfl (fun HT_ => ?_)
  have HB := Aside0.mk (below_drew1 n0)
  have HBX := Aside0.mk hbx1
  clear n0 hbx x0 x1 y0 y1 hbx1
  generalize (w.alloc (.cells #[.int .i64 a, .int .i64 b] 35)).drew = W1 at HB HBX hHeld ⊢
  refine pS 0 3 HT_ ?_
  refine tT 1 4 HT_ hHeld ?_
  refine pS 4 7 HT_ ?_
  refine tT 5 8 HT_ hHeld ?_
  refine oS 2 HT_ (fun K hK => ?_)
  refine goes_ Tryd.func38 (by kernel_rfl) rfl #[.int .i64 a] (by rfl) rfl rfl (by (try simp only [List.map_toArray, List.map_cons, List.map_nil]); first | done | rfl) ?_
  refine (HA.out W1 (HT.out.below HB.out)).mono ?_
  rintro e w2 ⟨rfl, hb2⟩
  refine ⟨_, rfl, ?_⟩
  have HB := Aside0.mk (below_step HB.out hb2)
  have HBX := Aside0.mk (blk_below HBX.out hb2)
  obtain ⟨x0, x1, y0, y1⟩ := pxf2 HBX
  refine hK.out _ _ ⟨x0, x1⟩ (fun hHeld => ?_)
  clear hK K hb2 x0 x1 y0 y1
  refine nS 5 ?_
  refine pS 3 6 HT_ ?_
  refine oS 6 HT_ (fun K hK => ?_)
  refine goes_ Tryd.func38 (by kernel_rfl) rfl #[.int .i64 b] (by rfl) rfl rfl (by (try simp only [List.map_toArray, List.map_cons, List.map_nil]); first | done | rfl) ?_
  refine (HBB.out w2 (HT.out.below HB.out)).mono ?_
  rintro e w3 ⟨rfl, hb3⟩
  refine ⟨_, rfl, ?_⟩
  have HB := Aside0.mk (below_step HB.out hb3)
  have HBX := Aside0.mk (blk_below HBX.out hb3)
  obtain ⟨x0, x1, y0, y1⟩ := pxf2 HBX
  refine hK.out _ _ ⟨x0, x1⟩ (fun hHeld => ?_)
  clear hK K hb3 x0 x1 y0 y1
  refine nS 9 ?_
  refine pS 7 10 HT_ ?_
  refine pS 8 2 HT_ ?_
  refine done_ (done_of HT_.out (by kernel_rfl)) ?_
  go_wp2
  go_ret
  exact ⟨rfl, HB.out⟩
end Go.Proofs.YtimhbepecnmjeaaDoor.LiW
