/- How a span is shown: what the method answers; every table that Of makes, the library's table of powers as its initialiser lays it. -/
import Derived.Test.YtimhbepecnmjeaaDoorLinesW4
namespace Go.Proofs.YtimhbepecnmjeaaDoor.LiW
open Go.RowKit Go.Shelf Go.Proofs.YtimhbepecnmjeaaDoorW.PrintWords Go.Proofs.YtimhbepecnmjeaaDoorW.PrintLast Go.Proofs.YtimhbepecnmjeaaDoor.Li
set_option linter.unusedVariables false
set_option linter.unusedSimpArgs false
theorem atV_ok {s : ByteArray} {k : Int} (h : 0 ≤ k ∧ k ≤ s.size) : atV s k = (((plN s.data.toList k.toNat).1 : Int), ((plN s.data.toList k.toNat).2 : Int), (0 : Int)) := by rw [atV, if_pos h]
theorem atV_bad {s : ByteArray} {k : Int} (h : ¬ (0 ≤ k ∧ k ≤ s.size)) : atV s k = (0, 0, 1) := by rw [atV, if_neg h]
theorem plN_small {s : ByteArray} {k : Nat} (hk : k ≤ s.size) (hs : s.size ≤ 65536) : (0 ≤ ((plN s.data.toList k).1 : Int) ∧ ((plN s.data.toList k).1 : Int) ≤ 70000) ∧ (0 ≤ ((plN s.data.toList k).2 : Int) ∧ ((plN s.data.toList k).2 : Int) ≤ 70000) := by
  have hle := ssN_len s.data.toList
  have hle2 : s.data.toList.length = s.size := Array.length_toList
  have hc := @cnN_le s.data.toList k
  rw [plN_eq (by omega)]
  dsimp only
  omega
theorem at_from {g B : Nat} {s : ByteArray} {w : World} (hs : s.size ≤ 65536) (h : Tab g B s w) (k : Int) {a b c : Int} (he : atV s k = (a, b, c)) (W : World) (hb : Below w.heap.size w W) : Calls Tryd.prog 13 #[.pointer (some ⟨g, 0, none⟩), .int .i64 k] W fun e w' => e = .returned (.tuple #[.agg #[.int .i64 a, .int .i64 b], .int .i64 c]) ∧ Below W.heap.size W w' := by
  have h1 := at_all g B s k W hs (h.below hb)
  rw [he] at h1
  exact h1
/-- What Show answers. -/
def showV (s : ByteArray) (f t : Int) : ByteArray × Int :=
  if 0 ≤ f ∧ f ≤ t ∧ t ≤ s.size then (if f = t then plS (plN s.data.toList f.toNat).1 (plN s.data.toList f.toNat).2 else plS (plN s.data.toList f.toNat).1 (plN s.data.toList f.toNat).2 ++ ⟨#[45]⟩ ++ plS (plN s.data.toList t.toNat).1 (plN s.data.toList t.toNat).2, 0) else (⟨#[]⟩, 1)
theorem plS_size {a b : Int} (ha : 0 ≤ a ∧ a ≤ 70000) (hb : 0 ≤ b ∧ b ≤ 70000) : (plS a b).size ≤ 11 := by
  have h1 := itoa_short a ha
  have h2 := itoa_short b hb
  unfold plS
  rw [ByteArray.size_append, ByteArray.size_append]
  have : (⟨#[58]⟩ : ByteArray).size = 1 := rfl
  omega
set_option maxHeartbeats 8000000 in
set_option maxRecDepth 100000 in
theorem show_bad1 (g B : Nat) (s : ByteArray) (f t : Int) (w : World) (hf : ¬ (0 ≤ f ∧ f ≤ s.size)) (hs : s.size ≤ 65536) (h : Tab g B s w) (ht : TT w) : Calls Tryd.prog 17 #[.pointer (some ⟨g, 0, none⟩), .agg #[.int .i64 f, .int .i64 t]] w fun e w' => e = .returned (.tuple #[.string ⟨#[]⟩, .int .i64 1]) ∧ Below w.heap.size w w' := by
  have HB := Aside0.mk (Below.refl w.heap.size w)
  have HAF := Lib.hid (at_from hs h f (atV_bad hf))
  obtain ⟨a, b, c, hc⟩ : ∃ a b c, atV s t = (a, b, c) := ⟨_, _, _, rfl⟩
  have HAT := Lib.hid (at_from hs h t hc)
  clear hf hs h ht hc
  have tok_w2 : True := trivial
  have tok_w4 : True := trivial
  go_enter Tryd.func17, Tryd.ntmps17
  go_wp2_with (first | ((with_reducible refine gate_dst (N := 3) rfl ?_); refine box_event ?hg (N := 3) ?hd (cs := #[.int .i64 f, .int .i64 t]) (t := 24) ?hr ?_; (case hd => rfl); (case hg => rfl); (case hr => first | (go_simp; done) | (go_simp; rfl)); intro gs hg w1 hbox hb; have NWBS := Aside0.mk hbox; have GWBS := Aside0.mk ((by rw [hg]; exact (below_size (pxb HB)) : w.heap.size ≤ gs)); clear hg hbox; have n0_ := pxs HB hb; clear HB ; have HB := n0_; clear n0_; have BS := NWBS; clear NWBS hb; obtain ⟨xBS0, xBS1, yBS0, yBS1⟩ := pxf2 BS) | (clear tok_w2; go_at_call 13; (with_reducible refine (HAF.out _ (pxb HB)).mono ?_); rintro e w2 ⟨rfl, hb⟩; have n0_ := pxs HB hb; have nBS_ : Aside0 (w2.heap[gs]? = some (.cells #[.int .i64 f, .int .i64 t] 24 (0, 0))) := ⟨blk_below (pxp BS) hb⟩; clear HB BS; have HB := n0_; clear n0_; have BS := nBS_; clear nBS_; clear hb; obtain ⟨xBS0, xBS1, yBS0, yBS1⟩ := pxf2 BS) | ((with_reducible refine gate_dst (N := 6) rfl ?_); refine box_event ?hg (N := 6) ?hd (cs := #[.int .i64 0, .int .i64 0]) (t := 35) ?hr ?_; (case hd => rfl); (case hg => rfl); (case hr => first | (go_simp; done) | (go_simp; rfl)); intro ga hg w3 hbox hb; have NWBA := Aside0.mk hbox; have GWBA := Aside0.mk ((by rw [hg]; exact (below_size (pxb HB)) : w.heap.size ≤ ga)); have NEBSBA := Aside0.mk (show gs ≠ ga by rw [hg]; exact Nat.ne_of_lt (blk_lt (pxp (o := .cells #[.int .i64 f, .int .i64 t] 24 (0, 0)) BS))); have NEBABS := Aside0.mk (Ne.symm NEBSBA.out); have eBSBA := NEBSBA.out; have eBABS := NEBABS.out; clear hg hbox; have n0_ := pxs HB hb; have nBS_ : Aside0 (w3.heap[gs]? = some (.cells #[.int .i64 f, .int .i64 t] 24 (0, 0))) := ⟨blk_below (pxp BS) hb⟩; clear HB BS; have HB := n0_; clear n0_; have BS := nBS_; clear nBS_; have BA := NWBA; clear NWBA hb; obtain ⟨xBS0, xBS1, yBS0, yBS1⟩ := pxf2 BS; obtain ⟨xBA0, xBA1, yBA0, yBA1⟩ := pxf2 BA) | (clear tok_w4; go_at_call 13; (with_reducible refine (HAT.out _ (pxb HB)).mono ?_); rintro e w4 ⟨rfl, hb⟩; have n0_ := pxs HB hb; have nBS_ : Aside0 (w4.heap[gs]? = some (.cells #[.int .i64 f, .int .i64 t] 24 (0, 0))) := ⟨blk_below (pxp BS) hb⟩; have nBA_ : Aside0 (w4.heap[ga]? = some (.cells #[.int .i64 0, .int .i64 0] 35 (0, 0))) := ⟨blk_below (pxp BA) hb⟩; clear HB BS BA; have HB := n0_; clear n0_; have BS := nBS_; clear nBS_; have BA := nBA_; clear nBA_; clear hb; obtain ⟨xBS0, xBS1, yBS0, yBS1⟩ := pxf2 BS; obtain ⟨xBA0, xBA1, yBA0, yBA1⟩ := pxf2 BA) | ((with_reducible refine gate_dst (N := 8) rfl ?_); refine box_event ?hg (N := 8) ?hd (cs := #[.int .i64 0, .int .i64 0]) (t := 35) ?hr ?_; (case hd => rfl); (case hg => rfl); (case hr => first | (go_simp; done) | (go_simp; rfl)); intro gb hg w5 hbox hb; have NWBB := Aside0.mk hbox; have GWBB := Aside0.mk ((by rw [hg]; exact (below_size (pxb HB)) : w.heap.size ≤ gb)); have NEBSBB := Aside0.mk (show gs ≠ gb by rw [hg]; exact Nat.ne_of_lt (blk_lt (pxp (o := .cells #[.int .i64 f, .int .i64 t] 24 (0, 0)) BS))); have NEBBBS := Aside0.mk (Ne.symm NEBSBB.out); have eBSBB := NEBSBB.out; have eBBBS := NEBBBS.out; have NEBABB := Aside0.mk (show ga ≠ gb by rw [hg]; exact Nat.ne_of_lt (blk_lt (pxp (o := .cells #[.int .i64 0, .int .i64 0] 35 (0, 0)) BA))); have NEBBBA := Aside0.mk (Ne.symm NEBABB.out); have eBABB := NEBABB.out; have eBBBA := NEBBBA.out; clear hg hbox; have n0_ := pxs HB hb; have nBS_ : Aside0 (w5.heap[gs]? = some (.cells #[.int .i64 f, .int .i64 t] 24 (0, 0))) := ⟨blk_below (pxp BS) hb⟩; have nBA_ : Aside0 (w5.heap[ga]? = some (.cells #[.int .i64 0, .int .i64 0] 35 (0, 0))) := ⟨blk_below (pxp BA) hb⟩; clear HB BS BA; have HB := n0_; clear n0_; have BS := nBS_; clear nBS_; have BA := nBA_; clear nBA_; have BB := NWBB; clear NWBB hb; obtain ⟨xBS0, xBS1, yBS0, yBS1⟩ := pxf2 BS; obtain ⟨xBA0, xBA1, yBA0, yBA1⟩ := pxf2 BA; obtain ⟨xBB0, xBB1, yBB0, yBB1⟩ := pxf2 BB))
  go_ret2
  exact ⟨rfl, pxb HB⟩
set_option maxHeartbeats 8000000 in
set_option maxRecDepth 100000 in
theorem show_bad2 (g B : Nat) (s : ByteArray) (f t : Int) (w : World) (hf : 0 ≤ f ∧ f ≤ s.size) (hn : ¬ (0 ≤ t ∧ t ≤ s.size)) (hs : s.size ≤ 65536) (h : Tab g B s w) (ht : TT w) : Calls Tryd.prog 17 #[.pointer (some ⟨g, 0, none⟩), .agg #[.int .i64 f, .int .i64 t]] w fun e w' => e = .returned (.tuple #[.string ⟨#[]⟩, .int .i64 1]) ∧ Below w.heap.size w w' := by
  have HB := Aside0.mk (Below.refl w.heap.size w)
  have HAF := Lib.hid (at_from hs h f (atV_ok hf))
  have HAT := Lib.hid (at_from hs h t (atV_bad hn))
  generalize (plN s.data.toList f.toNat).1 = a at HAF
  generalize (plN s.data.toList f.toNat).2 = b at HAF
  clear hf hs h ht hn
  have tok_w2 : True := trivial
  have tok_w4 : True := trivial
  go_enter Tryd.func17, Tryd.ntmps17
  go_wp2_with (first | ((with_reducible refine gate_dst (N := 3) rfl ?_); refine box_event ?hg (N := 3) ?hd (cs := #[.int .i64 f, .int .i64 t]) (t := 24) ?hr ?_; (case hd => rfl); (case hg => rfl); (case hr => first | (go_simp; done) | (go_simp; rfl)); intro gs hg w1 hbox hb; have NWBS := Aside0.mk hbox; have GWBS := Aside0.mk ((by rw [hg]; exact (below_size (pxb HB)) : w.heap.size ≤ gs)); clear hg hbox; have n0_ := pxs HB hb; clear HB ; have HB := n0_; clear n0_; have BS := NWBS; clear NWBS hb; obtain ⟨xBS0, xBS1, yBS0, yBS1⟩ := pxf2 BS) | (clear tok_w2; go_at_call 13; (with_reducible refine (HAF.out _ (pxb HB)).mono ?_); rintro e w2 ⟨rfl, hb⟩; have n0_ := pxs HB hb; have nBS_ : Aside0 (w2.heap[gs]? = some (.cells #[.int .i64 f, .int .i64 t] 24 (0, 0))) := ⟨blk_below (pxp BS) hb⟩; clear HB BS; have HB := n0_; clear n0_; have BS := nBS_; clear nBS_; clear hb; obtain ⟨xBS0, xBS1, yBS0, yBS1⟩ := pxf2 BS) | ((with_reducible refine gate_dst (N := 6) rfl ?_); refine box_event ?hg (N := 6) ?hd (cs := #[.int .i64 0, .int .i64 0]) (t := 35) ?hr ?_; (case hd => rfl); (case hg => rfl); (case hr => first | (go_simp; done) | (go_simp; rfl)); intro ga hg w3 hbox hb; have NWBA := Aside0.mk hbox; have GWBA := Aside0.mk ((by rw [hg]; exact (below_size (pxb HB)) : w.heap.size ≤ ga)); have NEBSBA := Aside0.mk (show gs ≠ ga by rw [hg]; exact Nat.ne_of_lt (blk_lt (pxp (o := .cells #[.int .i64 f, .int .i64 t] 24 (0, 0)) BS))); have NEBABS := Aside0.mk (Ne.symm NEBSBA.out); have eBSBA := NEBSBA.out; have eBABS := NEBABS.out; clear hg hbox; have n0_ := pxs HB hb; have nBS_ : Aside0 (w3.heap[gs]? = some (.cells #[.int .i64 f, .int .i64 t] 24 (0, 0))) := ⟨blk_below (pxp BS) hb⟩; clear HB BS; have HB := n0_; clear n0_; have BS := nBS_; clear nBS_; have BA := NWBA; clear NWBA hb; obtain ⟨xBS0, xBS1, yBS0, yBS1⟩ := pxf2 BS; obtain ⟨xBA0, xBA1, yBA0, yBA1⟩ := pxf2 BA) | (clear tok_w4; go_at_call 13; (with_reducible refine (HAT.out _ (pxb HB)).mono ?_); rintro e w4 ⟨rfl, hb⟩; have n0_ := pxs HB hb; have nBS_ : Aside0 (w4.heap[gs]? = some (.cells #[.int .i64 f, .int .i64 t] 24 (0, 0))) := ⟨blk_below (pxp BS) hb⟩; have nBA_ : Aside0 (w4.heap[ga]? = some (.cells #[.int .i64 a, .int .i64 b] 35 (0, 0))) := ⟨blk_below (pxp BA) hb⟩; clear HB BS BA; have HB := n0_; clear n0_; have BS := nBS_; clear nBS_; have BA := nBA_; clear nBA_; clear hb; obtain ⟨xBS0, xBS1, yBS0, yBS1⟩ := pxf2 BS; obtain ⟨xBA0, xBA1, yBA0, yBA1⟩ := pxf2 BA) | ((with_reducible refine gate_dst (N := 8) rfl ?_); refine box_event ?hg (N := 8) ?hd (cs := #[.int .i64 0, .int .i64 0]) (t := 35) ?hr ?_; (case hd => rfl); (case hg => rfl); (case hr => first | (go_simp; done) | (go_simp; rfl)); intro gb hg w5 hbox hb; have NWBB := Aside0.mk hbox; have GWBB := Aside0.mk ((by rw [hg]; exact (below_size (pxb HB)) : w.heap.size ≤ gb)); have NEBSBB := Aside0.mk (show gs ≠ gb by rw [hg]; exact Nat.ne_of_lt (blk_lt (pxp (o := .cells #[.int .i64 f, .int .i64 t] 24 (0, 0)) BS))); have NEBBBS := Aside0.mk (Ne.symm NEBSBB.out); have eBSBB := NEBSBB.out; have eBBBS := NEBBBS.out; have NEBABB := Aside0.mk (show ga ≠ gb by rw [hg]; exact Nat.ne_of_lt (blk_lt (pxp (o := .cells #[.int .i64 a, .int .i64 b] 35 (0, 0)) BA))); have NEBBBA := Aside0.mk (Ne.symm NEBABB.out); have eBABB := NEBABB.out; have eBBBA := NEBBBA.out; clear hg hbox; have n0_ := pxs HB hb; have nBS_ : Aside0 (w5.heap[gs]? = some (.cells #[.int .i64 f, .int .i64 t] 24 (0, 0))) := ⟨blk_below (pxp BS) hb⟩; have nBA_ : Aside0 (w5.heap[ga]? = some (.cells #[.int .i64 a, .int .i64 b] 35 (0, 0))) := ⟨blk_below (pxp BA) hb⟩; clear HB BS BA; have HB := n0_; clear n0_; have BS := nBS_; clear nBS_; have BA := nBA_; clear nBA_; have BB := NWBB; clear NWBB hb; obtain ⟨xBS0, xBS1, yBS0, yBS1⟩ := pxf2 BS; obtain ⟨xBA0, xBA1, yBA0, yBA1⟩ := pxf2 BA; obtain ⟨xBB0, xBB1, yBB0, yBB1⟩ := pxf2 BB))
  go_ret2
  exact ⟨rfl, pxb HB⟩
set_option maxHeartbeats 8000000 in
set_option maxRecDepth 100000 in
theorem show_bad3 (g B : Nat) (s : ByteArray) (f t : Int) (w : World) (hf : 0 ≤ f ∧ f ≤ s.size) (hn : 0 ≤ t ∧ t ≤ s.size) (hlt : t < f) (hs : s.size ≤ 65536) (h : Tab g B s w) (ht : TT w) : Calls Tryd.prog 17 #[.pointer (some ⟨g, 0, none⟩), .agg #[.int .i64 f, .int .i64 t]] w fun e w' => e = .returned (.tuple #[.string ⟨#[]⟩, .int .i64 1]) ∧ Below w.heap.size w w' := by
  have HB := Aside0.mk (Below.refl w.heap.size w)
  have HAF := Lib.hid (at_from hs h f (atV_ok hf))
  have HAT := Lib.hid (at_from hs h t (atV_ok hn))
  generalize (plN s.data.toList f.toNat).1 = a at HAF
  generalize (plN s.data.toList f.toNat).2 = b at HAF
  generalize (plN s.data.toList t.toNat).1 = c at HAT
  generalize (plN s.data.toList t.toNat).2 = d at HAT
  have k1 : decide (t < f) = true := decide_eq_true hlt
  clear hf hs h ht hn
  have tok_w2 : True := trivial
  have tok_w4 : True := trivial
  go_enter Tryd.func17, Tryd.ntmps17
  go_wp2_with (first | ((with_reducible refine gate_dst (N := 3) rfl ?_); refine box_event ?hg (N := 3) ?hd (cs := #[.int .i64 f, .int .i64 t]) (t := 24) ?hr ?_; (case hd => rfl); (case hg => rfl); (case hr => first | (go_simp; done) | (go_simp; rfl)); intro gs hg w1 hbox hb; have NWBS := Aside0.mk hbox; have GWBS := Aside0.mk ((by rw [hg]; exact (below_size (pxb HB)) : w.heap.size ≤ gs)); clear hg hbox; have n0_ := pxs HB hb; clear HB ; have HB := n0_; clear n0_; have BS := NWBS; clear NWBS hb; obtain ⟨xBS0, xBS1, yBS0, yBS1⟩ := pxf2 BS) | (clear tok_w2; go_at_call 13; (with_reducible refine (HAF.out _ (pxb HB)).mono ?_); rintro e w2 ⟨rfl, hb⟩; have n0_ := pxs HB hb; have nBS_ : Aside0 (w2.heap[gs]? = some (.cells #[.int .i64 f, .int .i64 t] 24 (0, 0))) := ⟨blk_below (pxp BS) hb⟩; clear HB BS; have HB := n0_; clear n0_; have BS := nBS_; clear nBS_; clear hb; obtain ⟨xBS0, xBS1, yBS0, yBS1⟩ := pxf2 BS) | ((with_reducible refine gate_dst (N := 6) rfl ?_); refine box_event ?hg (N := 6) ?hd (cs := #[.int .i64 0, .int .i64 0]) (t := 35) ?hr ?_; (case hd => rfl); (case hg => rfl); (case hr => first | (go_simp; done) | (go_simp; rfl)); intro ga hg w3 hbox hb; have NWBA := Aside0.mk hbox; have GWBA := Aside0.mk ((by rw [hg]; exact (below_size (pxb HB)) : w.heap.size ≤ ga)); have NEBSBA := Aside0.mk (show gs ≠ ga by rw [hg]; exact Nat.ne_of_lt (blk_lt (pxp (o := .cells #[.int .i64 f, .int .i64 t] 24 (0, 0)) BS))); have NEBABS := Aside0.mk (Ne.symm NEBSBA.out); have eBSBA := NEBSBA.out; have eBABS := NEBABS.out; clear hg hbox; have n0_ := pxs HB hb; have nBS_ : Aside0 (w3.heap[gs]? = some (.cells #[.int .i64 f, .int .i64 t] 24 (0, 0))) := ⟨blk_below (pxp BS) hb⟩; clear HB BS; have HB := n0_; clear n0_; have BS := nBS_; clear nBS_; have BA := NWBA; clear NWBA hb; obtain ⟨xBS0, xBS1, yBS0, yBS1⟩ := pxf2 BS; obtain ⟨xBA0, xBA1, yBA0, yBA1⟩ := pxf2 BA) | (clear tok_w4; go_at_call 13; (with_reducible refine (HAT.out _ (pxb HB)).mono ?_); rintro e w4 ⟨rfl, hb⟩; have n0_ := pxs HB hb; have nBS_ : Aside0 (w4.heap[gs]? = some (.cells #[.int .i64 f, .int .i64 t] 24 (0, 0))) := ⟨blk_below (pxp BS) hb⟩; have nBA_ : Aside0 (w4.heap[ga]? = some (.cells #[.int .i64 a, .int .i64 b] 35 (0, 0))) := ⟨blk_below (pxp BA) hb⟩; clear HB BS BA; have HB := n0_; clear n0_; have BS := nBS_; clear nBS_; have BA := nBA_; clear nBA_; clear hb; obtain ⟨xBS0, xBS1, yBS0, yBS1⟩ := pxf2 BS; obtain ⟨xBA0, xBA1, yBA0, yBA1⟩ := pxf2 BA) | ((with_reducible refine gate_dst (N := 8) rfl ?_); refine box_event ?hg (N := 8) ?hd (cs := #[.int .i64 0, .int .i64 0]) (t := 35) ?hr ?_; (case hd => rfl); (case hg => rfl); (case hr => first | (go_simp; done) | (go_simp; rfl)); intro gb hg w5 hbox hb; have NWBB := Aside0.mk hbox; have GWBB := Aside0.mk ((by rw [hg]; exact (below_size (pxb HB)) : w.heap.size ≤ gb)); have NEBSBB := Aside0.mk (show gs ≠ gb by rw [hg]; exact Nat.ne_of_lt (blk_lt (pxp (o := .cells #[.int .i64 f, .int .i64 t] 24 (0, 0)) BS))); have NEBBBS := Aside0.mk (Ne.symm NEBSBB.out); have eBSBB := NEBSBB.out; have eBBBS := NEBBBS.out; have NEBABB := Aside0.mk (show ga ≠ gb by rw [hg]; exact Nat.ne_of_lt (blk_lt (pxp (o := .cells #[.int .i64 a, .int .i64 b] 35 (0, 0)) BA))); have NEBBBA := Aside0.mk (Ne.symm NEBABB.out); have eBABB := NEBABB.out; have eBBBA := NEBBBA.out; clear hg hbox; have n0_ := pxs HB hb; have nBS_ : Aside0 (w5.heap[gs]? = some (.cells #[.int .i64 f, .int .i64 t] 24 (0, 0))) := ⟨blk_below (pxp BS) hb⟩; have nBA_ : Aside0 (w5.heap[ga]? = some (.cells #[.int .i64 a, .int .i64 b] 35 (0, 0))) := ⟨blk_below (pxp BA) hb⟩; clear HB BS BA; have HB := n0_; clear n0_; have BS := nBS_; clear nBS_; have BA := nBA_; clear nBA_; have BB := NWBB; clear NWBB hb; obtain ⟨xBS0, xBS1, yBS0, yBS1⟩ := pxf2 BS; obtain ⟨xBA0, xBA1, yBA0, yBA1⟩ := pxf2 BA; obtain ⟨xBB0, xBB1, yBB0, yBB1⟩ := pxf2 BB))
  go_ret2
  exact ⟨rfl, pxb HB⟩
set_option maxHeartbeats 8000000 in
set_option maxRecDepth 100000 in
theorem show_one (g B : Nat) (s : ByteArray) (f t : Int) (w : World) (hf : 0 ≤ f ∧ f ≤ s.size) (heq : t = f) (hs : s.size ≤ 65536) (h : Tab g B s w) (ht : TT w) : Calls Tryd.prog 17 #[.pointer (some ⟨g, 0, none⟩), .agg #[.int .i64 f, .int .i64 t]] w fun e w' => e = .returned (.tuple #[.string (plS (plN s.data.toList f.toNat).1 (plN s.data.toList f.toNat).2), .int .i64 0]) ∧ Below w.heap.size w w' := by
  have HB := Aside0.mk (Below.refl w.heap.size w)
  subst heq
  have HAF := Lib.hid (at_from hs h t (atV_ok hf))
  have HAT := HAF
  have hsm := plN_small (s := s) (k := t.toNat) (by omega) hs
  generalize ((plN s.data.toList t.toNat).1 : Int) = a at HAF HAT hsm ⊢
  generalize ((plN s.data.toList t.toNat).2 : Int) = b at HAF HAT hsm ⊢
  have HST := Lib.hid (fun (W : World) (hb : Below w.heap.size w W) => string_any a b W hsm.1 hsm.2 (ht.below hb))
  have k1 : decide (t < t) = false := decide_eq_false (by omega)
  have k2 : (t == t) = true := beq_self_eq_true t
  clear hf hs h ht hsm
  have tok_w2 : True := trivial
  have tok_w4 : True := trivial
  have tok_w6 : True := trivial
  go_enter Tryd.func17, Tryd.ntmps17
  go_wp2_with (first | ((with_reducible refine gate_dst (N := 3) rfl ?_); refine box_event ?hg (N := 3) ?hd (cs := #[.int .i64 t, .int .i64 t]) (t := 24) ?hr ?_; (case hd => rfl); (case hg => rfl); (case hr => first | (go_simp; done) | (go_simp; rfl)); intro gs hg w1 hbox hb; have NWBS := Aside0.mk hbox; have GWBS := Aside0.mk ((by rw [hg]; exact (below_size (pxb HB)) : w.heap.size ≤ gs)); clear hg hbox; have n0_ := pxs HB hb; clear HB ; have HB := n0_; clear n0_; have BS := NWBS; clear NWBS hb; obtain ⟨xBS0, xBS1, yBS0, yBS1⟩ := pxf2 BS) | (clear tok_w2; go_at_call 13; (with_reducible refine (HAF.out _ (pxb HB)).mono ?_); rintro e w2 ⟨rfl, hb⟩; have n0_ := pxs HB hb; have nBS_ : Aside0 (w2.heap[gs]? = some (.cells #[.int .i64 t, .int .i64 t] 24 (0, 0))) := ⟨blk_below (pxp BS) hb⟩; clear HB BS; have HB := n0_; clear n0_; have BS := nBS_; clear nBS_; clear hb; obtain ⟨xBS0, xBS1, yBS0, yBS1⟩ := pxf2 BS) | ((with_reducible refine gate_dst (N := 6) rfl ?_); refine box_event ?hg (N := 6) ?hd (cs := #[.int .i64 0, .int .i64 0]) (t := 35) ?hr ?_; (case hd => rfl); (case hg => rfl); (case hr => first | (go_simp; done) | (go_simp; rfl)); intro ga hg w3 hbox hb; have NWBA := Aside0.mk hbox; have GWBA := Aside0.mk ((by rw [hg]; exact (below_size (pxb HB)) : w.heap.size ≤ ga)); have NEBSBA := Aside0.mk (show gs ≠ ga by rw [hg]; exact Nat.ne_of_lt (blk_lt (pxp (o := .cells #[.int .i64 t, .int .i64 t] 24 (0, 0)) BS))); have NEBABS := Aside0.mk (Ne.symm NEBSBA.out); have eBSBA := NEBSBA.out; have eBABS := NEBABS.out; clear hg hbox; have n0_ := pxs HB hb; have nBS_ : Aside0 (w3.heap[gs]? = some (.cells #[.int .i64 t, .int .i64 t] 24 (0, 0))) := ⟨blk_below (pxp BS) hb⟩; clear HB BS; have HB := n0_; clear n0_; have BS := nBS_; clear nBS_; have BA := NWBA; clear NWBA hb; obtain ⟨xBS0, xBS1, yBS0, yBS1⟩ := pxf2 BS; obtain ⟨xBA0, xBA1, yBA0, yBA1⟩ := pxf2 BA) | (clear tok_w4; go_at_call 13; (with_reducible refine (HAT.out _ (pxb HB)).mono ?_); rintro e w4 ⟨rfl, hb⟩; have n0_ := pxs HB hb; have nBS_ : Aside0 (w4.heap[gs]? = some (.cells #[.int .i64 t, .int .i64 t] 24 (0, 0))) := ⟨blk_below (pxp BS) hb⟩; have nBA_ : Aside0 (w4.heap[ga]? = some (.cells #[.int .i64 a, .int .i64 b] 35 (0, 0))) := ⟨blk_below (pxp BA) hb⟩; clear HB BS BA; have HB := n0_; clear n0_; have BS := nBS_; clear nBS_; have BA := nBA_; clear nBA_; clear hb; obtain ⟨xBS0, xBS1, yBS0, yBS1⟩ := pxf2 BS; obtain ⟨xBA0, xBA1, yBA0, yBA1⟩ := pxf2 BA) | ((with_reducible refine gate_dst (N := 8) rfl ?_); refine box_event ?hg (N := 8) ?hd (cs := #[.int .i64 0, .int .i64 0]) (t := 35) ?hr ?_; (case hd => rfl); (case hg => rfl); (case hr => first | (go_simp; done) | (go_simp; rfl)); intro gb hg w5 hbox hb; have NWBB := Aside0.mk hbox; have GWBB := Aside0.mk ((by rw [hg]; exact (below_size (pxb HB)) : w.heap.size ≤ gb)); have NEBSBB := Aside0.mk (show gs ≠ gb by rw [hg]; exact Nat.ne_of_lt (blk_lt (pxp (o := .cells #[.int .i64 t, .int .i64 t] 24 (0, 0)) BS))); have NEBBBS := Aside0.mk (Ne.symm NEBSBB.out); have eBSBB := NEBSBB.out; have eBBBS := NEBBBS.out; have NEBABB := Aside0.mk (show ga ≠ gb by rw [hg]; exact Nat.ne_of_lt (blk_lt (pxp (o := .cells #[.int .i64 a, .int .i64 b] 35 (0, 0)) BA))); have NEBBBA := Aside0.mk (Ne.symm NEBABB.out); have eBABB := NEBABB.out; have eBBBA := NEBBBA.out; clear hg hbox; have n0_ := pxs HB hb; have nBS_ : Aside0 (w5.heap[gs]? = some (.cells #[.int .i64 t, .int .i64 t] 24 (0, 0))) := ⟨blk_below (pxp BS) hb⟩; have nBA_ : Aside0 (w5.heap[ga]? = some (.cells #[.int .i64 a, .int .i64 b] 35 (0, 0))) := ⟨blk_below (pxp BA) hb⟩; clear HB BS BA; have HB := n0_; clear n0_; have BS := nBS_; clear nBS_; have BA := nBA_; clear nBA_; have BB := NWBB; clear NWBB hb; obtain ⟨xBS0, xBS1, yBS0, yBS1⟩ := pxf2 BS; obtain ⟨xBA0, xBA1, yBA0, yBA1⟩ := pxf2 BA; obtain ⟨xBB0, xBB1, yBB0, yBB1⟩ := pxf2 BB) | (clear tok_w6; go_at_call 24; (with_reducible refine (HST.out _ (pxb HB)).mono ?_); rintro e w6 ⟨rfl, hb⟩; have n0_ := pxs HB hb; have nBS_ : Aside0 (w6.heap[gs]? = some (.cells #[.int .i64 t, .int .i64 t] 24 (0, 0))) := ⟨blk_below (pxp BS) hb⟩; have nBA_ : Aside0 (w6.heap[ga]? = some (.cells #[.int .i64 a, .int .i64 b] 35 (0, 0))) := ⟨blk_below (pxp BA) hb⟩; have nBB_ : Aside0 (w6.heap[gb]? = some (.cells #[.int .i64 a, .int .i64 b] 35 (0, 0))) := ⟨blk_below (pxp BB) hb⟩; clear HB BS BA BB; have HB := n0_; clear n0_; have BS := nBS_; clear nBS_; have BA := nBA_; clear nBA_; have BB := nBB_; clear nBB_; clear hb; obtain ⟨xBS0, xBS1, yBS0, yBS1⟩ := pxf2 BS; obtain ⟨xBA0, xBA1, yBA0, yBA1⟩ := pxf2 BA; obtain ⟨xBB0, xBB1, yBB0, yBB1⟩ := pxf2 BB))
  go_ret2
  exact ⟨rfl, pxb HB⟩
set_option maxHeartbeats 8000000 in
set_option maxRecDepth 100000 in
theorem show_two (g B : Nat) (s : ByteArray) (f t : Int) (w : World) (hf : 0 ≤ f ∧ f ≤ s.size) (hn : 0 ≤ t ∧ t ≤ s.size) (hlt : f < t) (hs : s.size ≤ 65536) (h : Tab g B s w) (ht : TT w) : Calls Tryd.prog 17 #[.pointer (some ⟨g, 0, none⟩), .agg #[.int .i64 f, .int .i64 t]] w fun e w' => e = .returned (.tuple #[.string (plS (plN s.data.toList f.toNat).1 (plN s.data.toList f.toNat).2 ++ ⟨#[45]⟩ ++ plS (plN s.data.toList t.toNat).1 (plN s.data.toList t.toNat).2), .int .i64 0]) ∧ Below w.heap.size w w' := by
  have HB := Aside0.mk (Below.refl w.heap.size w)
  have HAF := Lib.hid (at_from hs h f (atV_ok hf))
  have HAT := Lib.hid (at_from hs h t (atV_ok hn))
  have hsf := plN_small (s := s) (k := f.toNat) (by omega) hs
  have hst := plN_small (s := s) (k := t.toNat) (by omega) hs
  generalize ((plN s.data.toList f.toNat).1 : Int) = a at HAF hsf ⊢
  generalize ((plN s.data.toList f.toNat).2 : Int) = b at HAF hsf ⊢
  generalize ((plN s.data.toList t.toNat).1 : Int) = c at HAT hst ⊢
  generalize ((plN s.data.toList t.toNat).2 : Int) = d at HAT hst ⊢
  have HSF := Lib.hid (fun (W : World) (hb : Below w.heap.size w W) => string_any a b W hsf.1 hsf.2 (ht.below hb))
  have HST := Lib.hid (fun (W : World) (hb : Below w.heap.size w W) => string_any c d W hst.1 hst.2 (ht.below hb))
  have h1 := plS_size hsf.1 hsf.2
  have h2 := plS_size hst.1 hst.2
  have k1 : decide (t < f) = false := decide_eq_false (by omega)
  have k2 : (f == t) = false := beq_eq_false_iff_ne.2 (by omega)
  generalize plS a b = sa at HSF h1 ⊢
  generalize plS c d = sb at HST h2 ⊢
  have k3 : (9223372036854775807 < sa.size + 1) = False := eq_false (by omega)
  have k4 : (9223372036854775807 < sa.size + 1 + sb.size) = False := eq_false (by omega)
  have hz : (sa ++ (⟨#[45]⟩ : ByteArray)).size = sa.size + 1 := ByteArray.size_append
  clear hf hs h ht hn hsf hst hlt h1 h2
  have tok_w2 : True := trivial
  have tok_w4 : True := trivial
  go_enter Tryd.func17, Tryd.ntmps17
  go_wp2_with (first | ((with_reducible refine gate_dst (N := 3) rfl ?_); refine box_event ?hg (N := 3) ?hd (cs := #[.int .i64 f, .int .i64 t]) (t := 24) ?hr ?_; (case hd => rfl); (case hg => rfl); (case hr => first | (go_simp; done) | (go_simp; rfl)); intro gs hg w1 hbox hb; have NWBS := Aside0.mk hbox; have GWBS := Aside0.mk ((by rw [hg]; exact (below_size (pxb HB)) : w.heap.size ≤ gs)); clear hg hbox; have n0_ := pxs HB hb; clear HB ; have HB := n0_; clear n0_; have BS := NWBS; clear NWBS hb; obtain ⟨xBS0, xBS1, yBS0, yBS1⟩ := pxf2 BS) | (clear tok_w2; go_at_call 13; (with_reducible refine (HAF.out _ (pxb HB)).mono ?_); rintro e w2 ⟨rfl, hb⟩; have n0_ := pxs HB hb; have nBS_ : Aside0 (w2.heap[gs]? = some (.cells #[.int .i64 f, .int .i64 t] 24 (0, 0))) := ⟨blk_below (pxp BS) hb⟩; clear HB BS; have HB := n0_; clear n0_; have BS := nBS_; clear nBS_; clear hb; obtain ⟨xBS0, xBS1, yBS0, yBS1⟩ := pxf2 BS) | ((with_reducible refine gate_dst (N := 6) rfl ?_); refine box_event ?hg (N := 6) ?hd (cs := #[.int .i64 0, .int .i64 0]) (t := 35) ?hr ?_; (case hd => rfl); (case hg => rfl); (case hr => first | (go_simp; done) | (go_simp; rfl)); intro ga hg w3 hbox hb; have NWBA := Aside0.mk hbox; have GWBA := Aside0.mk ((by rw [hg]; exact (below_size (pxb HB)) : w.heap.size ≤ ga)); have NEBSBA := Aside0.mk (show gs ≠ ga by rw [hg]; exact Nat.ne_of_lt (blk_lt (pxp (o := .cells #[.int .i64 f, .int .i64 t] 24 (0, 0)) BS))); have NEBABS := Aside0.mk (Ne.symm NEBSBA.out); have eBSBA := NEBSBA.out; have eBABS := NEBABS.out; clear hg hbox; have n0_ := pxs HB hb; have nBS_ : Aside0 (w3.heap[gs]? = some (.cells #[.int .i64 f, .int .i64 t] 24 (0, 0))) := ⟨blk_below (pxp BS) hb⟩; clear HB BS; have HB := n0_; clear n0_; have BS := nBS_; clear nBS_; have BA := NWBA; clear NWBA hb; obtain ⟨xBS0, xBS1, yBS0, yBS1⟩ := pxf2 BS; obtain ⟨xBA0, xBA1, yBA0, yBA1⟩ := pxf2 BA) | (clear tok_w4; go_at_call 13; (with_reducible refine (HAT.out _ (pxb HB)).mono ?_); rintro e w4 ⟨rfl, hb⟩; have n0_ := pxs HB hb; have nBS_ : Aside0 (w4.heap[gs]? = some (.cells #[.int .i64 f, .int .i64 t] 24 (0, 0))) := ⟨blk_below (pxp BS) hb⟩; have nBA_ : Aside0 (w4.heap[ga]? = some (.cells #[.int .i64 a, .int .i64 b] 35 (0, 0))) := ⟨blk_below (pxp BA) hb⟩; clear HB BS BA; have HB := n0_; clear n0_; have BS := nBS_; clear nBS_; have BA := nBA_; clear nBA_; clear hb; obtain ⟨xBS0, xBS1, yBS0, yBS1⟩ := pxf2 BS; obtain ⟨xBA0, xBA1, yBA0, yBA1⟩ := pxf2 BA) | ((with_reducible refine gate_dst (N := 8) rfl ?_); refine box_event ?hg (N := 8) ?hd (cs := #[.int .i64 0, .int .i64 0]) (t := 35) ?hr ?_; (case hd => rfl); (case hg => rfl); (case hr => first | (go_simp; done) | (go_simp; rfl)); intro gb hg w5 hbox hb; have NWBB := Aside0.mk hbox; have GWBB := Aside0.mk ((by rw [hg]; exact (below_size (pxb HB)) : w.heap.size ≤ gb)); have NEBSBB := Aside0.mk (show gs ≠ gb by rw [hg]; exact Nat.ne_of_lt (blk_lt (pxp (o := .cells #[.int .i64 f, .int .i64 t] 24 (0, 0)) BS))); have NEBBBS := Aside0.mk (Ne.symm NEBSBB.out); have eBSBB := NEBSBB.out; have eBBBS := NEBBBS.out; have NEBABB := Aside0.mk (show ga ≠ gb by rw [hg]; exact Nat.ne_of_lt (blk_lt (pxp (o := .cells #[.int .i64 a, .int .i64 b] 35 (0, 0)) BA))); have NEBBBA := Aside0.mk (Ne.symm NEBABB.out); have eBABB := NEBABB.out; have eBBBA := NEBBBA.out; clear hg hbox; have n0_ := pxs HB hb; have nBS_ : Aside0 (w5.heap[gs]? = some (.cells #[.int .i64 f, .int .i64 t] 24 (0, 0))) := ⟨blk_below (pxp BS) hb⟩; have nBA_ : Aside0 (w5.heap[ga]? = some (.cells #[.int .i64 a, .int .i64 b] 35 (0, 0))) := ⟨blk_below (pxp BA) hb⟩; clear HB BS BA; have HB := n0_; clear n0_; have BS := nBS_; clear nBS_; have BA := nBA_; clear nBA_; have BB := NWBB; clear NWBB hb; obtain ⟨xBS0, xBS1, yBS0, yBS1⟩ := pxf2 BS; obtain ⟨xBA0, xBA1, yBA0, yBA1⟩ := pxf2 BA; obtain ⟨xBB0, xBB1, yBB0, yBB1⟩ := pxf2 BB))
  refine start_ (n := 8) (S := fun w' => w'.cell? ⟨ga, 0, none⟩ = some (.int .i64 a) ∧ w'.cell? ⟨ga, 1, none⟩ = some (.int .i64 b) ∧ w'.cell? ⟨gb, 0, none⟩ = some (.int .i64 c) ∧ w'.cell? ⟨gb, 1, none⟩ = some (.int .i64 d)) (ds := []) #[false, false, false, false, false, false, false, false] (by kernel_rfl) rfl rfl ⟨(pxf2 ⟨blk_drew (pxp (o := .cells #[.int .i64 a, .int .i64 b] 35 (0, 0)) BA)⟩).1, (pxf2 ⟨blk_drew (pxp (o := .cells #[.int .i64 a, .int .i64 b] 35 (0, 0)) BA)⟩).2.1, (pxf2 ⟨blk_drew (pxp (o := .cells #[.int .i64 c, .int .i64 d] 35 (0, 0)) BB)⟩).1, (pxf2 ⟨blk_drew (pxp (o := .cells #[.int .i64 c, .int .i64 d] 35 (0, 0)) BB)⟩).2.1⟩ (fun hHeld => ?_); refine with_tab rfl (fun HT_ => ?_)
  generalize hW_ : World.drew _ = w6 at hHeld ⊢
  have n0_ : Aside0 (Below w.heap.size w w6) := ⟨by rw [← hW_]; exact below_drew1 (pxb HB)⟩
  have nBA_ : Aside0 (w6.heap[ga]? = some (.cells #[.int .i64 a, .int .i64 b] 35 (0, 0))) := ⟨by rw [← hW_]; exact blk_drew (pxp BA)⟩
  have nBB_ : Aside0 (w6.heap[gb]? = some (.cells #[.int .i64 c, .int .i64 d] 35 (0, 0))) := ⟨by rw [← hW_]; exact blk_drew (pxp BB)⟩
  clear hW_ HB BA BB
  have HB := n0_
  have BA := nBA_
  have BB := nBB_
  clear n0_ nBA_ nBB_
  refine tT 0 46 HT_ hHeld ?_
  refine tT 3 49 HT_ hHeld ?_
  refine oS 1 HT_ (fun K hK => ?_)
  refine goes_ Tryd.func24 (by kernel_rfl) rfl #[.agg #[.int .i64 a, .int .i64 b]] (by rfl) rfl rfl (by (try simp only [List.map_toArray, List.map_cons, List.map_nil]); first | done | rfl) ?_
  (with_reducible refine (HSF.out _ (pxb HB)).mono ?_)
  rintro e w7 ⟨rfl, hb⟩
  refine ⟨_, rfl, ?_⟩
  have n0_ := pxs HB hb; have nBA_ : Aside0 (w7.heap[ga]? = some (.cells #[.int .i64 a, .int .i64 b] 35 (0, 0))) := ⟨blk_below (pxp BA) hb⟩; have nBB_ : Aside0 (w7.heap[gb]? = some (.cells #[.int .i64 c, .int .i64 d] 35 (0, 0))) := ⟨blk_below (pxp BB) hb⟩; clear HB BA BB; have HB := n0_; clear n0_; have BA := nBA_; clear nBA_; have BB := nBB_; clear nBB_
  refine hK.out _ _ ⟨(pxf2 BA).1, (pxf2 BA).2.1, (pxf2 BB).1, (pxf2 BB).2.1⟩ (fun hHeld => ?_)
  clear hK K hb
  refine nS 47 ?_
  refine pS 2 48 HT_ ?_
  refine oS 4 HT_ (fun K hK => ?_)
  refine goes_ Tryd.func24 (by kernel_rfl) rfl #[.agg #[.int .i64 c, .int .i64 d]] (by rfl) rfl rfl (by (try simp only [List.map_toArray, List.map_cons, List.map_nil]); first | done | rfl) ?_
  (with_reducible refine (HST.out _ (pxb HB)).mono ?_)
  rintro e w8 ⟨rfl, hb⟩
  refine ⟨_, rfl, ?_⟩
  have n0_ := pxs HB hb; have nBA_ : Aside0 (w8.heap[ga]? = some (.cells #[.int .i64 a, .int .i64 b] 35 (0, 0))) := ⟨blk_below (pxp BA) hb⟩; have nBB_ : Aside0 (w8.heap[gb]? = some (.cells #[.int .i64 c, .int .i64 d] 35 (0, 0))) := ⟨blk_below (pxp BB) hb⟩; clear HB BA BB; have HB := n0_; clear n0_; have BA := nBA_; clear nBA_; have BB := nBB_; clear nBB_
  refine hK.out _ _ ⟨(pxf2 BA).1, (pxf2 BA).2.1, (pxf2 BB).1, (pxf2 BB).2.1⟩ (fun hHeld => ?_)
  clear hK K hb
  refine nS 50 ?_
  refine pS 5 51 HT_ ?_
  refine pS 6 4 HT_ ?_
  refine pS 7 5 HT_ ?_
  refine done_ (done_of HT_.out (by kernel_rfl)) ?_
  clear HT_ hHeld
  go_wp2
  go_ret2
  exact ⟨rfl, pxb HB⟩
/-- The whole of Show. -/
theorem show_any (g B : Nat) (s : ByteArray) (f t : Int) (w : World) (hs : s.size ≤ 65536) (h : Tab g B s w) (ht : TT w) : Calls Tryd.prog 17 #[.pointer (some ⟨g, 0, none⟩), .agg #[.int .i64 f, .int .i64 t]] w fun e w' => e = .returned (.tuple #[.string (showV s f t).1, .int .i64 (showV s f t).2]) ∧ Below w.heap.size w w' := by
  unfold showV
  by_cases hc : 0 ≤ f ∧ f ≤ t ∧ t ≤ s.size
  · rw [if_pos hc]
    by_cases he : f = t
    · rw [if_pos he]
      exact show_one g B s f t w (by omega) he.symm hs h ht
    · rw [if_neg he]
      exact show_two g B s f t w (by omega) (by omega) (by omega) hs h ht
  · rw [if_neg hc]
    by_cases hf : 0 ≤ f ∧ f ≤ s.size
    · by_cases hn : 0 ≤ t ∧ t ≤ s.size
      · exact show_bad3 g B s f t w hf hn (by omega) hs h ht
      · exact show_bad2 g B s f t w hf hn hs h ht
    · exact show_bad1 g B s f t w hf hs h ht
end Go.Proofs.YtimhbepecnmjeaaDoor.LiW
