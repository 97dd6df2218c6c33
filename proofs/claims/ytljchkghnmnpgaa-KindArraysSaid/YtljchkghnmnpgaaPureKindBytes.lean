/- Bytes of strings that are cut or laid together; any strings. -/
import Derived.Test.YtljchkghnmnpgaaPureKindMore
namespace Go.Proofs.Ytljchkghnmnpgaa.Pure
open Go.RowKit Go.Proofs.Ytljchkghnmnpgaa.X Go.Proofs.YtljchkghnmnpgaaW.PrintWords Go.Proofs.YtljchkghnmnpgaaW.PrintLast
theorem bt_some (s : ByteArray) (i : Nat) (h : i < s.size) : bt s (i : Int) = ((s[i]'h).toNat : Int) := by
  unfold bt
  rw [dif_pos (by rw [Int.toNat_natCast]; exact h)]
  simp only [Int.toNat_natCast]
theorem bt_ext {s t : ByteArray} (hs : s.size = t.size) (h : ∀ i : Nat, i < s.size → bt s (i : Int) = bt t (i : Int)) : s = t := by
  refine ByteArray.ext (Array.ext hs fun i h1 h2 => ?_)
  have := h i h1
  rw [bt_some s i h1, bt_some t i h2] at this
  exact UInt8.toNat_inj.1 (by exact_mod_cast this)
theorem bt_cut (s : ByteArray) (n i : Nat) (h : i < n) (hn : n ≤ s.size) : bt (s.extract 0 n) (i : Int) = bt s (i : Int) := by
  have h1 : i < (s.extract 0 n).size := by rw [ByteArray.size_extract]; omega
  rw [bt_some _ i h1, bt_some s i (by omega)]
  rw [ByteArray.getElem_extract]
  simp only [Nat.zero_add]
theorem bt_left (s t : ByteArray) (i : Nat) (h : i < s.size) : bt (s ++ t) (i : Int) = bt s (i : Int) := by
  rw [bt_some _ i (by rw [ByteArray.size_append]; omega), bt_some s i h, ByteArray.getElem_append_left h]
theorem bt_right (s t : ByteArray) (i : Nat) (h : s.size ≤ i) (h2 : i < s.size + t.size) : bt (s ++ t) (i : Int) = bt t ((i - s.size : Nat) : Int) := by
  rw [bt_some _ i (by rw [ByteArray.size_append]; omega), bt_some t (i - s.size) (by omega), ByteArray.getElem_append_right h]
theorem cut_whole (s t : ByteArray) : (s ++ t).extract 0 s.size = s := by
  refine bt_ext (by rw [ByteArray.size_extract, ByteArray.size_append]; omega) fun i hi => ?_
  have hi' : i < s.size := by rw [ByteArray.size_extract, ByteArray.size_append] at hi; omega
  rw [bt_cut _ _ _ hi' (by rw [ByteArray.size_append]; omega), bt_left s t i hi']
theorem cut_eq (s t : ByteArray) (n : Nat) (h1 : n ≤ s.size) (h2 : n ≤ t.size) : (s.extract 0 n).toList = (t.extract 0 n).toList ↔ ∀ i : Nat, i < n → bt s (i : Int) = bt t (i : Int) := by
  constructor
  · intro h i hi
    rw [← bt_cut s n i hi h1, ← bt_cut t n i hi h2, toList_inj h]
  · intro h
    rw [bt_ext (s := s.extract 0 n) (t := t.extract 0 n) (by rw [ByteArray.size_extract, ByteArray.size_extract]; omega) fun i hi => by
      have hi' : i < n := by rw [ByteArray.size_extract] at hi; omega
      rw [bt_cut s n i hi' h1, bt_cut t n i hi' h2]; exact h i hi']
end Go.Proofs.Ytljchkghnmnpgaa.Pure
