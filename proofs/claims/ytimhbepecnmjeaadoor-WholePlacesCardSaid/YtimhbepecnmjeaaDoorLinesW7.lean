/- The table's methods at any later world, by what they answer. -/
import Derived.Test.YtimhbepecnmjeaaDoorLinesW6
namespace Go.Proofs.YtimhbepecnmjeaaDoor.LiW
open Go.RowKit Go.Shelf Go.Proofs.YtimhbepecnmjeaaDoorW.PrintWords Go.Proofs.YtimhbepecnmjeaaDoorW.PrintLast Go.Proofs.YtimhbepecnmjeaaDoor.Li
set_option linter.unusedVariables false
set_option linter.unusedSimpArgs false
/-- What Line answers. -/
def lineV (s : ByteArray) (n : Int) : Int × Int × Int := if 1 ≤ n ∧ n ≤ (ssN s.data.toList).length then ((sN s.data.toList (n - 1).toNat : Int), (enN s.data.toList (n - 1).toNat : Int), (0 : Int)) else (0, 0, 1)
/-- What Text answers. -/
def textV (s : ByteArray) (n : Int) : ByteArray × Int := if 1 ≤ n ∧ n ≤ (ssN s.data.toList).length then (⟨(bareN s.data.toList (n - 1).toNat).toArray⟩, 0) else (⟨#[]⟩, 1)
section
variable {g B : Nat} {s : ByteArray} {w : World} (hs : s.size ≤ 65536) (h : Tab g B s w)
include hs h
theorem lines_from {c : Int} (he : ((ssN s.data.toList).length : Int) = c) (W : World) (hb : Below w.heap.size w W) : Calls Tryd.prog 11 #[.pointer (some ⟨g, 0, none⟩)] W fun e w' => e = .returned (.int .i64 c) ∧ W = w' := by
  have _hs := hs
  have h1 := lines_any g B s W (h.below hb)
  rw [he] at h1
  exact h1.mono fun e w' h => ⟨h.1, h.2.symm⟩
theorem line_from (n : Int) {a b c : Int} (he : lineV s n = (a, b, c)) (W : World) (hb : Below w.heap.size w W) : Calls Tryd.prog 12 #[.pointer (some ⟨g, 0, none⟩), .int .i64 n] W fun e w' => e = .returned (.tuple #[.agg #[.int .i64 a, .int .i64 b], .int .i64 c]) ∧ Below W.heap.size W w' := by
  have h1 := line_any g B s n W hs (h.below hb)
  unfold LineP at h1
  unfold lineV at he
  by_cases hc : 1 ≤ n ∧ n ≤ (ssN s.data.toList).length
  · rw [if_pos hc, if_pos hc, if_pos hc] at h1
    rw [if_pos hc] at he
    simp only [Prod.mk.injEq] at he
    obtain ⟨rfl, rfl, rfl⟩ := he
    exact h1
  · rw [if_neg hc, if_neg hc, if_neg hc] at h1
    rw [if_neg hc] at he
    simp only [Prod.mk.injEq] at he
    obtain ⟨rfl, rfl, rfl⟩ := he
    exact h1
theorem text_from (n : Int) {a : ByteArray} {c : Int} (he : textV s n = (a, c)) (W : World) (hb : Below w.heap.size w W) : Calls Tryd.prog 27 #[.pointer (some ⟨g, 0, none⟩), .int .i64 n] W fun e w' => e = .returned (.tuple #[.string a, .int .i64 c]) ∧ Below W.heap.size W w' := by
  unfold textV at he
  by_cases hc : 1 ≤ n ∧ n ≤ (ssN s.data.toList).length
  · rw [if_pos hc] at he
    have h1 := text_any g B s (n - 1).toNat W (by omega) hs (h.below hb)
    have e1 : (((n - 1).toNat : Nat) : Int) + 1 = n := by omega
    have e2 : s.extract (sN s.data.toList (n - 1).toNat) (enN s.data.toList (n - 1).toNat) = ⟨(bareN s.data.toList (n - 1).toNat).toArray⟩ := by rw [← extract_bare]
    simp only [Prod.mk.injEq] at he
    obtain ⟨rfl, rfl⟩ := he
    rw [e1, e2] at h1
    exact h1
  · rw [if_neg hc] at he
    simp only [Prod.mk.injEq] at he
    obtain ⟨rfl, rfl⟩ := he
    exact text_bad g B s n W hc hs (h.below hb)
theorem byte_from (a b : Int) {c d : Int} (he : byteV s a b = (c, d)) (W : World) (hb : Below w.heap.size w W) : Calls Tryd.prog 23 #[.pointer (some ⟨g, 0, none⟩), .agg #[.int .i64 a, .int .i64 b]] W fun e w' => e = .returned (.tuple #[.int .i64 c, .int .i64 d]) ∧ Below W.heap.size W w' := by
  unfold byteV at he
  by_cases hc : 1 ≤ a ∧ a ≤ (ssN s.data.toList).length ∧ 1 ≤ b ∧ b ≤ 65537
  · have h1 := byte_good g B s (a - 1).toNat (b - 1).toNat W (by omega) (by omega) hs (h.below hb)
    have e1 : (((a - 1).toNat : Nat) : Int) + 1 = a := by omega
    have e2 : (((b - 1).toNat : Nat) : Int) + 1 = b := by omega
    rw [e1, e2] at h1
    by_cases h2 : sN s.data.toList (a - 1).toNat + (b - 1).toNat ≤ toN s.data.toList (a - 1).toNat
    · rw [if_pos ⟨hc.1, hc.2.1, hc.2.2.1, hc.2.2.2, by omega⟩] at he
      rw [if_pos h2, if_pos h2] at h1
      simp only [Prod.mk.injEq] at he
      obtain ⟨rfl, rfl⟩ := he
      have e3 : ((sN s.data.toList (a - 1).toNat + (b - 1).toNat : Nat) : Int) = (sN s.data.toList (a - 1).toNat : Int) + b - 1 := by omega
      rw [e3] at h1
      exact h1
    · rw [if_neg (fun h3 => h2 (by have := h3.2.2.2.2; omega))] at he
      rw [if_neg h2, if_neg h2] at h1
      simp only [Prod.mk.injEq] at he
      obtain ⟨rfl, rfl⟩ := he
      exact h1
  · rw [if_neg (fun h3 => hc ⟨h3.1, h3.2.1, h3.2.2.1, h3.2.2.2.1⟩)] at he
    simp only [Prod.mk.injEq] at he
    obtain ⟨rfl, rfl⟩ := he
    exact byte_bad g B s a b W hc hs (h.below hb)
theorem show_from (ht : TT w) (f t : Int) {a : ByteArray} {c : Int} (he : showV s f t = (a, c)) (W : World) (hb : Below w.heap.size w W) : Calls Tryd.prog 17 #[.pointer (some ⟨g, 0, none⟩), .agg #[.int .i64 f, .int .i64 t]] W fun e w' => e = .returned (.tuple #[.string a, .int .i64 c]) ∧ Below W.heap.size W w' := by
  have h1 := show_any g B s f t W hs (h.below hb) (ht.below hb)
  rw [he] at h1
  exact h1
theorem point_from (f t : Int) {a : ByteArray} {c : Int} (he : pointV s f t = (a, c)) (W : World) (hb : Below w.heap.size w W) : Calls Tryd.prog 18 #[.pointer (some ⟨g, 0, none⟩), .agg #[.int .i64 f, .int .i64 t]] W fun e w' => e = .returned (.tuple #[.string a, .int .i64 c]) ∧ Below W.heap.size W w' := by
  have h1 := point_any g B s f t W hs (h.below hb)
  rw [he] at h1
  exact h1
end
end Go.Proofs.YtimhbepecnmjeaaDoor.LiW
