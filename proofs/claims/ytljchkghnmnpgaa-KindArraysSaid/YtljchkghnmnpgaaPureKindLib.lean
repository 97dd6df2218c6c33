/- When a type may be: both the program's check and the document's answer, as one Bool; any type whose texts are not too long. -/
import Derived.Test.YtljchkghnmnpgaaX26
import Derived.Test.YtljchkghnmnpgaaX18
import Derived.Test.YtljchkghnmnpgaaEvKit
import Derived.Lib.Strings
namespace Go.Proofs.Ytljchkghnmnpgaa.Pure
open Go.RowKit Go.Proofs.Ytljchkghnmnpgaa.X Go.Proofs.YtljchkghnmnpgaaW.PrintWords Go.Proofs.YtljchkghnmnpgaaW.PrintLast

theorem Ev.now_ {α : Type} (r : α) : Ev (fun _ => some r) r := ⟨0, fun _ _ => rfl⟩
def okMark (b d : Int) (i : Nat) (c : Int) : Bool := c == 32 || ((c == 63 || c == 111) && ((decide (i ≠ 0) || b == 5) && (c != 111 || decide (d ≤ (i : Int)))))
def goodFrom (b d : Int) (m : ByteArray) : Nat → Nat → Bool
 | 0, _ => true
 | n + 1, i => okMark b d i (bt m (i : Int)) && goodFrom b d m n (i + 1)
def headOk (b : Int) (nm : ByteArray) (d : Int) : Bool := decide (0 ≤ d) && (decide (d ≤ 4) && (decide (1 ≤ b) && (decide (b ≤ 6) && (((b == 5) == (nm.toList != ([] : List UInt8))) && (b != 6 || decide (d ≤ 0))))))
def T (b : Int) (nm : ByteArray) (d : Int) (m : ByteArray) : Bool := headOk b nm d && (decide ((m.size : Int) = d + 1) && goodFrom b d m m.size 0)
def isNull (b : Int) (nm : ByteArray) (d : Int) (m : ByteArray) : Bool := b == 7 && (nm.toList == ([] : List UInt8) && (d == 0 && (m.toList == ([63] : List UInt8))))
def isNone (b : Int) (nm : ByteArray) (d : Int) (m : ByteArray) : Bool := b == 8 && (nm.toList == ([] : List UInt8) && (d == 0 && (m.toList == ([111] : List UInt8))))
def R (b : Int) (nm : ByteArray) (d : Int) (m : ByteArray) : Bool := isNull b nm d m || (isNone b nm d m || T b nm d m)

theorem goodFrom_iff (b d : Int) (m : ByteArray) : ∀ n i, goodFrom b d m n i = true ↔ ∀ j, i ≤ j → j < i + n → okMark b d j (bt m (j : Int)) = true
  | 0, i => by simp only [goodFrom, true_iff]; intro j h1 h2; omega
  | n + 1, i => by
    rw [goodFrom, Bool.and_eq_true, goodFrom_iff b d m n (i + 1)]
    constructor
    · intro ⟨h1, h2⟩ j hj hk
      rcases Nat.eq_or_lt_of_le hj with rfl | h
      · exact h1
      · exact h2 j h (by omega)
    · intro h
      exact ⟨h i (Nat.le_refl _) (by omega), fun j hj hk => h j (by omega) (by omega)⟩

/-! the program's check -/
theorem typed_j2 (b : Int) (nm : ByteArray) (d : Int) (m : ByteArray) (i : Nat) (hi : i < m.size) (x : Bool) (N I : Int) (r : Bool) (ih : Ev (fun k => tree_typed.l0 k N (wrap64 (I + 1)) b nm d m) r) :
    Ev (fun k => tree_typed.j2 k (i : Int) N I x b nm d m) (x && ((decide (i ≠ 0) || b == 5) && (bt m (i : Int) != 111 || decide (d ≤ (i : Int)))) && r) := by
  refine Ev.step (fun k => by rw [tree_typed.j2]) ?_
  cases x with
  | false => exact Ev.neg (by simp) (Ev.cast (Ev.now_ _) (by simp))
  | true =>
    refine Ev.pos rfl ?_
    have tail : Ev (fun k => if 0 ≤ (i : Int) then (if (i : Int) < (m.size : Int) then (if (bt m (i : Int)) = 111 then (if (i : Int) < d then (some false) else (tree_typed.l0 k N (wrap64 (I + 1)) b nm d m)) else (tree_typed.l0 k N (wrap64 (I + 1)) b nm d m)) else none) else none) ((bt m (i : Int) != 111 || decide (d ≤ (i : Int))) && r) := by
      refine Ev.pos (by omega) (Ev.pos (by omega) ?_)
      refine Ev.ite (fun h => Ev.ite (fun h2 => Ev.cast (Ev.now_ _) ?_) (fun h2 => Ev.cast ih ?_)) (fun h => Ev.cast ih ?_)
      · have : decide (d ≤ (i : Int)) = false := by simpa using (by omega : ¬ d ≤ (i : Int))
        simp [h, this]
      · have : decide (d ≤ (i : Int)) = true := by simpa using (by omega : d ≤ (i : Int))
        simp [this]
      · simp [h]
    refine Ev.ite (fun h0 => Ev.ite (fun h5 => Ev.cast tail ?_) (fun h5 => Ev.cast (Ev.now_ _) ?_)) (fun h0 => Ev.cast tail ?_)
    · simp [h5]
    · have : i = 0 := by omega
      simp [h5, this]
    · have : i ≠ 0 := by omega
      simp [this]

theorem typed_loop (b : Int) (nm : ByteArray) (d : Int) (m : ByteArray) (hm : m.size ≤ 4611686018427387904) : ∀ n i : Nat, i + n = m.size → Ev (fun k => tree_typed.l0 k (m.size : Int) (i : Int) b nm d m) (goodFrom b d m n i)
  | 0, i, h => by
    refine Ev.step (fun k => by rw [tree_typed.l0]) ?_
    exact Ev.neg (by omega) (Ev.now_ _)
  | n + 1, i, h => by
    have hw : wrap64 ((i : Int) + 1) = ((i + 1 : Nat) : Int) := wrap_succ (n := m.size) (by omega) (by omega)
    have ih := typed_loop b nm d m hm n (i + 1) (by omega)
    rw [← hw] at ih
    refine Ev.step (fun k => by rw [tree_typed.l0]) (Ev.pos (by omega) (Ev.pos (by omega) (Ev.pos (by omega) ?_)))
    rw [goodFrom]
    refine Ev.ite (fun h32 => Ev.cast ih (by simp [okMark, h32])) (fun h32 => Ev.ite (fun h63 => Ev.cast (typed_j2 b nm d m i (by omega) _ _ _ _ ih) ?_) (fun h63 => Ev.cast (typed_j2 b nm d m i (by omega) _ _ _ _ ih) ?_))
    · simp [okMark, h63]
    · have e32 : (bt m (i : Int) == 32) = false := by simpa using h32
      have e63 : (bt m (i : Int) == 63) = false := by simpa using h63
      simp only [okMark, e32, e63, Bool.false_or]

theorem typed_ev (b : Int) (nm : ByteArray) (d : Int) (m : ByteArray) (hm : m.size ≤ 4611686018427387904) : Ev (fun k => tree_typed.f k b nm d m) (T b nm d m) := by
  have bad : ∀ x, x = true → T b nm d m = false → Ev (fun k => tree_typed.j0 k x b nm d m) (T b nm d m) := by
    rintro x rfl h
    exact Ev.step (fun k => by rw [tree_typed.j0]) (Ev.pos rfl (Ev.cast (Ev.now_ _) h.symm))
  unfold tree_typed.f
  refine Ev.ite (fun h => bad _ rfl ?_) (fun h1 => Ev.ite (fun h => bad _ rfl ?_) (fun h2 => ?_))
  · have : decide (0 ≤ d) = false := by simpa using h
    simp [T, headOk, this]
  · have : decide (d ≤ 4) = false := by simpa using h
    simp [T, headOk, this]
  rw [wrap_id (i := d + 1) (by omega) (by omega)]
  refine Ev.ite (fun h3 => ?_) (fun h => bad _ rfl ?_)
  rotate_left
  · have : decide ((m.size : Int) = d + 1) = false := by simpa using h
    simp [T, this]
  refine Ev.ite (fun h => bad _ rfl ?_) (fun h4 => Ev.ite (fun h => bad _ rfl ?_) (fun h5 => Ev.ite (fun h => bad _ rfl ?_) (fun h6 => ?_)))
  · have : decide (1 ≤ b) = false := by simpa using h
    simp [T, headOk, this]
  · have : decide (b ≤ 6) = false := by simpa using h
    simp [T, headOk, this]
  · have : ((b == 5) == (nm.toList != ([] : List UInt8))) = false := by
      revert h
      cases (b == 5) <;> cases (nm.toList != ([] : List UInt8)) <;> simp
    simp [T, headOk, this]
  have e1 : decide (0 ≤ d) = true := by simpa using h1
  have e2 : decide (d ≤ 4) = true := by simpa using h2
  have e3 : decide ((m.size : Int) = d + 1) = true := by simpa using h3
  have e4 : decide (1 ≤ b) = true := by simpa using h4
  have e5 : decide (b ≤ 6) = true := by simpa using h5
  have e6 : ((b == 5) == (nm.toList != ([] : List UInt8))) = true := by
    revert h6
    cases (b == 5) <;> cases (nm.toList != ([] : List UInt8)) <;> simp
  have go : ∀ x, x = false → Ev (fun k => tree_typed.j0 k x b nm d m) (goodFrom b d m m.size 0) := by
    rintro x rfl
    have l := typed_loop b nm d m hm m.size 0 (by omega)
    rw [show ((0 : Nat) : Int) = 0 from rfl] at l
    exact Ev.step (fun k => by rw [tree_typed.j0]) (Ev.neg (by simp) l)
  refine Ev.ite (fun h7 => ?_) (fun h7 => Ev.cast (go _ rfl) ?_)
  · by_cases h8 : d > 0
    · refine bad _ (by simpa using h8) ?_
      have : decide (d ≤ 0) = false := by simpa using h8
      simp [T, headOk, h7, this]
    · refine Ev.cast (go _ (by simpa using h8)) ?_
      have : decide (d ≤ 0) = true := by simpa using h8
      simp only [T, headOk, e1, e2, e3, e4, e5, e6, this, Bool.or_true, Bool.true_and]
  · have : (b != 6) = true := by simpa using h7
    simp only [T, headOk, e1, e2, e3, e4, e5, e6, this, Bool.true_or, Bool.true_and]

/-! the document's answer -/
theorem ref_loop (b : Int) (nm : ByteArray) (d : Int) (m : ByteArray) (hm : m.size ≤ 4611686018427387904) : ∀ n i : Nat, i + n = m.size → Ev (fun k => caulkerref07_Right.l0 k (i : Int) b nm d m) (goodFrom b d m n i)
  | 0, i, h => by
    refine Ev.step (fun k => by rw [caulkerref07_Right.l0]) ?_
    exact Ev.neg (by omega) (Ev.now_ _)
  | n + 1, i, h => by
    have hw : wrap64 ((i : Int) + 1) = ((i + 1 : Nat) : Int) := wrap_succ (n := m.size) (by omega) (by omega)
    have ih := ref_loop b nm d m hm n (i + 1) (by omega)
    rw [← hw] at ih
    have tail : ∀ c : Int, Ev (fun k => if c = 111 then (if (i : Int) < d then (some false) else (caulkerref07_Right.l0 k (wrap64 ((i : Int) + 1)) b nm d m)) else (caulkerref07_Right.l0 k (wrap64 ((i : Int) + 1)) b nm d m)) ((c != 111 || decide (d ≤ (i : Int))) && goodFrom b d m n (i + 1)) := by
      intro c
      refine Ev.ite (fun h => Ev.ite (fun h2 => Ev.cast (Ev.now_ _) ?_) (fun h2 => Ev.cast ih ?_)) (fun h => Ev.cast ih ?_)
      · have : decide (d ≤ (i : Int)) = false := by simpa using (by omega : ¬ d ≤ (i : Int))
        simp [h, this]
      · have : decide (d ≤ (i : Int)) = true := by simpa using (by omega : d ≤ (i : Int))
        simp [this]
      · simp [h]
    have j3 : ∀ c : Int, c ≠ 32 → Ev (fun k => caulkerref07_Right.j3 k (i : Int) c false b nm d m) (((decide (i ≠ 0) || b == 5) && (c != 111 || decide (d ≤ (i : Int)))) && goodFrom b d m n (i + 1)) := by
      intro c hc
      refine Ev.step (fun k => by rw [caulkerref07_Right.j3]) (Ev.neg (by simp) (Ev.neg hc ?_))
      refine Ev.ite (fun h0 => Ev.ite (fun h5 => Ev.cast (tail c) ?_) (fun h5 => Ev.cast (Ev.now_ _) ?_)) (fun h0 => Ev.cast (tail c) ?_)
      · simp [h5]
      · have : i = 0 := by omega
        simp [h5, this]
      · have : i ≠ 0 := by omega
        simp [this]
    refine Ev.step (fun k => by rw [caulkerref07_Right.l0]) (Ev.pos (by omega) (Ev.pos (by omega) ?_))
    rw [goodFrom]
    refine Ev.ite (fun h32 => ?_) (fun h32 => Ev.ite (fun h63 => Ev.cast (j3 _ h32) ?_) (fun h63 => ?_))
    · rw [h32]
      refine Ev.step (fun k => by rw [caulkerref07_Right.j3]) (Ev.neg (by simp) (Ev.pos rfl (Ev.cast (tail 32) ?_)))
      simp [okMark]
    · simp [okMark, h63]
    · have e32 : (bt m (i : Int) == 32) = false := by simpa using h32
      have e63 : (bt m (i : Int) == 63) = false := by simpa using h63
      by_cases h111 : bt m (i : Int) = 111
      · rw [h111]
        refine Ev.cast (j3 111 (by decide)) ?_
        simp [okMark]
      · have e111 : (bt m (i : Int) != 111) = true := by simpa using h111
        rw [e111]
        refine Ev.step (fun k => by rw [caulkerref07_Right.j3]) (Ev.pos rfl (Ev.cast (Ev.now_ _) ?_))
        simp [okMark, e32, e63, h111]

theorem ref_ev (b : Int) (nm : ByteArray) (d : Int) (m : ByteArray) (hm : m.size ≤ 4611686018427387904) : Ev (fun k => caulkerref07_Right.f k b nm d m) (T b nm d m) := by
  have bad : ∀ x, x = true → T b nm d m = false → Ev (fun k => caulkerref07_Right.j0 k x b nm d m) (T b nm d m) := by
    rintro x rfl h
    exact Ev.step (fun k => by rw [caulkerref07_Right.j0]) (Ev.pos rfl (Ev.cast (Ev.now_ _) h.symm))
  have bad1 : ∀ x, x = true → T b nm d m = false → Ev (fun k => caulkerref07_Right.j1 k x b nm d m) (T b nm d m) := by
    rintro x rfl h
    exact Ev.step (fun k => by rw [caulkerref07_Right.j1]) (Ev.pos rfl (Ev.cast (Ev.now_ _) h.symm))
  unfold caulkerref07_Right.f
  refine Ev.ite (fun h => bad _ rfl ?_) (fun h1 => Ev.ite (fun h => bad _ rfl ?_) (fun h2 => ?_))
  · have : decide (0 ≤ d) = false := by simpa using h
    simp [T, headOk, this]
  · have : decide (d ≤ 4) = false := by simpa using h
    simp [T, headOk, this]
  rw [wrap_id (i := (m.size : Int) - 1) (by omega) (by omega)]
  refine Ev.ite (fun h3 => ?_) (fun h => bad _ rfl ?_)
  rotate_left
  · have : decide ((m.size : Int) = d + 1) = false := by simpa using (by omega : ¬ (m.size : Int) = d + 1)
    simp [T, this]
  refine Ev.ite (fun h => bad _ rfl ?_) (fun h4 => ?_)
  · have : decide (1 ≤ b) = false := by simpa using h
    simp [T, headOk, this]
  by_cases h5 : b > 6
  · refine bad _ (by simpa using h5) ?_
    have : decide (b ≤ 6) = false := by simpa using h5
    simp [T, headOk, this]
  have e1 : decide (0 ≤ d) = true := by simpa using h1
  have e2 : decide (d ≤ 4) = true := by simpa using h2
  have e3 : decide ((m.size : Int) = d + 1) = true := by simpa using (by omega : (m.size : Int) = d + 1)
  have e4 : decide (1 ≤ b) = true := by simpa using h4
  have e5 : decide (b ≤ 6) = true := by simpa using h5
  have f5 : decide (b > 6) = false := by simpa using h5
  rw [f5]
  have go : ∀ x, x = false → Ev (fun k => caulkerref07_Right.j1 k x b nm d m) (goodFrom b d m m.size 0) := by
    rintro x rfl
    have l := ref_loop b nm d m hm m.size 0 (by omega)
    rw [show ((0 : Nat) : Int) = 0 from rfl] at l
    exact Ev.step (fun k => by rw [caulkerref07_Right.j1]) (Ev.neg (by simp) l)
  refine Ev.step (fun k => by rw [caulkerref07_Right.j0]) (Ev.neg (by simp) ?_)
  have six : ∀ (e6 : ((b == 5) == (nm.toList != ([] : List UInt8))) = true), Ev (fun k => if b = 6 then (caulkerref07_Right.j1 k (decide (d > 0)) b nm d m) else (caulkerref07_Right.j1 k false b nm d m)) (T b nm d m) := by
    intro e6
    refine Ev.ite (fun h7 => ?_) (fun h7 => Ev.cast (go _ rfl) ?_)
    · by_cases h8 : d > 0
      · refine bad1 _ (by simpa using h8) ?_
        have : decide (d ≤ 0) = false := by simpa using h8
        simp [T, headOk, h7, this]
      · refine Ev.cast (go _ (by simpa using h8)) ?_
        have : decide (d ≤ 0) = true := by simpa using h8
        simp only [T, headOk, e1, e2, e3, e4, e5, e6, this, Bool.or_true, Bool.true_and]
    · have : (b != 6) = true := by simpa using h7
      simp only [T, headOk, e1, e2, e3, e4, e5, e6, this, Bool.true_or, Bool.true_and]
  refine Ev.ite (fun hb => Ev.ite (fun hn => bad1 _ rfl ?_) (fun hn => six ?_)) (fun hb => Ev.ite (fun hn => six ?_) (fun hn => bad1 _ rfl ?_))
  · simp [T, headOk, hb, hn]
  · simp [hb, hn]
  · simp [hb, hn]
  · have f1 : (b == 5) = false := by simpa using hb
    have f2 : (nm.toList != ([] : List UInt8)) = true := by simpa using hn
    simp [T, headOk, f1, f2]

/-! a type as it is written -/
def baseText (b : Int) (nm : ByteArray) : ByteArray := if b = 1 then (⟨#[105, 110, 116]⟩ : ByteArray) else if b = 2 then (⟨#[98, 111, 111, 108]⟩ : ByteArray) else if b = 3 then (⟨#[100, 111, 117, 98, 108, 101]⟩ : ByteArray) else if b = 4 then (⟨#[115, 116, 114]⟩ : ByteArray) else if b = 6 then (⟨#[118, 111, 105, 100]⟩ : ByteArray) else nm
def ttMark (c : Int) (s : ByteArray) : ByteArray := if c = 63 then s ++ (⟨#[63]⟩ : ByteArray) else if c = 111 then ((⟨#[79, 112, 116, 105, 111, 110, 60]⟩ : ByteArray) ++ s) ++ (⟨#[62]⟩ : ByteArray) else s
def ttFrom (m : ByteArray) : Nat → Nat → ByteArray → ByteArray
 | 0, _, s => s
 | n + 1, i, s => ttFrom m n (i + 1) (ttMark (bt m (i : Int)) (if (i : Int) > 0 then s ++ (⟨#[91, 93]⟩ : ByteArray) else s))
theorem ttMark_size (c : Int) (s : ByteArray) : s.size ≤ (ttMark c s).size ∧ (ttMark c s).size ≤ s.size + 8 := by
  have e1 : (⟨#[63]⟩ : ByteArray).size = 1 := rfl
  have e2 : (⟨#[79, 112, 116, 105, 111, 110, 60]⟩ : ByteArray).size = 7 := rfl
  have e3 : (⟨#[62]⟩ : ByteArray).size = 1 := rfl
  unfold ttMark
  split
  · rw [ByteArray.size_append, e1]; omega
  · split
    · rw [ByteArray.size_append, ByteArray.size_append, e2, e3]; omega
    · omega
theorem ttFrom_size (m : ByteArray) : ∀ n i s, s.size ≤ (ttFrom m n i s).size ∧ (ttFrom m n i s).size ≤ s.size + 10 * n
  | 0, i, s => by simp [ttFrom]
  | n + 1, i, s => by
    have e1 : (⟨#[91, 93]⟩ : ByteArray).size = 2 := rfl
    rw [ttFrom]
    have h1 := ttFrom_size m n (i + 1) (ttMark (bt m (i : Int)) (if (i : Int) > 0 then s ++ (⟨#[91, 93]⟩ : ByteArray) else s))
    have h2 := ttMark_size (bt m (i : Int)) (if (i : Int) > 0 then s ++ (⟨#[91, 93]⟩ : ByteArray) else s)
    have h3 : s.size ≤ (if (i : Int) > 0 then s ++ (⟨#[91, 93]⟩ : ByteArray) else s).size ∧ (if (i : Int) > 0 then s ++ (⟨#[91, 93]⟩ : ByteArray) else s).size ≤ s.size + 2 := by
      split
      · rw [ByteArray.size_append, e1]; omega
      · omega
    omega
theorem tt_j2 (b : Int) (nm : ByteArray) (d : Int) (m : ByteArray) (s : ByteArray) (i : Nat) (hi : i < m.size) (N I : Int) (hs : s.size ≤ 4611686018427387904) (r : ByteArray) (ih : Ev (fun k => tree_TypeText.l0 k (ttMark (bt m (i : Int)) s) N (wrap64 (I + 1)) b nm d m) r) :
    Ev (fun k => tree_TypeText.j2 k s (i : Int) N I b nm d m) r := by
  have e2 : (⟨#[79, 112, 116, 105, 111, 110, 60]⟩ : ByteArray).size = 7 := rfl
  refine Ev.step (fun k => by rw [tree_TypeText.j2]) (Ev.pos (by omega) (Ev.pos (by omega) ?_))
  unfold ttMark at ih
  refine Ev.ite (fun h => ?_) (fun h => ?_)
  · rw [if_pos h] at ih
    exact Ev.pos (by omega) ih
  · rw [if_neg h] at ih
    refine Ev.ite (fun h2 => ?_) (fun h2 => ?_)
    · rw [if_pos h2] at ih
      exact Ev.pos (by omega) (Ev.pos (by rw [ByteArray.size_append, e2]; omega) ih)
    · rw [if_neg h2] at ih
      exact ih
theorem tt_loop (b : Int) (nm : ByteArray) (d : Int) (m : ByteArray) (hm : m.size ≤ 1000000) : ∀ (n i : Nat) (s : ByteArray), i + n = m.size → s.size + 10 * n ≤ 1000000000 → Ev (fun k => tree_TypeText.l0 k s (m.size : Int) (i : Int) b nm d m) (ttFrom m n i s)
  | 0, i, s, h, hs => by
    refine Ev.step (fun k => by rw [tree_TypeText.l0]) ?_
    exact Ev.neg (by omega) (Ev.now_ _)
  | n + 1, i, s, h, hs => by
    have hw : wrap64 ((i : Int) + 1) = ((i + 1 : Nat) : Int) := wrap_succ (n := m.size) (by omega) (by omega)
    have e1 : (⟨#[91, 93]⟩ : ByteArray).size = 2 := rfl
    refine Ev.step (fun k => by rw [tree_TypeText.l0]) (Ev.pos (by omega) ?_)
    rw [ttFrom]
    refine Ev.ite (fun hi => Ev.pos (by omega) ?_) (fun hi => ?_)
    · rw [if_pos hi]
      refine tt_j2 b nm d m _ i (by omega) _ _ (by rw [ByteArray.size_append, e1]; omega) _ ?_
      rw [hw]
      have := ttMark_size (bt m (i : Int)) (s ++ (⟨#[91, 93]⟩ : ByteArray))
      rw [ByteArray.size_append, e1] at this
      exact tt_loop b nm d m hm n (i + 1) _ (by omega) (by omega)
    · rw [if_neg hi]
      refine tt_j2 b nm d m _ i (by omega) _ _ (by omega) _ ?_
      rw [hw]
      have := ttMark_size (bt m (i : Int)) s
      exact tt_loop b nm d m hm n (i + 1) _ (by omega) (by omega)
theorem text_ev (b : Int) (nm : ByteArray) (d : Int) (m : ByteArray) (hn : nm.size ≤ 1000000) (hm : m.size ≤ 1000000) : Ev (fun k => tree_TypeText.f k b nm d m) (if T b nm d m = true then ttFrom m m.size 0 (baseText b nm) else (⟨#[]⟩ : ByteArray)) := by
  unfold tree_TypeText.f
  refine Ev.bind (typed_ev b nm d m (by omega)) ?_
  refine Ev.ite (fun h => ?_) (fun h => by rw [if_neg h]; exact Ev.now_ _)
  rw [if_pos h]
  have go : ∀ s, s.size ≤ 1000000 → Ev (fun k => tree_TypeText.j0 k s b nm d m) (ttFrom m m.size 0 s) := by
    intro s hs
    exact Ev.step (fun k => by rw [tree_TypeText.j0]; rfl) (tt_loop b nm d m hm m.size 0 s (by omega) (by omega))
  have e1 : (⟨#[105, 110, 116]⟩ : ByteArray).size = 3 := rfl
  have e2 : (⟨#[98, 111, 111, 108]⟩ : ByteArray).size = 4 := rfl
  have e3 : (⟨#[100, 111, 117, 98, 108, 101]⟩ : ByteArray).size = 6 := rfl
  have e4 : (⟨#[115, 116, 114]⟩ : ByteArray).size = 3 := rfl
  have e6 : (⟨#[118, 111, 105, 100]⟩ : ByteArray).size = 4 := rfl
  unfold baseText
  refine Ev.ite (fun h => by rw [if_pos h]; exact go _ (by omega)) (fun h => ?_)
  rw [if_neg h]
  refine Ev.ite (fun h => by rw [if_pos h]; exact go _ (by omega)) (fun h => ?_)
  rw [if_neg h]
  refine Ev.ite (fun h => by rw [if_pos h]; exact go _ (by omega)) (fun h => ?_)
  rw [if_neg h]
  refine Ev.ite (fun h => by rw [if_pos h]; exact go _ (by omega)) (fun h => ?_)
  rw [if_neg h]
  refine Ev.ite (fun h => by rw [if_pos h]; exact go _ (by omega)) (fun h => ?_)
  rw [if_neg h]
  exact go _ hn
theorem toList_empty : (⟨#[]⟩ : ByteArray).toList = ([] : List UInt8) := by decide +kernel
theorem toList_q : (⟨#[63]⟩ : ByteArray).toList = ([63] : List UInt8) := by decide +kernel
theorem toList_o : (⟨#[111]⟩ : ByteArray).toList = ([111] : List UInt8) := by decide +kernel
theorem size_toList (s : ByteArray) : s.toList.length = s.size := by rw [Lib.toList_data]; exact Array.length_toList
theorem base_some {b : Int} {nm : ByteArray} {d : Int} {m : ByteArray} (h : T b nm d m = true) : 0 < (baseText b nm).size := by
  have e1 : (⟨#[105, 110, 116]⟩ : ByteArray).size = 3 := rfl
  have e2 : (⟨#[98, 111, 111, 108]⟩ : ByteArray).size = 4 := rfl
  have e3 : (⟨#[100, 111, 117, 98, 108, 101]⟩ : ByteArray).size = 6 := rfl
  have e4 : (⟨#[115, 116, 114]⟩ : ByteArray).size = 3 := rfl
  have e6 : (⟨#[118, 111, 105, 100]⟩ : ByteArray).size = 4 := rfl
  unfold baseText
  split; · omega
  split; · omega
  split; · omega
  split; · omega
  split; · omega
  simp only [T, headOk, Bool.and_eq_true, decide_eq_true_iff] at h
  have hb : b = 5 := by omega
  have hn : nm.toList ≠ [] := by
    have := h.1.2.2.2.2.1
    simpa [hb] using this
  rw [← size_toList]
  exact List.length_pos_iff.mpr hn
theorem right_ev (b : Int) (nm : ByteArray) (d : Int) (m : ByteArray) (hn : nm.size ≤ 1000000) (hm : m.size ≤ 1000000) : Ev (fun k => kind_Right.f k b nm d m) (R b nm d m) := by
  unfold kind_Right.f kind_Null.f kind_None.f
  refine Ev.bind (Ev.now_ _) ?_
  simp only [toList_empty, toList_q, toList_o]
  refine Ev.ite (fun h => Ev.cast (Ev.now_ _) (by simp only [R, isNull, h, Bool.true_or])) (fun h => Ev.bind (Ev.now_ _) ?_)
  simp only [toList_empty, toList_q, toList_o]
  have h' : isNull b nm d m = false := by simpa [isNull] using h
  refine Ev.ite (fun h2 => Ev.cast (Ev.now_ _) (by simp only [R, isNone, h2, Bool.true_or, Bool.or_true])) (fun h2 => ?_)
  have h2' : isNone b nm d m = false := by simpa [isNone] using h2
  refine Ev.bind (text_ev b nm d m hn hm) (Ev.cast (Ev.now_ _) ?_)
  rw [R, h', h2', Bool.false_or, Bool.false_or]
  by_cases ht : T b nm d m = true
  · rw [if_pos ht, ht]
    have h1 := base_some ht
    have h2 := (ttFrom_size m m.size 0 (baseText b nm)).1
    have h3 : (ttFrom m m.size 0 (baseText b nm)).toList ≠ [] := by
      intro h0
      have := size_toList (ttFrom m m.size 0 (baseText b nm))
      rw [h0] at this
      simp at this
      omega
    simpa using h3
  · rw [if_neg ht, toList_empty]
    simp [Bool.eq_false_iff.mpr ht]
end Go.Proofs.Ytljchkghnmnpgaa.Pure
