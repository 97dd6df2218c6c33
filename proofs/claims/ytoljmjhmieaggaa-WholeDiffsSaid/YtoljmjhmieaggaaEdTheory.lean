/- Edits of a list of bytes, without any program: making them, taking them back, what they cost; no condition beyond those named. -/
import Derived.Test.YtoljmjhmieaggaaM36
namespace Go.Proofs.Ytoljmjhmieaggaa.Ed
set_option linter.unusedVariables false
set_option linter.unusedSimpArgs false

/-- An edit: from, to, and what stands there then. -/
structure E where
  a : Nat
  b : Nat
  t : List UInt8

/-- The text's rest from at on, behind edits. -/
def app (s : List UInt8) : Nat → List E → List UInt8
  | at_, [] => s.drop at_
  | at_, x :: l => (s.drop at_).take (x.a - at_) ++ x.t ++ app s x.b l
/-- They stand in order, from at on, within n. -/
def Val (n : Nat) : Nat → List E → Prop
  | at_, [] => at_ ≤ n
  | at_, x :: l => at_ ≤ x.a ∧ x.a ≤ x.b ∧ x.b ≤ n ∧ Val n x.b l
theorem Val.le {n : Nat} : ∀ {l : List E} {at_ : Nat}, Val n at_ l → at_ ≤ n
  | [], _, h => h
  | x :: l, _, h => by obtain ⟨h1, h2, h3, _⟩ := h; omega
theorem Val.mono {n : Nat} : ∀ {l : List E} {at_ at' : Nat}, Val n at_ l → at' ≤ at_ → Val n at' l
  | [], _, _, h, hle => Nat.le_trans hle h
  | x :: l, _, _, h, hle => ⟨Nat.le_trans hle h.1, h.2⟩
/-- What is put in, and what is taken away. -/
def puts : List E → Nat
  | [] => 0
  | x :: l => x.t.length + puts l
def takes : List E → Nat
  | [] => 0
  | x :: l => (x.b - x.a) + takes l
theorem app_length {s : List UInt8} : ∀ {l : List E} {at_ : Nat}, Val s.length at_ l → (app s at_ l).length + takes l + at_ = s.length + puts l
  | [], at_, h => by simp [app, takes, puts]; have : at_ ≤ s.length := h; omega
  | x :: l, at_, h => by
    obtain ⟨h1, h2, h3, h4⟩ := h
    have ih := app_length h4
    simp only [app, takes, puts, List.length_append, List.length_take, List.length_drop]
    omega
/-- From the last one on: each on its own. -/
def splice (x : E) (s : List UInt8) : List UInt8 := s.take x.a ++ x.t ++ s.drop x.b
def rapp (s : List UInt8) : List E → List UInt8
  | [] => s
  | x :: l => splice x (rapp s l)
theorem take_drop_take (s : List UInt8) {i j : Nat} (h : i ≤ j) : s.take i ++ (s.drop i).take (j - i) = s.take j := by
  conv => rhs; rw [show j = i + (j - i) by omega, List.take_add]
theorem rapp_eq {s : List UInt8} : ∀ {l : List E} {at_ : Nat}, Val s.length at_ l → rapp s l = s.take at_ ++ app s at_ l
  | [], at_, h => by simp [rapp, app]
  | x :: l, at_, h => by
    obtain ⟨h1, h2, h3, h4⟩ := h
    have ih := rapp_eq h4
    simp only [rapp, splice, ih, app]
    have e1 : (s.take x.b).length = x.b := by rw [List.length_take]; omega
    rw [List.take_append_of_le_length (by rw [e1]; exact h2), List.take_take, Nat.min_eq_left h2, List.drop_append_of_le_length (by rw [e1]; exact Nat.le_refl _), List.drop_of_length_le (by rw [e1]; exact Nat.le_refl _), List.nil_append]
    rw [← take_drop_take s h1]
    simp [List.append_assoc]
theorem rapp_take {s : List UInt8} {l : List E} (h : Val s.length 0 l) : rapp s l = app s 0 l := by
  rw [rapp_eq h]; simp

/-- Taken back: at' is where the place at is behind the edits. -/
def inv (s : List UInt8) : Nat → Nat → List E → List E
  | _, _, [] => []
  | at_, at', x :: l => ⟨at' + (x.a - at_), at' + (x.a - at_) + x.t.length, (s.drop x.a).take (x.b - x.a)⟩ :: inv s x.b (at' + (x.a - at_) + x.t.length) l
theorem inv_length (s : List UInt8) : ∀ (l : List E) (at_ at' : Nat), (inv s at_ at' l).length = l.length
  | [], _, _ => rfl
  | x :: l, at_, at' => by simp [inv, inv_length s l]
theorem inv_val {s : List UInt8} : ∀ {l : List E} {at_ at' : Nat} {n : Nat}, Val s.length at_ l → at' + (app s at_ l).length ≤ n → Val n at' (inv s at_ at' l)
  | [], at_, at', n, h, hn => by simp [inv, Val]; omega
  | x :: l, at_, at', n, h, hn => by
    obtain ⟨h1, h2, h3, h4⟩ := h
    simp only [app, List.length_append, List.length_take, List.length_drop] at hn
    exact ⟨show at' ≤ at' + (x.a - at_) by omega, show at' + (x.a - at_) ≤ at' + (x.a - at_) + x.t.length by omega, show at' + (x.a - at_) + x.t.length ≤ n by omega, inv_val (at' := at' + (x.a - at_) + x.t.length) h4 (by omega)⟩
theorem drop_three (p q r : List UInt8) : (p ++ q ++ r).drop (p.length + q.length) = r := by
  rw [List.drop_append_of_le_length (by simp), List.drop_of_length_le (by simp), List.nil_append]
theorem app_inv {s : List UInt8} : ∀ {l : List E} {at_ : Nat} (p : List UInt8), Val s.length at_ l → app (p ++ app s at_ l) p.length (inv s at_ p.length l) = s.drop at_
  | [], at_, p, h => by simp [inv, app]
  | x :: l, at_, p, h => by
    obtain ⟨h1, h2, h3, h4⟩ := h
    have e1 : ((s.drop at_).take (x.a - at_)).length = x.a - at_ := by rw [List.length_take, List.length_drop]; omega
    have ih := app_inv (p ++ (s.drop at_).take (x.a - at_) ++ x.t) h4
    have e2 : (p ++ (s.drop at_).take (x.a - at_) ++ x.t).length = p.length + (x.a - at_) + x.t.length := by simp only [List.length_append, e1]
    rw [e2] at ih
    simp only [inv, app]
    have e3 : p ++ ((s.drop at_).take (x.a - at_) ++ x.t ++ app s x.b l) = p ++ (s.drop at_).take (x.a - at_) ++ x.t ++ app s x.b l := by simp [List.append_assoc]
    rw [e3, ih]
    have e4 : List.drop p.length (p ++ (s.drop at_).take (x.a - at_) ++ x.t ++ app s x.b l) = (s.drop at_).take (x.a - at_) ++ (x.t ++ app s x.b l) := by
      rw [List.append_assoc, List.append_assoc, List.drop_append_of_le_length (Nat.le_refl _), List.drop_length, List.nil_append]
    rw [e4, show p.length + (x.a - at_) - p.length = x.a - at_ by omega, List.take_append_of_le_length (by rw [e1]; exact Nat.le_refl _), List.take_of_length_le (by rw [e1]; exact Nat.le_refl _)]
    have e5 : (s.drop x.a).take (x.b - x.a) ++ s.drop x.b = s.drop x.a := by
      have := List.take_append_drop (x.b - x.a) (s.drop x.a)
      rwa [List.drop_drop, show x.a + (x.b - x.a) = x.b by omega] at this
    have e6 : (s.drop at_).take (x.a - at_) ++ s.drop x.a = s.drop at_ := by
      have := List.take_append_drop (x.a - at_) (s.drop at_)
      rwa [List.drop_drop, show at_ + (x.a - at_) = x.a by omega] at this
    rw [List.append_assoc, e5, e6]
theorem inv_inv {s : List UInt8} : ∀ {l : List E} {at_ : Nat} (p : List UInt8), Val s.length at_ l → inv (p ++ app s at_ l) p.length at_ (inv s at_ p.length l) = l
  | [], at_, p, h => rfl
  | x :: l, at_, p, h => by
    obtain ⟨h1, h2, h3, h4⟩ := h
    have e1 : ((s.drop at_).take (x.a - at_)).length = x.a - at_ := by rw [List.length_take, List.length_drop]; omega
    have ih := inv_inv (p ++ (s.drop at_).take (x.a - at_) ++ x.t) h4
    have e2 : (p ++ (s.drop at_).take (x.a - at_) ++ x.t).length = p.length + (x.a - at_) + x.t.length := by simp only [List.length_append, e1]
    rw [e2] at ih
    simp only [inv, app]
    have e3 : p ++ ((s.drop at_).take (x.a - at_) ++ x.t ++ app s x.b l) = p ++ (s.drop at_).take (x.a - at_) ++ x.t ++ app s x.b l := by simp [List.append_assoc]
    have e7 : ((s.drop x.a).take (x.b - x.a)).length = x.b - x.a := by rw [List.length_take, List.length_drop]; omega
    rw [e3, e7, show at_ + (p.length + (x.a - at_) - p.length) = x.a by omega, show x.a + (x.b - x.a) = x.b by omega, ih]
    have e8 : List.take (p.length + (x.a - at_) + x.t.length - (p.length + (x.a - at_))) (List.drop (p.length + (x.a - at_)) (p ++ (s.drop at_).take (x.a - at_) ++ x.t ++ app s x.b l)) = x.t := by
      have e9 : p.length + (x.a - at_) = p.length + ((s.drop at_).take (x.a - at_)).length := by rw [e1]
      rw [e9, show p ++ (s.drop at_).take (x.a - at_) ++ x.t ++ app s x.b l = p ++ (s.drop at_).take (x.a - at_) ++ (x.t ++ app s x.b l) by simp [List.append_assoc], drop_three, Nat.add_sub_cancel_left, List.take_append_of_le_length (Nat.le_refl _), List.take_length]
    rw [e8]
theorem inv_puts {s : List UInt8} : ∀ {l : List E} {at_ at' : Nat}, Val s.length at_ l → puts (inv s at_ at' l) = takes l
  | [], _, _, _ => rfl
  | x :: l, at_, at', h => by
    obtain ⟨h1, h2, h3, h4⟩ := h
    simp only [inv, puts, takes, inv_puts h4, List.length_take, List.length_drop]
    omega
theorem inv_takes {s : List UInt8} : ∀ (l : List E) (at_ at' : Nat), takes (inv s at_ at' l) = puts l
  | [], _, _ => rfl
  | x :: l, at_, at' => by
    simp only [inv, puts, takes, inv_takes]
    omega
end Go.Proofs.Ytoljmjhmieaggaa.Ed
