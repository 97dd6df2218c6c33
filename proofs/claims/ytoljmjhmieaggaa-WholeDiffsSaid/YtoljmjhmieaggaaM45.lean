/- What Far answers, and the head that each law asks; any texts that aren't too long. -/
import Derived.Test.YtoljmjhmieaggaaM35
import Derived.Test.YtoljmjhmieaggaaM13
import Derived.Test.YtoljmjhmieaggaaPureDiffBytes
import Derived.Test.YtoljmjhmieaggaaEdTheory
section
namespace Go.Proofs.Ytoljmjhmieaggaa.Pure
open Go.RowKit Go.Proofs.Ytoljmjhmieaggaa.X Go.Proofs.YtoljmjhmieaggaaW.PrintWords Go.Proofs.YtoljmjhmieaggaaW.PrintLast Go.Diff Go.Proofs.Ytoljmjhmieaggaa.Ed
theorem Made.check {a b : ByteArray} {l : List E} {ok : Bool} {D : Nat} (h : Made a b l ok D) (ha : a.size ≤ 65536) (hb : b.size ≤ 65536) : chkV (a.size : Int) (l.map ofE) = 0 :=
  chkV_of_val ha (by have := h.len; omega) h.val (fun x hx => by have := h.small x hx; omega)
theorem Made.cost_ev {a b : ByteArray} {l : List E} {ok : Bool} {D : Nat} (h : Made a b l ok D) (ha : a.size ≤ 65536) (hb : b.size ≤ 65536) : Ev (fun k => edit_Cost.f k (l.map ofE)) ((puts l + takes l : Nat) : Int) := by
  have := cost_any (pass_of (h.check ha hb))
  rwa [map_toE_ofE] at this
theorem Made.apply {a b : ByteArray} {l : List E} {ok : Bool} {D : Nat} (h : Made a b l ok D) (ha : a.size ≤ 65536) (hb : b.size ≤ 65536) : applyV a (l.map ofE) = (b, 0) := by
  have hc := h.check ha hb
  have hP := pass_of hc
  have hg := growI_eq hP.ok
  have hv := h.val
  have la : a.data.toList.length = a.size := Array.length_toList
  have lb : b.data.toList.length = b.size := Array.length_toList
  rw [← la] at hv
  have hL := app_length hv
  rw [h.app, la, lb] at hL
  unfold applyV
  rw [if_neg (by omega), if_pos hc, hg, map_toE_ofE, if_neg (by omega), h.app]
theorem far_ev (a b : ByteArray) (ha : a.size ≤ 16384) (hb : b.size ≤ 16384) {D : Nat} (hD : Dist (same a b) a.size b.size D) : Ev (fun k => diff_Far.f k a b) (if D ≤ 512 then ((D : Int), true) else (0, false)) := by
  obtain ⟨l, ok, D', h1, h2⟩ := bytes_ev a b ha hb
  obtain rfl := h2.dist.uniq hD
  unfold diff_Far.f
  refine Ev.bind h1 (Ev.pos rfl ?_)
  have hf := h2.far
  by_cases h : D' ≤ 512
  · rw [if_pos h]
    rw [decide_eq_true h] at hf
    subst hf
    refine Ev.pos rfl (Ev.bind (h2.cost_ev (by omega) (by omega)) (Ev.cast (Ev.now_ _) ?_))
    rw [h2.cost rfl]
  · rw [if_neg h]
    rw [decide_eq_false h] at hf
    subst hf
    exact Ev.neg (by simp) (Ev.now_ _)
theorem dist_flip {a b : ByteArray} {D : Nat} (h : Dist (same a b) a.size b.size D) : Dist (same b a) b.size a.size D := h.flip.congr fun i j _ _ => ⟨fun e => e.symm, fun e => e.symm⟩
theorem dist_then {a b c : ByteArray} {D1 D2 D3 : Nat} (h1 : Dist (same a b) a.size b.size D1) (h2 : Dist (same b c) b.size c.size D2) (h3 : Dist (same a c) a.size c.size D3) : D3 ≤ D1 + D2 := Dist.then (fun _ _ _ e1 e2 => e1.trans e2) h1 h2 h3
theorem dist_zero {a b : ByteArray} {D : Nat} (h : Dist (same a b) a.size b.size D) : D = 0 ↔ a = b := by
  constructor
  · intro h0
    obtain ⟨h1, h2⟩ := h.1.zero h0
    refine ByteArray.ext (Array.ext h1 fun i q1 q2 => ?_)
    have h3 : bt a (i : Int) = bt b (i : Int) := h2 i q1
    rw [bt_some a i q1, bt_some b i q2] at h3
    exact UInt8.toNat_inj.1 (by exact_mod_cast h3)
  · intro e
    subst e
    have h0 : Diff.Reach (same a a) a.size a.size 0 a.size a.size := by
      have := Reach.alongs (Reach.start (E := same a a) (N := a.size) (M := a.size)) a.size fun t ht => ⟨by omega, by omega, by show bt a _ = bt a _; rfl⟩
      simpa using this
    have := h.2 0 h0
    omega
theorem toList_iff {a b : ByteArray} : a.toList = b.toList ↔ a = b := by
  constructor
  · intro h
    rw [Lib.toList_data, Lib.toList_data] at h
    exact ba_ext h
  · intro h
    rw [h]
set_option maxRecDepth 100000 in
theorem finds_any : Ev (fun k => caulkerlaw04_finds.f k) true := Ev.of (fun k => caulkerlaw04_finds.mono k) (k := 40) (by decide +kernel)
end Go.Proofs.Ytoljmjhmieaggaa.Pure
end
section
namespace Go.Proofs.Ytoljmjhmieaggaa.Ed
set_option linter.unusedVariables false
set_option linter.unusedSimpArgs false

/-- Without what stands alike in front, as far as n bytes. -/
def tf (s : List UInt8) : Nat → E → E
  | 0, x => x
  | n + 1, x => if x.a < x.b ∧ x.t ≠ [] ∧ s[x.a]? = x.t.head? then tf s n ⟨x.a + 1, x.b, x.t.tail⟩ else x
/-- .. and behind. -/
def tb (s : List UInt8) : Nat → E → E
  | 0, x => x
  | n + 1, x => if x.a < x.b ∧ x.t ≠ [] ∧ s[x.b - 1]? = x.t.getLast? then tb s n ⟨x.a, x.b - 1, x.t.dropLast⟩ else x
def trimE (s : List UInt8) (x : E) : E := tb s (x.b - x.a) (tf s (x.b - x.a) x)

/-- One edit does what another one does, within its span, and costs no more. -/
structure Like (s : List UInt8) (x y : E) : Prop where
  a : x.a ≤ y.a
  ab : y.a ≤ y.b
  b : y.b ≤ x.b
  eff : s.take y.a ++ y.t ++ s.drop y.b = s.take x.a ++ x.t ++ s.drop x.b
  len : y.t.length ≤ x.t.length
  even : y.t.length + (x.b - x.a) = x.t.length + (y.b - y.a)
theorem Like.refl (s : List UInt8) (x : E) (h : x.a ≤ x.b) : Like s x x := ⟨Nat.le_refl _, h, Nat.le_refl _, rfl, Nat.le_refl _, rfl⟩
theorem Like.trans {s : List UInt8} {x y z : E} (h : Like s x y) (k : Like s y z) : Like s x z :=
  ⟨Nat.le_trans h.a k.a, k.ab, Nat.le_trans k.b h.b, k.eff.trans h.eff, Nat.le_trans k.len h.len, by have := h.even; have := k.even; have := h.ab; have := h.a; have := h.b; have := k.a; have := k.b; have := k.ab; omega⟩
theorem take_succ' {s : List UInt8} {i : Nat} {c : UInt8} (h : s[i]? = some c) : s.take (i + 1) = s.take i ++ [c] := by
  rw [List.take_add_one, h]
  rfl
theorem drop_pred {s : List UInt8} {i : Nat} {c : UInt8} (h : s[i]? = some c) : s.drop i = c :: s.drop (i + 1) := by
  obtain ⟨hi, rfl⟩ := List.getElem?_eq_some_iff.1 h
  exact List.drop_eq_getElem_cons hi
theorem tf_like (s : List UInt8) : ∀ (n : Nat) (x : E), x.a ≤ x.b → Like s x (tf s n x)
  | 0, x, h => Like.refl s x h
  | n + 1, x, h => by
    rw [tf]
    by_cases hc : x.a < x.b ∧ x.t ≠ [] ∧ s[x.a]? = x.t.head?
    · rw [if_pos hc]
      obtain ⟨h1, h2, h3⟩ := hc
      obtain ⟨c, t, ht⟩ := List.exists_cons_of_ne_nil h2
      rw [ht, List.head?_cons] at h3
      refine Like.trans ?_ (tf_like s n ⟨x.a + 1, x.b, x.t.tail⟩ (by show x.a + 1 ≤ x.b; omega))
      refine ⟨by show x.a ≤ x.a + 1; omega, by show x.a + 1 ≤ x.b; omega, Nat.le_refl _, ?_, by rw [ht]; simp, by rw [ht]; simp; omega⟩
      show s.take (x.a + 1) ++ x.t.tail ++ s.drop x.b = _
      rw [take_succ' h3, ht]
      simp
    · rw [if_neg hc]
      exact Like.refl s x h
theorem tb_like (s : List UInt8) : ∀ (n : Nat) (x : E), x.a ≤ x.b → Like s x (tb s n x)
  | 0, x, h => Like.refl s x h
  | n + 1, x, h => by
    rw [tb]
    by_cases hc : x.a < x.b ∧ x.t ≠ [] ∧ s[x.b - 1]? = x.t.getLast?
    · rw [if_pos hc]
      obtain ⟨h1, h2, h3⟩ := hc
      have ht := List.dropLast_concat_getLast h2
      rw [List.getLast?_eq_some_getLast h2] at h3
      have hlen : x.t.length = x.t.dropLast.length + 1 := by rw [List.length_dropLast]; have := List.length_pos_iff.2 h2; omega
      refine Like.trans ?_ (tb_like s n ⟨x.a, x.b - 1, x.t.dropLast⟩ (by show x.a ≤ x.b - 1; omega))
      refine ⟨Nat.le_refl _, by show x.a ≤ x.b - 1; omega, by show x.b - 1 ≤ x.b; omega, ?_, by show x.t.dropLast.length ≤ _; omega, by show x.t.dropLast.length + _ = _ + (x.b - 1 - x.a); omega⟩
      show s.take x.a ++ x.t.dropLast ++ s.drop (x.b - 1) = _
      rw [drop_pred h3, show x.b - 1 + 1 = x.b by omega]
      conv => rhs; rw [← ht]
      simp
    · rw [if_neg hc]
      exact Like.refl s x h
/-- Nothing stands alike at an edit's ends. -/
def FrontOk (s : List UInt8) (x : E) : Prop := x.a < x.b → x.t ≠ [] → s[x.a]? ≠ x.t.head?
def BackOk (s : List UInt8) (x : E) : Prop := x.a < x.b → x.t ≠ [] → s[x.b - 1]? ≠ x.t.getLast?
theorem tf_front (s : List UInt8) : ∀ (n : Nat) (x : E), x.b - x.a ≤ n → FrontOk s (tf s n x)
  | 0, x, h => fun h1 => by rw [tf] at h1; omega
  | n + 1, x, h => by
    rw [tf]
    by_cases hc : x.a < x.b ∧ x.t ≠ [] ∧ s[x.a]? = x.t.head?
    · rw [if_pos hc]
      exact tf_front s n _ (by show x.b - (x.a + 1) ≤ n; omega)
    · rw [if_neg hc]
      exact fun h1 h2 h3 => hc ⟨h1, h2, h3⟩
theorem tb_back (s : List UInt8) : ∀ (n : Nat) (x : E), x.b - x.a ≤ n → BackOk s (tb s n x)
  | 0, x, h => fun h1 => by rw [tb] at h1; omega
  | n + 1, x, h => by
    rw [tb]
    by_cases hc : x.a < x.b ∧ x.t ≠ [] ∧ s[x.b - 1]? = x.t.getLast?
    · rw [if_pos hc]
      exact tb_back s n _ (by show x.b - 1 - x.a ≤ n; omega)
    · rw [if_neg hc]
      exact fun h1 h2 h3 => hc ⟨h1, h2, h3⟩
theorem tb_front (s : List UInt8) : ∀ (n : Nat) (x : E), FrontOk s x → FrontOk s (tb s n x)
  | 0, x, h => h
  | n + 1, x, h => by
    rw [tb]
    by_cases hc : x.a < x.b ∧ x.t ≠ [] ∧ s[x.b - 1]? = x.t.getLast?
    · rw [if_pos hc]
      refine tb_front s n _ ?_
      intro h1 h2 h3
      have h2' : x.t.dropLast ≠ [] := h2
      have h3' : s[x.a]? = x.t.dropLast.head? := h3
      refine h hc.1 hc.2.1 (h3'.trans ?_)
      obtain ⟨c, t, ht⟩ := List.exists_cons_of_ne_nil hc.2.1
      rw [ht] at h2' ⊢
      cases t with
      | nil => simp at h2'
      | cons d t => simp
    · rw [if_neg hc]
      exact h
theorem trim_like (s : List UInt8) (x : E) (h : x.a ≤ x.b) : Like s x (trimE s x) := (tf_like s _ x h).trans (tb_like s _ _ (tf_like s _ x h).ab)
theorem trim_front (s : List UInt8) (x : E) : FrontOk s (trimE s x) := tb_front s _ _ (tf_front s _ x (Nat.le_refl _))
theorem trim_back (s : List UInt8) (x : E) (h : x.a ≤ x.b) : BackOk s (trimE s x) := by
  refine tb_back s _ _ ?_
  have := tf_like s (x.b - x.a) x h
  have := this.a
  have := ‹Like s x (tf s (x.b - x.a) x)›.b
  omega
theorem tf_id (s : List UInt8) (x : E) (h : FrontOk s x) : ∀ n, tf s n x = x
  | 0 => rfl
  | n + 1 => by rw [tf, if_neg (fun hc => h hc.1 hc.2.1 hc.2.2)]
theorem tb_id (s : List UInt8) (x : E) (h : BackOk s x) : ∀ n, tb s n x = x
  | 0 => rfl
  | n + 1 => by rw [tb, if_neg (fun hc => h hc.1 hc.2.1 hc.2.2)]
theorem trim_id (s : List UInt8) (x : E) (h : FrontOk s x) (h' : BackOk s x) : trimE s x = x := by rw [trimE, tf_id s x h, tb_id s x h']

/-! What an edit does among others. -/
/-- The text's beginning, up to the last edit's end, behind edits. -/
def pre (s : List UInt8) : Nat → List E → List UInt8
  | _, [] => []
  | at_, x :: l => (s.drop at_).take (x.a - at_) ++ x.t ++ pre s x.b l
def endOf : Nat → List E → Nat
  | at_, [] => at_
  | _, x :: l => endOf x.b l
theorem app_append (s : List UInt8) : ∀ (l m : List E) (at_ : Nat), app s at_ (l ++ m) = pre s at_ l ++ app s (endOf at_ l) m
  | [], m, at_ => by simp [pre, endOf]
  | x :: l, m, at_ => by
    rw [List.cons_append, app, pre, endOf, app_append s l m]
    simp [List.append_assoc]
theorem app_swap {s : List UInt8} {x y : E} {at_ : Nat} (h : Like s x y) (hat : at_ ≤ x.a) (hb : x.b ≤ s.length) {l : List E} (hl : Val s.length x.b l) : app s at_ (y :: l) = app s at_ (x :: l) := by
  have hyb : y.b ≤ s.length := Nat.le_trans h.b hb
  -- what stands from an edit's end on, behind the rest
  have key : ∀ z : E, at_ ≤ z.a → z.a ≤ z.b → z.b ≤ x.b → app s at_ (z :: l) ++ [] = (s.drop at_).take (z.a - at_) ++ z.t ++ ((s.drop z.b).take (x.b - z.b) ++ app s x.b l) := by
    intro z h1 h2 h3
    rw [List.append_nil, app]
    congr 1
    cases l with
    | nil =>
      rw [app, app]
      have := List.take_append_drop (x.b - z.b) (s.drop z.b)
      rw [List.drop_drop, show z.b + (x.b - z.b) = x.b by omega] at this
      exact this.symm
    | cons u l =>
      have h4 : x.b ≤ u.a := hl.1
      rw [app, app]
      have : (s.drop z.b).take (u.a - z.b) = (s.drop z.b).take (x.b - z.b) ++ (s.drop x.b).take (u.a - x.b) := by
        rw [show u.a - z.b = (x.b - z.b) + (u.a - x.b) by omega, List.take_add, List.drop_drop, show z.b + (x.b - z.b) = x.b by omega]
      rw [this]
      simp [List.append_assoc]
  have hx := key x hat (Nat.le_trans h.a (Nat.le_trans h.ab h.b)) (Nat.le_refl _)
  have hy := key y (Nat.le_trans hat h.a) h.ab h.b
  rw [List.append_nil] at hx hy
  rw [hx, hy]
  rw [show x.b - x.b = 0 by omega, List.take_zero, List.nil_append]
  rw [← List.append_assoc]
  congr 1
  -- both, with the text's beginning and end laid round
  have e1 : s.take at_ ++ ((s.drop at_).take (y.a - at_) ++ y.t ++ (s.drop y.b).take (x.b - y.b)) ++ s.drop x.b = s.take at_ ++ ((s.drop at_).take (x.a - at_) ++ x.t) ++ s.drop x.b := by
    have a1 := take_drop_take s (Nat.le_trans hat h.a)
    have a2 := take_drop_take s hat
    have a3 : (s.drop y.b).take (x.b - y.b) ++ s.drop x.b = s.drop y.b := by
      have := List.take_append_drop (x.b - y.b) (s.drop y.b)
      have hle := h.b
      rwa [List.drop_drop, show y.b + (x.b - y.b) = x.b by omega] at this
    calc s.take at_ ++ ((s.drop at_).take (y.a - at_) ++ y.t ++ (s.drop y.b).take (x.b - y.b)) ++ s.drop x.b
        = (s.take at_ ++ (s.drop at_).take (y.a - at_)) ++ y.t ++ ((s.drop y.b).take (x.b - y.b) ++ s.drop x.b) := by simp [List.append_assoc]
      _ = s.take y.a ++ y.t ++ s.drop y.b := by rw [a1, a3]
      _ = s.take x.a ++ x.t ++ s.drop x.b := h.eff
      _ = (s.take at_ ++ (s.drop at_).take (x.a - at_)) ++ x.t ++ s.drop x.b := by rw [a2]
      _ = _ := by simp [List.append_assoc]
  exact List.append_cancel_left (List.append_cancel_right e1)
/-- An edit that changes nothing. -/
theorem app_drop {s : List UInt8} {x : E} {at_ : Nat} (h1 : x.a = x.b) (h2 : x.t = []) (hat : at_ ≤ x.a) {l : List E} (hl : Val s.length x.b l) : app s at_ (x :: l) = app s at_ l := by
  rw [app, h2, List.append_nil]
  cases l with
  | nil =>
    rw [app, app]
    have := List.take_append_drop (x.a - at_) (s.drop at_)
    rw [List.drop_drop, show at_ + (x.a - at_) = x.b by omega] at this
    exact this
  | cons u l =>
    have h4 : x.b ≤ u.a := hl.1
    rw [app, app, h1, ← List.append_assoc, ← List.append_assoc]
    congr 2
    rw [show u.a - at_ = (x.b - at_) + (u.a - x.b) by omega, List.take_add, List.drop_drop, show at_ + (x.b - at_) = x.b by omega]
/-- Two edits that touch, as one. -/
theorem app_join {s : List UInt8} {x y : E} {at_ : Nat} (h : x.b = y.a) (l : List E) : app s at_ (x :: y :: l) = app s at_ (⟨x.a, y.b, x.t ++ y.t⟩ :: l) := by
  rw [app, app, app, h]
  simp
end Go.Proofs.Ytoljmjhmieaggaa.Ed
end
