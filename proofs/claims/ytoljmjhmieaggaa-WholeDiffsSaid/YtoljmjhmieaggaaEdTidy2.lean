/- Tidying a list of edits tstep by tstep, without any program: what comes out does the same, costs no more, and is tidy; tidied once more nothing changes. -/
import Derived.Test.YtoljmjhmieaggaaM45
namespace Go.Proofs.Ytoljmjhmieaggaa.Ed
set_option linter.unusedVariables false
set_option linter.unusedSimpArgs false

def Empty' (x : E) : Prop := x.a = x.b ∧ x.t = []
instance (x : E) : Decidable (Empty' x) := by unfold Empty'; exact inferInstance
def joinE (o x : E) : E := ⟨o.a, x.b, o.t ++ x.t⟩
def tput (out : List E) (y : E) : List E := if Empty' y then out else out ++ [y]
def tstep (s : List UInt8) (out : List E) (x : E) : List E :=
  if Empty' (trimE s x) then out
  else match out.getLast? with
    | some o => if o.b = (trimE s x).a then tput out.dropLast (trimE s (joinE o (trimE s x))) else out ++ [trimE s x]
    | none => out ++ [trimE s x]
def tidy (s : List UInt8) (out : List E) (l : List E) : List E := l.foldl (tstep s) out

theorem val_append {n : Nat} : ∀ {l m : List E} {at_ : Nat}, Val n at_ (l ++ m) ↔ Val n at_ l ∧ Val n (endOf at_ l) m
  | [], m, at_ => ⟨fun h => ⟨h.le, h⟩, fun h => h.2⟩
  | x :: l, m, at_ => by
    rw [List.cons_append]
    constructor
    · rintro ⟨h1, h2, h3, h4⟩
      obtain ⟨h5, h6⟩ := val_append.1 h4
      exact ⟨⟨h1, h2, h3, h5⟩, h6⟩
    · rintro ⟨⟨h1, h2, h3, h5⟩, h6⟩
      exact ⟨h1, h2, h3, val_append.2 ⟨h5, h6⟩⟩
theorem endOf_append : ∀ (l m : List E) (at_ : Nat), endOf at_ (l ++ m) = endOf (endOf at_ l) m
  | [], m, at_ => rfl
  | x :: l, m, at_ => by rw [List.cons_append, endOf, endOf, endOf_append l m]
theorem puts_append : ∀ l m : List E, puts (l ++ m) = puts l + puts m
  | [], m => by simp [puts]
  | x :: l, m => by rw [List.cons_append, puts, puts, puts_append l m]; omega
theorem takes_append : ∀ l m : List E, takes (l ++ m) = takes l + takes m
  | [], m => by simp [takes]
  | x :: l, m => by rw [List.cons_append, takes, takes, takes_append l m]; omega

/-- Tidy: nothing alike at the ends, each changes something, none touches the next one. -/
structure Tid (s : List UInt8) (l : List E) : Prop where
  one : ∀ x ∈ l, FrontOk s x ∧ BackOk s x ∧ ¬ Empty' x
  far : ∀ (i : Nat) (h : i + 1 < l.length), l[i].b < l[i + 1].a
theorem Tid.nil (s : List UInt8) : Tid s [] := ⟨fun x hx => by simp at hx, fun i h => by simp at h⟩
theorem Tid.snoc {s : List UInt8} {l : List E} {y : E} (h : Tid s l) (hy : FrontOk s y ∧ BackOk s y ∧ ¬ Empty' y) (hf : ∀ o, l.getLast? = some o → o.b < y.a) : Tid s (l ++ [y]) := by
  refine ⟨fun x hx => ?_, fun i hi => ?_⟩
  · rcases List.mem_append.1 hx with hx | hx
    · exact h.one x hx
    · rw [List.mem_singleton.1 hx]; exact hy
  · rw [List.length_append, List.length_singleton] at hi
    by_cases h1 : i + 1 < l.length
    · rw [List.getElem_append_left h1, List.getElem_append_left (by omega)]
      exact h.far i h1
    · have e : i + 1 = l.length := by omega
      rw [List.getElem_append_right (i := i + 1) (show l.length ≤ i + 1 by omega), List.getElem_append_left (by omega)]
      have e' : l.length - 1 = i := by omega
      have := hf (l[i]'(by omega)) (by rw [List.getLast?_eq_getElem?, e', List.getElem?_eq_getElem (by omega)])
      simpa [e] using this
theorem Tid.front {s : List UInt8} {l : List E} {y : E} (h : Tid s (l ++ [y])) : Tid s l := by
  refine ⟨fun x hx => h.one x (List.mem_append_left _ hx), fun i hi => ?_⟩
  have := h.far i (by rw [List.length_append]; simp; omega)
  rwa [List.getElem_append_left hi, List.getElem_append_left (by omega)] at this
theorem Tid.last {s : List UInt8} {l : List E} {y o : E} (h : Tid s (l ++ [y])) (ho : l.getLast? = some o) : o.b < y.a := by
  rw [List.getLast?_eq_getElem?] at ho
  obtain ⟨hi, he⟩ := List.getElem?_eq_some_iff.1 ho
  have := h.far (l.length - 1) (by rw [List.length_append]; simp; omega)
  rw [List.getElem_append_left (by omega), List.getElem_append_right (by omega)] at this
  simp only [he] at this
  simpa [show l.length - 1 + 1 - l.length = 0 by omega] using this

/-- What one tstep keeps. -/
structure Kept (s : List UInt8) (out : List E) (x : E) (rest out' : List E) : Prop where
  val : Val s.length 0 (out' ++ rest)
  same : app s 0 (out' ++ rest) = app s 0 (out ++ x :: rest)
  tid : Tid s out'
  len : out'.length ≤ out.length + 1
  puts : puts out' ≤ puts out + x.t.length
  takes : takes out' ≤ takes out + (x.b - x.a)
theorem put_kept {s : List UInt8} {o' rest : List E} {x y : E} (hx : x.a ≤ x.b) (hV : Val s.length 0 (o' ++ x :: rest)) (hT : Tid s o') (hL : Like s x y) (hF : FrontOk s y ∧ BackOk s y) (hf : ∀ o, o'.getLast? = some o → o.b < y.a) : Kept s o' x rest (tput o' y) := by
  obtain ⟨v1, v2, v3, v4, v5⟩ := val_append.1 hV
  have hsw := app_swap hL v2 v4 v5
  have hb := hL.b
  have hyab := hL.ab
  have hya := hL.a
  have hlen := hL.len
  have hev := hL.even
  have hy5 : Val s.length y.b rest := v5.mono hb
  unfold tput
  by_cases he : Empty' y
  · rw [if_pos he]
    refine ⟨val_append.2 ⟨v1, v5.mono (by omega)⟩, ?_, hT, by omega, by omega, by omega⟩
    rw [app_append, app_append, ← hsw, app_drop he.1 he.2 (by omega) hy5]
  · rw [if_neg he]
    refine ⟨?_, ?_, hT.snoc ⟨hF.1, hF.2, he⟩ hf, by simp, ?_, ?_⟩
    · rw [List.append_assoc]
      exact val_append.2 ⟨v1, show endOf 0 o' ≤ y.a by omega, hyab, by omega, hy5⟩
    · rw [List.append_assoc, List.singleton_append, app_append, app_append, hsw]
    · rw [puts_append, puts, puts]; omega
    · rw [takes_append, takes, takes]; omega
theorem step_kept {s : List UInt8} {out rest : List E} {x : E} (hV : Val s.length 0 (out ++ x :: rest)) (hT : Tid s out) : Kept s out x rest (tstep s out x) := by
  obtain ⟨v1, v2, v3, v4, v5⟩ := val_append.1 hV
  have hL := trim_like s x v3
  have hF := trim_front s x
  have hB := trim_back s x v3
  unfold tstep
  by_cases he : Empty' (trimE s x)
  · rw [if_pos he]
    have hsw := app_swap hL v2 v4 v5
    have hb := hL.b
    have hya := hL.a
    have hyab := hL.ab
    refine ⟨val_append.2 ⟨v1, v5.mono (by omega)⟩, ?_, hT, by omega, by omega, by omega⟩
    rw [app_append, app_append, ← hsw, app_drop he.1 he.2 (by omega) (v5.mono hb)]
  · rw [if_neg he]
    have plain : (∀ o, out.getLast? = some o → o.b < (trimE s x).a) → Kept s out x rest (out ++ [trimE s x]) := by
      intro hf
      have := put_kept v3 hV hT hL ⟨hF, hB⟩ hf
      unfold tput at this
      rwa [if_neg he] at this
    cases hlast : out.getLast? with
    | none => exact plain (fun o ho => by rw [hlast] at ho; cases ho)
    | some o =>
      have hne : out ≠ [] := by rintro rfl; simp at hlast
      have hout : out = out.dropLast ++ [o] := by
        have := List.dropLast_concat_getLast hne
        rw [List.getLast?_eq_some_getLast hne] at hlast
        rw [← Option.some.inj hlast]
        exact this.symm
      have hole : o.b ≤ x.a := by
        rw [hout, endOf_append] at v2
        exact v2
      simp only
      by_cases hm : o.b = (trimE s x).a
      · rw [if_pos hm]
        generalize hd : out.dropLast = o' at hout ⊢
        subst hout
        have hb := hL.b
        have hyab := hL.ab
        obtain ⟨u1, u2⟩ := val_append.1 v1
        obtain ⟨w1, w2, w3, w4⟩ := u2
        -- the tstep in two: first the trimmed edit stands there, then both are one
        have hJab : (joinE o (trimE s x)).a ≤ (joinE o (trimE s x)).b := by show o.a ≤ (trimE s x).b; omega
        have hVJ : Val s.length 0 (o' ++ joinE o (trimE s x) :: rest) := val_append.2 ⟨u1, w1, hJab, show (trimE s x).b ≤ s.length by omega, v5.mono hb⟩
        have hL2 := trim_like s (joinE o (trimE s x)) hJab
        have hk := put_kept hJab hVJ hT.front hL2 ⟨trim_front s _, trim_back s _ hJab⟩ (fun p hp => Nat.lt_of_lt_of_le (hT.last hp) hL2.a)
        have hlen := hL.len
        have hev := hL.even
        have hxa := hL.a
        refine ⟨hk.val, hk.same.trans ?_, hk.tid, ?_, ?_, ?_⟩
        · rw [List.append_assoc, List.singleton_append, app_append, app_append]
          congr 1
          show app s (endOf 0 o') (joinE o (trimE s x) :: rest) = _
          rw [joinE, ← app_join hm rest, app, app]
          congr 1
          exact app_swap hL hole v4 v5
        · have := hk.len
          rw [List.length_append, List.length_singleton]
          omega
        · have : puts (tput o' (trimE s (joinE o (trimE s x)))) ≤ puts o' + (o.t ++ (trimE s x).t).length := hk.puts
          rw [List.length_append] at this
          rw [puts_append, puts, puts]
          omega
        · have : takes (tput o' (trimE s (joinE o (trimE s x)))) ≤ takes o' + ((trimE s x).b - o.a) := hk.takes
          rw [takes_append, takes, takes]
          omega
      · rw [if_neg hm]
        refine plain (fun p hp => ?_)
        rw [hlast] at hp
        obtain rfl := Option.some.inj hp
        have hxa := hL.a
        omega
/-- Step by tstep to the end. -/
theorem tidy_kept {s : List UInt8} : ∀ {l out : List E}, Val s.length 0 (out ++ l) → Tid s out →
    Val s.length 0 (tidy s out l) ∧ app s 0 (tidy s out l) = app s 0 (out ++ l) ∧ Tid s (tidy s out l) ∧ (tidy s out l).length ≤ out.length + l.length ∧ puts (tidy s out l) ≤ puts out + puts l ∧ takes (tidy s out l) ≤ takes out + takes l
  | [], out, h, hT => by
    rw [List.append_nil] at h ⊢
    exact ⟨h, rfl, hT, Nat.le_refl _, Nat.le_refl _, Nat.le_refl _⟩
  | x :: l, out, h, hT => by
    have k := step_kept h hT
    obtain ⟨h1, h2, h3, h4, h5, h6⟩ := tidy_kept k.val k.tid
    have e : tidy s out (x :: l) = tidy s (tstep s out x) l := rfl
    rw [e]
    have k4 := k.len
    have k5 := k.puts
    have k6 := k.takes
    refine ⟨h1, h2.trans k.same, h3, ?_, ?_, ?_⟩
    · rw [List.length_cons]; omega
    · rw [puts]; omega
    · rw [takes]; omega
theorem tidy_id {s : List UInt8} : ∀ {l out : List E}, Tid s (out ++ l) → tidy s out l = out ++ l
  | [], out, h => by rw [List.append_nil]; rfl
  | x :: l, out, h => by
    have e : tidy s out (x :: l) = tidy s (tstep s out x) l := rfl
    have hx := h.one x (by simp)
    have e2 : tstep s out x = out ++ [x] := by
      unfold tstep
      rw [trim_id s x hx.1 hx.2.1, if_neg hx.2.2]
      cases hlast : out.getLast? with
      | none => rfl
      | some o =>
        simp only
        rw [if_neg]
        have h1 : Tid s (out ++ [x] ++ l) := by simpa using h
        have h2 : Tid s (out ++ [x]) := ⟨fun y hy => h1.one y (List.mem_append_left _ hy), fun i hi => by
          have := h1.far i (by rw [List.length_append]; omega)
          rwa [List.getElem_append_left hi, List.getElem_append_left (by omega)] at this⟩
        have := h2.last hlast
        omega
    rw [e, e2]
    have := tidy_id (l := l) (out := out ++ [x]) (by simpa using h)
    rw [this]
    simp
end Go.Proofs.Ytoljmjhmieaggaa.Ed
