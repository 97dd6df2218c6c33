/- One step for two, without any program: what a text is made of, cut again, and the edits that make it; no condition beyond those named. -/
import Derived.Test.YtoljmjhmieaggaaM45
namespace Go.Proofs.Ytoljmjhmieaggaa.Ed
set_option linter.unusedVariables false
set_option linter.unusedSimpArgs false

/-- Bytes of the text from f on, or bytes that were put in. -/
structure Pc where
  t : List UInt8
  f : Option Nat
def flat : List Pc → List UInt8
  | [] => []
  | p :: l => p.t ++ flat l
/-- A piece's bytes, each with its place. -/
def labF (f : Nat) : List UInt8 → List (UInt8 × Option Nat)
  | [] => []
  | c :: t => (c, some f) :: labF (f + 1) t
def labN : List UInt8 → List (UInt8 × Option Nat)
  | [] => []
  | c :: t => (c, none) :: labN t
def lab1 (p : Pc) : List (UInt8 × Option Nat) := match p.f with | none => labN p.t | some f => labF f p.t
def lab : List Pc → List (UInt8 × Option Nat)
  | [] => []
  | p :: l => lab1 p ++ lab l
theorem labF_length : ∀ (t : List UInt8) (f : Nat), (labF f t).length = t.length
  | [], _ => rfl
  | c :: t, f => by rw [labF, List.length_cons, labF_length t, List.length_cons]
theorem labN_length : ∀ t : List UInt8, (labN t).length = t.length
  | [] => rfl
  | c :: t => by rw [labN, List.length_cons, labN_length t, List.length_cons]
theorem lab1_length (p : Pc) : (lab1 p).length = p.t.length := by
  unfold lab1
  cases p.f with
  | none => exact labN_length _
  | some f => exact labF_length _ _
theorem labF_drop : ∀ (t : List UInt8) (f i : Nat), (labF f t).drop i = labF (f + i) (t.drop i)
  | t, f, 0 => by simp
  | [], f, i + 1 => by simp [labF]
  | c :: t, f, i + 1 => by rw [labF, List.drop_succ_cons, List.drop_succ_cons, labF_drop t, show f + 1 + i = f + (i + 1) by omega]
theorem labF_take : ∀ (t : List UInt8) (f i : Nat), (labF f t).take i = labF f (t.take i)
  | t, f, 0 => by simp [labF]
  | [], f, i + 1 => by simp [labF]
  | c :: t, f, i + 1 => by rw [labF, List.take_succ_cons, List.take_succ_cons, labF, labF_take t]
theorem labN_drop : ∀ (t : List UInt8) (i : Nat), (labN t).drop i = labN (t.drop i)
  | t, 0 => by simp
  | [], i + 1 => by simp [labN]
  | c :: t, i + 1 => by rw [labN, List.drop_succ_cons, List.drop_succ_cons, labN_drop t]
theorem labN_take : ∀ (t : List UInt8) (i : Nat), (labN t).take i = labN (t.take i)
  | t, 0 => by simp [labN]
  | [], i + 1 => by simp [labN]
  | c :: t, i + 1 => by rw [labN, List.take_succ_cons, List.take_succ_cons, labN, labN_take t]
theorem lab_append : ∀ l m : List Pc, lab (l ++ m) = lab l ++ lab m
  | [], m => rfl
  | p :: l, m => by rw [List.cons_append, lab, lab, lab_append l m, List.append_assoc]
theorem flat_append : ∀ l m : List Pc, flat (l ++ m) = flat l ++ flat m
  | [], m => rfl
  | p :: l, m => by rw [List.cons_append, flat, flat, flat_append l m, List.append_assoc]
theorem lab_fst : ∀ l : List Pc, (lab l).map (·.1) = flat l
  | [] => rfl
  | p :: l => by
    rw [lab, flat, List.map_append, lab_fst l]
    congr 1
    unfold lab1
    have hF : ∀ (t : List UInt8) (f : Nat), (labF f t).map (·.1) = t := by
      intro t
      induction t with
      | nil => intro f; rfl
      | cons c t ih => intro f; rw [labF, List.map_cons, ih]
    have hN : ∀ t : List UInt8, (labN t).map (·.1) = t := by
      intro t
      induction t with
      | nil => rfl
      | cons c t ih => rw [labN, List.map_cons, ih]
    cases p.f with
    | none => exact hN _
    | some f => exact hF _ _

/-- The bytes from lo up to hi of pieces that begin at pos. -/
def cutP (lo hi : Nat) : Nat → List Pc → List Pc
  | _, [] => []
  | pos, p :: l => (if lo - pos < min (hi - pos) p.t.length then [⟨(p.t.drop (lo - pos)).take (min (hi - pos) p.t.length - (lo - pos)), p.f.map (· + (lo - pos))⟩] else []) ++ cutP lo hi (pos + p.t.length) l
theorem lab1_cut (p : Pc) (i j : Nat) (h : i < j) (hj : j ≤ p.t.length) : lab1 ⟨(p.t.drop i).take (j - i), p.f.map (· + i)⟩ = ((lab1 p).drop i).take (j - i) := by
  unfold lab1
  cases p.f with
  | none => simp only [Option.map_none]; rw [labN_drop, labN_take]
  | some f => simp only [Option.map_some]; rw [labF_drop, labF_take]
theorem lab_cut (lo hi : Nat) : ∀ (l : List Pc) (pos : Nat), lab (cutP lo hi pos l) = ((lab l).take (hi - pos)).drop (lo - pos)
  | [], pos => by simp [cutP, lab]
  | p :: l, pos => by
    have ih := lab_cut lo hi l (pos + p.t.length)
    rw [cutP, lab_append, ih, lab]
    have hl := lab1_length p
    rw [List.take_append, List.drop_append, hl]
    have e1 : hi - pos - p.t.length = hi - (pos + p.t.length) := by omega
    rw [e1]
    congr 1
    · by_cases h : lo - pos < min (hi - pos) p.t.length
      · rw [if_pos h, lab, lab, List.append_nil, lab1_cut p _ _ h (Nat.min_le_right _ _), List.drop_take, List.take_eq_take_iff, List.length_drop, hl]
        omega
      · rw [if_neg h, lab, List.drop_eq_nil_of_le (by rw [List.length_take, hl]; omega)]
    · rw [List.length_take, hl]
      by_cases h : hi - pos ≤ p.t.length
      · rw [show hi - (pos + p.t.length) = 0 by omega]; simp
      · congr 1
        omega

/-! What others make of labelled bytes. -/
def preL (z : List (UInt8 × Option Nat)) : Nat → List E → List (UInt8 × Option Nat)
  | _, [] => []
  | at_, x :: l => (z.drop at_).take (x.a - at_) ++ labN x.t ++ preL z x.b l
def new1 (t : List UInt8) : List Pc := if t = [] then [] else [⟨t, none⟩]
theorem lab_new1 (t : List UInt8) : lab (new1 t) = labN t := by
  unfold new1
  by_cases h : t = []
  · rw [if_pos h, h]; rfl
  · rw [if_neg h, lab, lab, List.append_nil]; rfl
def pcs (s : List UInt8) : Nat → List E → List Pc
  | _, [] => []
  | at_, x :: l => (if at_ < x.a then [⟨(s.drop at_).take (x.a - at_), some at_⟩] else []) ++ new1 x.t ++ pcs s x.b l
theorem lab_pcs (s : List UInt8) : ∀ (l : List E) (at_ : Nat), lab (pcs s at_ l) = preL (labF 0 s) at_ l
  | [], _ => rfl
  | x :: l, at_ => by
    rw [pcs, preL, lab_append, lab_append, lab_new1, lab_pcs s l, labF_drop, labF_take, Nat.zero_add]
    congr 2
    by_cases h : at_ < x.a
    · rw [if_pos h, lab, lab, List.append_nil]; rfl
    · rw [if_neg h, show x.a - at_ = 0 by omega, List.take_zero]; rfl
def thn (ps : List Pc) : Nat → List E → List Pc
  | _, [] => []
  | at_, x :: l => cutP at_ x.a 0 ps ++ new1 x.t ++ thn ps x.b l
theorem lab_thn (ps : List Pc) : ∀ (l : List E) (at_ : Nat), lab (thn ps at_ l) = preL (lab ps) at_ l
  | [], _ => rfl
  | x :: l, at_ => by rw [thn, preL, lab_append, lab_append, lab_new1, lab_thn ps l, lab_cut, Nat.sub_zero, Nat.sub_zero, List.drop_take]
theorem labN_fst : ∀ t : List UInt8, (labN t).map (·.1) = t
  | [] => rfl
  | c :: t => by rw [labN, List.map_cons, labN_fst]
theorem labF_fst : ∀ (t : List UInt8) (f : Nat), (labF f t).map (·.1) = t
  | [], _ => rfl
  | c :: t, f => by rw [labF, List.map_cons, labF_fst]
theorem preL_fst (z : List (UInt8 × Option Nat)) : ∀ (l : List E) (at_ : Nat), (preL z at_ l).map (·.1) = pre (z.map (·.1)) at_ l
  | [], _ => rfl
  | x :: l, at_ => by rw [preL, pre, List.map_append, List.map_append, labN_fst, preL_fst z l, List.map_take, List.map_drop]
theorem pre_end (s : List UInt8) : ∀ (l : List E) (at_ : Nat), pre s at_ (l ++ [⟨s.length, s.length, []⟩]) = app s at_ l
  | [], at_ => by
    rw [List.nil_append, pre, pre, app, List.append_nil, List.append_nil]
    exact List.take_of_length_le (by simp)
  | x :: l, at_ => by rw [List.cons_append, pre, app, pre_end s l]

/-! The bytes that stayed. -/
def kept (l : List (UInt8 × Option Nat)) : List (UInt8 × Nat) := l.filterMap fun p => p.2.map (p.1, ·)
theorem kept_append (l m : List (UInt8 × Option Nat)) : kept (l ++ m) = kept l ++ kept m := List.filterMap_append
theorem kept_le (l : List (UInt8 × Option Nat)) : (kept l).length ≤ l.length := List.length_filterMap_le _ _
theorem kept_labN : ∀ t : List UInt8, kept (labN t) = []
  | [] => rfl
  | c :: t => by rw [labN]; exact kept_labN t
theorem kept_labF (c : UInt8) (t : List UInt8) (f : Nat) : kept (labF f (c :: t)) = (c, f) :: kept (labF (f + 1) t) := rfl
theorem kept_labF_length : ∀ (t : List UInt8) (f : Nat), (kept (labF f t)).length = t.length
  | [], _ => rfl
  | c :: t, f => by rw [kept_labF, List.length_cons, kept_labF_length t, List.length_cons]
theorem kept_split (z : List (UInt8 × Option Nat)) {i j : Nat} (h : i ≤ j) : kept (z.drop i) = kept ((z.drop i).take (j - i)) ++ kept (z.drop j) := by
  rw [← kept_append]
  congr 1
  have := List.take_append_drop (j - i) (z.drop i)
  rw [List.drop_drop, show i + (j - i) = j by omega] at this
  exact this.symm
theorem kept_sub {z : List (UInt8 × Option Nat)} : ∀ {l : List E} {at_ : Nat}, Val z.length at_ l → (kept (preL z at_ l)).Sublist (kept (z.drop at_))
  | [], _, _ => List.nil_sublist _
  | x :: l, at_, h => by
    obtain ⟨h1, h2, h3, h4⟩ := h
    rw [preL, kept_append, kept_append, kept_labN, List.append_nil, kept_split z h1, kept_split z h2]
    exact List.Sublist.append (List.Sublist.refl _) ((kept_sub h4).trans (List.sublist_append_right _ _))
theorem kept_count {z : List (UInt8 × Option Nat)} : ∀ {l : List E} {at_ : Nat}, Val z.length at_ l → (kept (z.drop at_)).length ≤ (kept (preL z at_ (l ++ [⟨z.length, z.length, []⟩]))).length + takes l
  | [], at_, h => by
    rw [List.nil_append, preL, preL, kept_append, kept_append]
    rw [List.take_of_length_le (by simp), List.length_append, List.length_append, Nat.add_assoc, Nat.add_assoc]
    exact Nat.le_add_right _ _
  | x :: l, at_, h => by
    obtain ⟨h1, h2, h3, h4⟩ := h
    have ih := kept_count h4
    have hk := kept_le ((z.drop x.a).take (x.b - x.a))
    rw [List.length_take] at hk
    rw [List.cons_append, preL, kept_append, kept_append, kept_labN, List.append_nil, kept_split z h1, kept_split z h2, takes]
    simp only [List.length_append]
    omega
/-- The places of the bytes that stayed stand in order, and the bytes are those that stand there. -/
def KG (s : List UInt8) : Nat → List (UInt8 × Nat) → Prop
  | lo, [] => lo ≤ s.length
  | lo, p :: l => lo ≤ p.2 ∧ s[p.2]? = some p.1 ∧ KG s (p.2 + 1) l
theorem KG.mono {s : List UInt8} {lo lo' : Nat} : ∀ {l : List (UInt8 × Nat)}, KG s lo l → lo' ≤ lo → KG s lo' l
  | [], h, hle => Nat.le_trans hle h
  | p :: l, h, hle => ⟨Nat.le_trans hle h.1, h.2⟩
theorem KG.sub {s : List UInt8} {l m : List (UInt8 × Nat)} (h : l.Sublist m) : ∀ {lo : Nat}, KG s lo m → KG s lo l := by
  induction h with
  | slnil => intro lo h; exact h
  | cons a _ ih => intro lo h; exact (ih h.2.2).mono (Nat.le_trans h.1 (Nat.le_succ _))
  | cons_cons a _ ih => intro lo h; exact ⟨h.1, h.2.1, ih h.2.2⟩
theorem KG.len {s : List UInt8} : ∀ {l : List (UInt8 × Nat)} {lo : Nat}, KG s lo l → lo + l.length ≤ s.length
  | [], lo, h => h
  | p :: l, lo, h => by
    have := KG.len h.2.2
    have := h.1
    rw [List.length_cons]
    omega
theorem KG.all (s : List UInt8) : ∀ (d f : Nat), s.length - f = d → f ≤ s.length → KG s f (kept (labF f (s.drop f))) := by
  intro d
  induction d with
  | zero => intro f h1 h2; rw [List.drop_eq_nil_of_le (by omega)]; exact h2
  | succ d ih =>
    intro f h1 h2
    have hf : f < s.length := by omega
    rw [List.drop_eq_getElem_cons hf, kept_labF]
    exact ⟨Nat.le_refl _, List.getElem?_eq_getElem hf, ih (f + 1) (by omega) hf⟩
theorem KG.run {s : List UInt8} {M : List (UInt8 × Nat)} : ∀ (t : List UInt8) (f : Nat), KG s f (kept (labF f t) ++ M) → (s.drop f).take t.length = t ∧ KG s (f + t.length) M
  | [], f, h => ⟨by simp, h⟩
  | c :: t, f, h => by
    obtain ⟨h1, h2, h3⟩ := h
    obtain ⟨h4, h5⟩ := KG.run t (f + 1) h3
    obtain ⟨hi, e⟩ := List.getElem?_eq_some_iff.1 h2
    refine ⟨?_, by rw [List.length_cons]; exact (show f + 1 + t.length = f + (t.length + 1) by omega) ▸ h5⟩
    rw [List.drop_eq_getElem_cons hi, List.length_cons, List.take_succ_cons, h4]
    exact congrArg (· :: t) e

/-- Pieces that stand in order in the text, or were put in. -/
def PG (s : List UInt8) : Nat → List Pc → Prop
  | at_, [] => at_ ≤ s.length
  | at_, p :: l => match p.f with
    | none => PG s at_ l
    | some f => at_ ≤ f ∧ (s.drop f).take p.t.length = p.t ∧ PG s (f + p.t.length) l
theorem PG.le {s : List UInt8} : ∀ {l : List Pc} {at_ : Nat}, PG s at_ l → at_ ≤ s.length
  | [], _, h => h
  | ⟨t, none⟩ :: l, _, h => PG.le (l := l) h
  | ⟨t, some f⟩ :: l, at_, h => by
    have h2 : PG s (f + t.length) l := h.2.2
    have := h2.le
    have : at_ ≤ f := h.1
    omega
theorem pg_of {s : List UInt8} : ∀ {l : List Pc} {lo : Nat}, (∀ p ∈ l, p.t ≠ []) → KG s lo (kept (lab l)) → PG s lo l
  | [], lo, _, h => h
  | ⟨t, none⟩ :: l, lo, hn, h => by
    have h' : KG s lo (kept (labN t ++ lab l)) := h
    rw [kept_append, kept_labN, List.nil_append] at h'
    exact pg_of (l := l) (fun p hp => hn p (List.mem_cons_of_mem _ hp)) h'
  | ⟨t, some f⟩ :: l, lo, hn, h => by
    have h' : KG s lo (kept (labF f t ++ lab l)) := h
    rw [kept_append] at h'
    obtain ⟨c, u, ht⟩ := List.exists_cons_of_ne_nil (hn _ List.mem_cons_self)
    have ht' : t = c :: u := ht
    have h1 : lo ≤ f := by rw [ht'] at h'; exact h'.1
    have h2 : KG s f (kept (labF f t) ++ kept (lab l)) := by rw [ht'] at h' ⊢; exact ⟨Nat.le_refl _, h'.2⟩
    obtain ⟨h3, h4⟩ := KG.run t f h2
    exact ⟨h1, h3, pg_of (l := l) (fun p hp => hn p (List.mem_cons_of_mem _ hp)) h4⟩

/-- The edits that make pieces. -/
def btw : Nat → List UInt8 → List Pc → List E
  | _, _, [] => []
  | at_, put, p :: l => match p.f with
    | none => btw at_ (put ++ p.t) l
    | some f => if at_ < f ∨ put ≠ [] then ⟨at_, f, put⟩ :: btw (f + p.t.length) [] l else btw (f + p.t.length) [] l
theorem take_more (s : List UInt8) {i j k : Nat} (h : i ≤ j) (hk : j ≤ k) : (s.drop i).take (k - i) = (s.drop i).take (j - i) ++ (s.drop j).take (k - j) := by
  rw [show k - i = (j - i) + (k - j) by omega, List.take_add, List.drop_drop, show i + (j - i) = j by omega]
theorem btw_app {s : List UInt8} : ∀ {l : List Pc} {at0 at_ : Nat} {put : List UInt8}, PG s at_ l → at0 ≤ at_ → app s at0 (btw at_ put (l ++ [⟨[], some s.length⟩])) = (s.drop at0).take (at_ - at0) ++ put ++ flat l
  | [], at0, at_, put, h, h0 => by
    have h' : at_ ≤ s.length := h
    rw [List.nil_append, btw]
    show app s at0 (if at_ < s.length ∨ put ≠ [] then ⟨at_, s.length, put⟩ :: btw _ [] [] else btw _ [] []) = _
    by_cases hc : at_ < s.length ∨ put ≠ []
    · rw [if_pos hc, btw, app, app, List.drop_length, flat]
    · rw [if_neg hc, btw, app, flat]
      have e : put = [] := Decidable.byContradiction fun h => hc (.inr h)
      rw [e, List.append_nil, List.append_nil, List.take_of_length_le]
      rw [List.length_drop]
      omega
  | ⟨t, none⟩ :: l, at0, at_, put, h, h0 => by
    have ih := btw_app (l := l) (put := put ++ t) h h0
    rw [List.cons_append, flat]
    show app s at0 (btw at_ (put ++ t) (l ++ [⟨[], some s.length⟩])) = _
    rw [ih]
    simp [List.append_assoc]
  | ⟨t, some f⟩ :: l, at0, at_, put, h, h0 => by
    obtain ⟨h1, h2, h3⟩ : at_ ≤ f ∧ (s.drop f).take t.length = t ∧ PG s (f + t.length) l := h
    rw [List.cons_append, flat]
    show app s at0 (if at_ < f ∨ put ≠ [] then ⟨at_, f, put⟩ :: btw (f + t.length) [] (l ++ [⟨[], some s.length⟩]) else btw (f + t.length) [] (l ++ [⟨[], some s.length⟩])) = _
    by_cases hc : at_ < f ∨ put ≠ []
    · rw [if_pos hc, app, btw_app h3 (Nat.le_add_right _ _), Nat.add_sub_cancel_left, h2]
      simp [List.append_assoc]
    · rw [if_neg hc, btw_app h3 (by omega)]
      have e : put = [] := Decidable.byContradiction fun h => hc (.inr h)
      have e2 : at_ = f := by omega
      rw [e, e2, take_more s (j := f) (by omega) (Nat.le_add_right _ _), Nat.add_sub_cancel_left, h2]
      simp [List.append_assoc]
theorem btw_val {s : List UInt8} : ∀ {l : List Pc} {at0 at_ : Nat} {put : List UInt8}, PG s at_ l → at0 ≤ at_ → Val s.length at0 (btw at_ put (l ++ [⟨[], some s.length⟩]))
  | [], at0, at_, put, h, h0 => by
    have h' : at_ ≤ s.length := h
    show Val s.length at0 (if at_ < s.length ∨ put ≠ [] then [⟨at_, s.length, put⟩] else [])
    by_cases hc : at_ < s.length ∨ put ≠ []
    · rw [if_pos hc]; exact ⟨h0, h', Nat.le_refl _, Nat.le_refl _⟩
    · rw [if_neg hc]; exact Nat.le_trans h0 h'
  | ⟨t, none⟩ :: l, at0, at_, put, h, h0 => btw_val (l := l) (put := put ++ t) h h0
  | ⟨t, some f⟩ :: l, at0, at_, put, h, h0 => by
    obtain ⟨h1, h2, h3⟩ : at_ ≤ f ∧ (s.drop f).take t.length = t ∧ PG s (f + t.length) l := h
    rw [List.cons_append]
    show Val s.length at0 (if at_ < f ∨ put ≠ [] then ⟨at_, f, put⟩ :: btw (f + t.length) [] (l ++ [⟨[], some s.length⟩]) else btw (f + t.length) [] (l ++ [⟨[], some s.length⟩]))
    have hle := h3.le
    by_cases hc : at_ < f ∨ put ≠ []
    · rw [if_pos hc]; exact ⟨h0, h1, by show f ≤ _; omega, btw_val h3 (Nat.le_add_right _ _)⟩
    · rw [if_neg hc]; exact btw_val h3 (by omega)
theorem btw_sizes {s : List UInt8} : ∀ {l : List Pc} {at_ : Nat} {put : List UInt8}, PG s at_ l → takes (btw at_ put (l ++ [⟨[], some s.length⟩])) + (kept (lab l)).length + at_ = s.length ∧ puts (btw at_ put (l ++ [⟨[], some s.length⟩])) + (kept (lab l)).length = put.length + (lab l).length
  | [], at_, put, h => by
    have h' : at_ ≤ s.length := h
    show takes (if at_ < s.length ∨ put ≠ [] then [⟨at_, s.length, put⟩] else []) + 0 + at_ = s.length ∧ puts (if at_ < s.length ∨ put ≠ [] then [⟨at_, s.length, put⟩] else []) + 0 = put.length + 0
    by_cases hc : at_ < s.length ∨ put ≠ []
    · rw [if_pos hc]
      show (s.length - at_ + 0) + 0 + at_ = s.length ∧ (put.length + 0) + 0 = put.length + 0
      omega
    · rw [if_neg hc]
      have e : put = [] := Decidable.byContradiction fun h => hc (.inr h)
      rw [e]
      show 0 + 0 + at_ = s.length ∧ 0 + 0 = 0 + 0
      omega
  | ⟨t, none⟩ :: l, at_, put, h => by
    have ih := btw_sizes (l := l) (put := put ++ t) h
    show takes (btw at_ (put ++ t) (l ++ [⟨[], some s.length⟩])) + (kept (labN t ++ lab l)).length + at_ = s.length ∧ puts (btw at_ (put ++ t) (l ++ [⟨[], some s.length⟩])) + (kept (labN t ++ lab l)).length = put.length + (labN t ++ lab l).length
    rw [kept_append, kept_labN, List.nil_append, List.length_append, labN_length]
    rw [List.length_append] at ih
    omega
  | ⟨t, some f⟩ :: l, at_, put, h => by
    obtain ⟨h1, h2, h3⟩ : at_ ≤ f ∧ (s.drop f).take t.length = t ∧ PG s (f + t.length) l := h
    have ih := btw_sizes (put := []) h3
    rw [List.length_nil] at ih
    rw [List.cons_append]
    show takes (if at_ < f ∨ put ≠ [] then ⟨at_, f, put⟩ :: btw (f + t.length) [] (l ++ [⟨[], some s.length⟩]) else btw (f + t.length) [] (l ++ [⟨[], some s.length⟩])) + (kept (labF f t ++ lab l)).length + at_ = s.length ∧ puts (if at_ < f ∨ put ≠ [] then ⟨at_, f, put⟩ :: btw (f + t.length) [] (l ++ [⟨[], some s.length⟩]) else btw (f + t.length) [] (l ++ [⟨[], some s.length⟩])) + (kept (labF f t ++ lab l)).length = put.length + (labF f t ++ lab l).length
    rw [kept_append, List.length_append, List.length_append, labF_length, kept_labF_length]
    by_cases hc : at_ < f ∨ put ≠ []
    · rw [if_pos hc]; simp only [takes, puts]; omega
    · rw [if_neg hc]
      have e : put = [] := Decidable.byContradiction fun h => hc (.inr h)
      rw [e, List.length_nil]
      omega
theorem btw_length {s : List UInt8} : ∀ {l : List Pc} {at_ : Nat} {put : List UInt8}, (∀ p ∈ l, p.t ≠ []) → (btw at_ put (l ++ [⟨[], some s.length⟩])).length ≤ (kept (lab l)).length + 1
  | [], at_, put, h => by
    show (if at_ < s.length ∨ put ≠ [] then [⟨at_, s.length, put⟩] else ([] : List E)).length ≤ 0 + 1
    by_cases hc : at_ < s.length ∨ put ≠ []
    · rw [if_pos hc]; exact Nat.le_refl _
    · rw [if_neg hc]; exact Nat.zero_le _
  | ⟨t, none⟩ :: l, at_, put, h => by
    have ih := btw_length (s := s) (l := l) (at_ := at_) (put := put ++ t) (fun p hp => h p (List.mem_cons_of_mem _ hp))
    show (btw at_ (put ++ t) (l ++ [⟨[], some s.length⟩])).length ≤ (kept (labN t ++ lab l)).length + 1
    rw [kept_append, kept_labN, List.nil_append]
    exact ih
  | ⟨t, some f⟩ :: l, at_, put, h => by
    have ih := btw_length (s := s) (l := l) (at_ := f + t.length) (put := []) (fun p hp => h p (List.mem_cons_of_mem _ hp))
    have ht : 0 < t.length := List.length_pos_iff.2 (h _ List.mem_cons_self)
    show (if at_ < f ∨ put ≠ [] then ⟨at_, f, put⟩ :: btw (f + t.length) [] (l ++ [⟨[], some s.length⟩]) else btw (f + t.length) [] (l ++ [⟨[], some s.length⟩])).length ≤ (kept (labF f t ++ lab l)).length + 1
    rw [kept_append, List.length_append, kept_labF_length]
    by_cases hc : at_ < f ∨ put ≠ []
    · rw [if_pos hc, List.length_cons]; omega
    · rw [if_neg hc]; omega
theorem cutP_ne (lo hi : Nat) : ∀ (l : List Pc) (pos : Nat), ∀ p ∈ cutP lo hi pos l, p.t ≠ []
  | [], pos, p, hp => by simp [cutP] at hp
  | q :: l, pos, p, hp => by
    rw [cutP, List.mem_append] at hp
    rcases hp with hp | hp
    · by_cases h : lo - pos < min (hi - pos) q.t.length
      · rw [if_pos h, List.mem_singleton] at hp
        subst hp
        intro he
        have := congrArg List.length he
        simp only [List.length_take, List.length_drop, List.length_nil] at this
        omega
      · rw [if_neg h] at hp; simp at hp
    · exact cutP_ne lo hi l _ p hp
theorem new1_ne {t : List UInt8} : ∀ p ∈ new1 t, p.t ≠ [] := by
  intro p hp
  unfold new1 at hp
  by_cases h : t = []
  · rw [if_pos h] at hp; simp at hp
  · rw [if_neg h, List.mem_singleton] at hp; subst hp; exact h
theorem thn_ne (ps : List Pc) : ∀ (l : List E) (at_ : Nat), ∀ p ∈ thn ps at_ l, p.t ≠ []
  | [], _, p, hp => by simp [thn] at hp
  | x :: l, at_, p, hp => by
    rw [thn, List.mem_append, List.mem_append] at hp
    rcases hp with (hp | hp) | hp
    · exact cutP_ne _ _ _ _ p hp
    · exact new1_ne p hp
    · exact thn_ne ps l _ p hp

/-- One step for two: what it does, and what it costs. -/
structure Then2 (s : List UInt8) (l m B : List E) : Prop where
  val : Val s.length 0 B
  eff : app s 0 B = app (app s 0 l) 0 m
  cost : puts B + takes B ≤ puts l + takes l + (puts m + takes m)
  len : B.length ≤ s.length + 1
  room : puts B ≤ (app s 0 B).length
def endE (n : Nat) : E := ⟨n, n, []⟩
def thenE (s : List UInt8) (l m : List E) : List E := btw 0 [] (thn (pcs s 0 (l ++ [endE s.length])) 0 (m ++ [endE (app s 0 l).length]) ++ [⟨[], some s.length⟩])
theorem val_end {n : Nat} : ∀ {l : List E} {at_ : Nat}, Val n at_ l → Val n at_ (l ++ [endE n])
  | [], at_, h => ⟨h, Nat.le_refl _, Nat.le_refl _, Nat.le_refl _⟩
  | x :: l, at_, h => ⟨h.1, h.2.1, h.2.2.1, val_end h.2.2.2⟩
theorem then2 {s : List UInt8} {l m : List E} (hl : Val s.length 0 l) (hm : Val (app s 0 l).length 0 m) : Then2 s l m (thenE s l m) := by
  have a1 := app_length hl
  have a2 := app_length hm
  have eL1 : lab (pcs s 0 (l ++ [endE s.length])) = preL (labF 0 s) 0 (l ++ [endE s.length]) := lab_pcs _ _ _
  have f1 : (lab (pcs s 0 (l ++ [endE s.length]))).map (·.1) = app s 0 l := by rw [eL1, preL_fst, labF_fst]; exact pre_end s l 0
  have n1 : (lab (pcs s 0 (l ++ [endE s.length]))).length = (app s 0 l).length := by rw [← f1, List.length_map]
  have k0 : (kept ((labF 0 s).drop 0)).length = s.length := by rw [List.drop_zero, kept_labF_length]
  have z0 : (labF 0 s).length = s.length := labF_length _ _
  have c1 : (kept ((labF 0 s).drop 0)).length ≤ (kept (lab (pcs s 0 (l ++ [endE s.length])))).length + takes l := by
    rw [eL1, endE, ← z0]
    exact kept_count (by rw [z0]; exact hl)
  have s1 : (kept (lab (pcs s 0 (l ++ [endE s.length])))).Sublist (kept (labF 0 s)) := by
    rw [eL1]
    exact kept_sub (z := labF 0 s) (at_ := 0) (by rw [z0]; exact val_end hl)
  unfold thenE
  generalize pcs s 0 (l ++ [endE s.length]) = ps at *
  have eL2 : lab (thn ps 0 (m ++ [endE (app s 0 l).length])) = preL (lab ps) 0 (m ++ [endE (app s 0 l).length]) := lab_thn _ _ _
  have f2 : (lab (thn ps 0 (m ++ [endE (app s 0 l).length]))).map (·.1) = app (app s 0 l) 0 m := by rw [eL2, preL_fst, f1]; exact pre_end _ m 0
  have n2 : (lab (thn ps 0 (m ++ [endE (app s 0 l).length]))).length = (app (app s 0 l) 0 m).length := by rw [← f2, List.length_map]
  have c2 : (kept ((lab ps).drop 0)).length ≤ (kept (lab (thn ps 0 (m ++ [endE (app s 0 l).length])))).length + takes m := by
    rw [eL2, endE, ← n1]
    exact kept_count (by rw [n1]; exact hm)
  have s2 : (kept (lab (thn ps 0 (m ++ [endE (app s 0 l).length])))).Sublist (kept (lab ps)) := by
    rw [eL2]
    exact kept_sub (z := lab ps) (at_ := 0) (by rw [n1]; exact val_end hm)
  have hne := thn_ne ps (m ++ [endE (app s 0 l).length]) 0
  have fl := lab_fst (thn ps 0 (m ++ [endE (app s 0 l).length]))
  rw [f2] at fl
  generalize thn ps 0 (m ++ [endE (app s 0 l).length]) = all at *
  have kg0 : KG s 0 (kept (labF 0 s)) := KG.all s _ 0 rfl (Nat.zero_le _)
  have kg : KG s 0 (kept (lab all)) := kg0.sub (s2.trans s1)
  have pg := pg_of hne kg
  obtain ⟨b1, b2⟩ := btw_sizes (put := []) pg
  have b3 := btw_length (s := s) (at_ := 0) (put := []) hne
  have kl := kg.len
  have b4 := btw_app (at0 := 0) (put := []) pg (Nat.le_refl _)
  have b5 := btw_val (at0 := 0) (put := []) pg (Nat.le_refl _)
  rw [← fl, Nat.sub_zero, List.take_zero, List.nil_append, List.nil_append] at b4
  rw [List.length_nil] at b2
  rw [List.drop_zero] at c2
  refine ⟨b5, b4, ?_, by omega, ?_⟩
  · omega
  · rw [b4, ← n2]; omega
end Go.Proofs.Ytoljmjhmieaggaa.Ed
