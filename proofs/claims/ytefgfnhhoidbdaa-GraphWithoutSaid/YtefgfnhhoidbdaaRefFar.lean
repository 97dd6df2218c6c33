/- What the document's Far answers: how far each node is. Lists alone; no condition beyond those named. -/
import Derived.Test.YtefgfnhhoidbdaaGraphPlain
import Derived.Test.YtefgfnhhoidbdaaGraphW16
import Derived.Test.YtefgfnhhoidbdaaX38
namespace Go.Proofs.Ytefgfnhhoidbdaa.GrW
open Go.RowKit Go.Proofs.YtefgfnhhoidbdaaW.PrintWords Go.Proofs.YtefgfnhhoidbdaaW.PrintLast Go.Proofs.Ytefgfnhhoidbdaa.X Go.Proofs.Ytefgfnhhoidbdaa.Gr
set_option linter.unusedVariables false
set_option linter.unusedSimpArgs false
/-- How far the beginning of an edge is; less than 0: nothing has come. -/
def nE (out : List Int) (e : S41) : Int := if e.f0 ≥ 0 then rd out e.f0 else 0
/-- Is the edge a shorter way? -/
def upE (out : List Int) (e : S41) : Prop := nE out e ≥ 0 ∧ (rd out e.f1 < 0 ∨ rd out e.f1 > nE out e + 1)
instance (out : List Int) (e : S41) : Decidable (upE out e) := inferInstanceAs (Decidable (_ ∧ _))
def stF (s : List Int × Bool) (e : S41) : List Int × Bool := if upE s.1 e then (s.1.set e.f1.toNat (nE s.1 e + 1), true) else s
def passF (es : List S41) (s : List Int × Bool) : List Int × Bool := es.foldl stF s
def lab (out : List Int) : Nat := out.countP fun x => decide (0 ≤ x)
def g_ (n : Nat) (x : Int) : Nat := if x < 0 then n + 1 else x.toNat
def mu (n : Nat) (out : List Int) : Nat := (out.map (g_ n)).sum
theorem mu_set (n : Nat) : ∀ (out : List Int) (i : Nat) (x : Int), i < out.length → mu n (out.set i x) + g_ n (out.getD i (-1)) = mu n out + g_ n x
  | [], i, x, h => by simp at h
  | y :: l, 0, x, h => by simp [mu]; omega
  | y :: l, i + 1, x, h => by
    have := mu_set n l i x (by simpa using h)
    simp only [mu, List.set_cons_succ, List.map_cons, List.sum_cons, List.getD_cons_succ] at this ⊢
    omega
theorem lab_le (out : List Int) : lab out ≤ out.length := List.countP_le_length
theorem lab_set : ∀ (out : List Int) (i : Nat) (x : Int), i < out.length → 0 ≤ x → lab (out.set i x) = if out.getD i (-1) < 0 then lab out + 1 else lab out
  | [], i, x, h, hx => by simp at h
  | y :: l, 0, x, h, hx => by
    simp only [lab, List.set_cons_zero, List.countP_cons, List.getD_cons_zero]
    by_cases hy : y < 0
    · have h1 : ¬ 0 ≤ y := by omega
      simp [hy, hx, h1]
    · have h1 : 0 ≤ y := by omega
      simp [hy, hx, h1]
  | y :: l, i + 1, x, h, hx => by
    have := lab_set l i x (by simpa using h) hx
    simp only [lab, List.set_cons_succ, List.countP_cons, List.getD_cons_succ] at this ⊢
    rw [this]
    split <;> omega
section
variable {n : Nat} {es : List S29} {R : List Int} {dp : Int → Nat}
/-- What is known on the way. -/
structure Dt (n : Nat) (R : List Int) (dp : Int → Nat) (out : List Int) : Prop where
  len : out.length = n
  lo : ∀ i, i < n → -1 ≤ out.getD i (-1)
  hi : ∀ i, i < n → out.getD i (-1) ≤ lab out
  sound : ∀ i : Nat, i < n → 0 ≤ out.getD i (-1) → V n R i ∧ (dp i : Int) ≤ out.getD i (-1)
theorem rd_of {out : List Int} {i : Nat} (h : i < out.length) : rd out (i : Int) = out.getD i (-1) := by
  unfold rd
  rw [Int.toNat_natCast, List.getD_eq_getElem?_getD, List.getD_eq_getElem?_getD, List.getElem?_eq_getElem h, Option.getD_some, Option.getD_some]
theorem getD_set_int {l : List Int} {i m : Nat} {x : Int} (hi : i < l.length) : (l.set i x).getD m (-1) = if m = i then x else l.getD m (-1) := by
  rw [List.getD_eq_getElem?_getD, List.getD_eq_getElem?_getD]
  by_cases h : m = i
  · subst h; rw [if_pos rfl, List.getElem?_set_self hi, Option.getD_some]
  · rw [if_neg h, List.getElem?_set_ne (fun e => h e.symm)]
theorem nE_lo {out : List Int} (hd : Dt n R dp out) {k : Nat} (hv : -1 ≤ Fm es k ∧ Fm es k < n) : nE out (to41 (es.getD k z29)) ≤ lab out ∧ (0 ≤ nE out (to41 (es.getD k z29)) → V n R (Fm es k) ∧ (0 < n → dp (-1) = 0 → (dp (Fm es k) : Int) ≤ nE out (to41 (es.getD k z29)))) := by
  unfold nE
  show (if Fm es k ≥ 0 then rd out (Fm es k) else 0) ≤ _ ∧ (0 ≤ (if Fm es k ≥ 0 then rd out (Fm es k) else 0) → _ ∧ (_ → _ → _ ≤ (if Fm es k ≥ 0 then rd out (Fm es k) else 0)))
  by_cases h : Fm es k ≥ 0
  · obtain ⟨j, hj⟩ : ∃ j : Nat, Fm es k = (j : Int) := ⟨(Fm es k).toNat, by omega⟩
    rw [if_pos h, hj, rd_of (by rw [hd.len]; omega)]
    refine ⟨hd.hi j (by omega), fun h0 => ?_⟩
    have := hd.sound j (by omega) h0
    exact ⟨this.1, fun _ _ => this.2⟩
  · have : Fm es k = -1 := by omega
    rw [if_neg h, this]
    exact ⟨by omega, fun _ => ⟨.inl rfl, fun _ h0 => by rw [h0]; exact Int.le_refl _⟩⟩
/-- An edge that is a shorter way. -/
theorem stF_up (hf : Fin_ n es.length (Fm es) (Tm es) (fun _ => false) (-1) R dp) {k : Nat} (hk : k < es.length) (hv : -1 ≤ Fm es k ∧ Fm es k < n ∧ 0 ≤ Tm es k ∧ Tm es k < n) {out : List Int} (hd : Dt n R dp out) (hu : upE out (to41 (es.getD k z29))) : Dt n R dp (out.set (Tm es k).toNat (nE out (to41 (es.getD k z29)) + 1)) ∧ mu n (out.set (Tm es k).toNat (nE out (to41 (es.getD k z29)) + 1)) < mu n out := by
  obtain ⟨t, ht⟩ : ∃ t : Nat, Tm es k = (t : Int) := ⟨(Tm es k).toNat, by omega⟩
  have hu2 : rd out (Tm es k) < 0 ∨ rd out (Tm es k) > nE out (to41 (es.getD k z29)) + 1 := hu.2
  have h0 := hu.1
  have hn := nE_lo hd (k := k) ⟨hv.1, hv.2.1⟩
  have hn2 := hn.2 h0
  rw [ht] at hu2 ⊢
  have htn : t < n := by omega
  rw [rd_of (by rw [hd.len]; exact htn)] at hu2
  rw [Int.toNat_natCast]
  have hs := hf.shut_ k ⟨hk, by omega, rfl⟩ hn2.1
  have hdn := hn2.2 (by omega) hf.dp0
  generalize nE out (to41 (es.getD k z29)) = x at *
  have hlab := lab_set out t (x + 1) (by rw [hd.len]; exact htn) (by omega)
  have hlt : lab out < lab (out.set t (x + 1)) ∨ (lab (out.set t (x + 1)) = lab out ∧ x + 1 ≤ lab out) := by
    rw [hlab]
    have := hd.hi t htn
    split
    · left; omega
    · right; exact ⟨rfl, by omega⟩
  have hle := lab_le out
  rw [hd.len] at hle
  refine ⟨⟨by rw [List.length_set]; exact hd.len, fun i hi => ?_, fun i hi => ?_, fun i hi h1 => ?_⟩, ?_⟩
  · rw [getD_set_int (by rw [hd.len]; exact htn)]
    split
    · omega
    · exact hd.lo i hi
  · rw [getD_set_int (by rw [hd.len]; exact htn)]
    have := hd.hi i hi
    split
    · rcases hlt with h | h <;> omega
    · rcases hlt with h | h <;> omega
  · rw [getD_set_int (by rw [hd.len]; exact htn)] at h1 ⊢
    by_cases e : i = t
    · subst e
      rw [if_pos rfl]
      rw [ht] at hs
      exact ⟨hs.1, by omega⟩
    · rw [if_neg e] at h1 ⊢
      exact hd.sound i hi h1
  · have hm := mu_set n out t (x + 1) (by rw [hd.len]; exact htn)
    have e1 : g_ n (x + 1) = (x + 1).toNat := by unfold g_; rw [if_neg (by omega)]
    rw [e1] at hm
    have hxl : x + 1 ≤ n := by
      have h3 := lab_le (out.set t (x + 1))
      rw [List.length_set, hd.len] at h3
      rcases hlt with h | h <;> omega
    by_cases hneg : out.getD t (-1) < 0
    · have e2 : g_ n (out.getD t (-1)) = n + 1 := by unfold g_; rw [if_pos hneg]
      omega
    · have e2 : g_ n (out.getD t (-1)) = (out.getD t (-1)).toNat := by unfold g_; rw [if_neg hneg]
      omega
/-- A pass: nothing is shorter, or the sum has become less. -/
theorem passF_mu (hf : Fin_ n es.length (Fm es) (Tm es) (fun _ => false) (-1) R dp) (hv : ∀ k, k < es.length → -1 ≤ Fm es k ∧ Fm es k < n ∧ 0 ≤ Tm es k ∧ Tm es k < n) : ∀ (l : List S41) (s : List Int × Bool), (∀ e, e ∈ l → ∃ k, k < es.length ∧ e = to41 (es.getD k z29)) → Dt n R dp s.1 → Dt n R dp (passF l s).1 ∧ ((passF l s = s ∧ ∀ e, e ∈ l → ¬ upE s.1 e) ∨ ((passF l s).2 = true ∧ mu n (passF l s).1 < mu n s.1))
  | [], s, _, hd => ⟨hd, .inl ⟨rfl, fun e he => by cases he⟩⟩
  | e :: l, s, h, hd => by
    obtain ⟨k, hk, rfl⟩ := h e List.mem_cons_self
    have hl := fun x hx => h x (List.mem_cons_of_mem _ hx)
    by_cases hu : upE s.1 (to41 (es.getD k z29))
    · have e1 : stF s (to41 (es.getD k z29)) = (s.1.set (Tm es k).toNat (nE s.1 (to41 (es.getD k z29)) + 1), true) := by unfold stF; rw [if_pos hu]; rfl
      have e2 : passF (to41 (es.getD k z29) :: l) s = passF l (s.1.set (Tm es k).toNat (nE s.1 (to41 (es.getD k z29)) + 1), true) := by unfold passF; rw [List.foldl_cons, e1]
      obtain ⟨h1, h2⟩ := stF_up hf hk (hv k hk) hd hu
      rw [e2]
      obtain ⟨h3, h4⟩ := passF_mu hf hv l (s.1.set (Tm es k).toNat (nE s.1 (to41 (es.getD k z29)) + 1), true) hl h1
      refine ⟨h3, .inr ?_⟩
      rcases h4 with ⟨h4, _⟩ | ⟨h4, h5⟩
      · rw [h4]; exact ⟨rfl, h2⟩
      · exact ⟨h4, Nat.lt_trans h5 h2⟩
    · have e1 : stF s (to41 (es.getD k z29)) = s := by unfold stF; rw [if_neg hu]
      have e2 : passF (to41 (es.getD k z29) :: l) s = passF l s := by unfold passF; rw [List.foldl_cons, e1]
      rw [e2]
      obtain ⟨h3, h4⟩ := passF_mu hf hv l s hl hd
      refine ⟨h3, h4.imp (fun ⟨a, b⟩ => ⟨a, fun x hx => ?_⟩) id⟩
      rcases List.mem_cons.1 hx with rfl | hx
      · exact hu
      · exact b x hx
def distL (n : Nat) (R : List Int) (dp : Int → Nat) : List Int := (List.range n).map fun i => if 0 ≤ R.getD i (-1) then (dp (i : Int) : Int) else -1
/-- Nothing is shorter: each is as far as it is. -/
theorem closedF (hf : Fin_ n es.length (Fm es) (Tm es) (fun _ => false) (-1) R dp) (hv : ∀ k, k < es.length → -1 ≤ Fm es k ∧ Fm es k < n ∧ 0 ≤ Tm es k ∧ Tm es k < n) {out : List Int} (hd : Dt n R dp out) (hc : ∀ k, k < es.length → ¬ upE out (to41 (es.getD k z29))) : out = distL n R dp := by
  have key : ∀ d (i : Nat), i < n → dp i = d → 0 ≤ R.getD i (-1) → 0 ≤ out.getD i (-1) ∧ out.getD i (-1) ≤ (dp i : Int) := by
    intro d
    induction d using Nat.strongRecOn with
    | ind d ih =>
      intro i hi hdi hR
      obtain ⟨k, h1, h2, h3, h4, h5⟩ := hf.tree i hi hR
      have hcl := hc k h2.1
      have hvk := hv k h2.1
      have hn : 0 ≤ nE out (to41 (es.getD k z29)) ∧ nE out (to41 (es.getD k z29)) ≤ (dp (Fm es k) : Int) := by
        unfold nE
        show 0 ≤ (if Fm es k ≥ 0 then rd out (Fm es k) else 0) ∧ (if Fm es k ≥ 0 then rd out (Fm es k) else 0) ≤ _
        rcases h4 with h4 | ⟨h6, h7, h8⟩
        · rw [if_neg (by omega)]; exact ⟨Int.le_refl _, by omega⟩
        · obtain ⟨j, hj⟩ : ∃ j : Nat, Fm es k = (j : Int) := ⟨(Fm es k).toNat, by omega⟩
          rw [hj, Int.toNat_natCast] at h8
          rw [if_pos h6, hj, rd_of (by rw [hd.len]; omega)]
          exact ih (dp (j : Int)) (by rw [← hj]; omega) j (by omega) rfl h8
      have hr : ¬ (rd out (Tm es k) < 0 ∨ rd out (Tm es k) > nE out (to41 (es.getD k z29)) + 1) := fun h => hcl ⟨hn.1, h⟩
      rw [h3, rd_of (by rw [hd.len]; exact hi)] at hr
      omega
  apply List.ext_getElem
  · rw [hd.len]; simp [distL]
  · intro i h1 h2
    have hi : i < n := by rw [← hd.len]; exact h1
    have e1 : out[i] = out.getD i (-1) := by rw [List.getD_eq_getElem?_getD, List.getElem?_eq_getElem h1, Option.getD_some]
    have e2 : (distL n R dp)[i] = if 0 ≤ R.getD i (-1) then (dp (i : Int) : Int) else -1 := by simp [distL]
    rw [e1, e2]
    by_cases hR : 0 ≤ R.getD i (-1)
    · rw [if_pos hR]
      have h3 := key _ i hi rfl hR
      have h4 := hd.sound i hi h3.1
      omega
    · rw [if_neg hR]
      have h3 := hd.lo i hi
      by_cases h5 : 0 ≤ out.getD i (-1)
      · rcases (hd.sound i hi h5).1 with h6 | ⟨_, _, h6⟩
        · omega
        · rw [Int.toNat_natCast] at h6; exact absurd h6 hR
      · omega
theorem stF_eq (s : List Int × Bool) (e : S41) : stF s e = if upE s.1 e then (s.1.set e.f1.toNat (nE s.1 e + 1), true) else s := rfl
theorem tail_ev {out : List Int} {T x : Int} {a b : Nat → Option (List Int)} {r : List Int} (h0 : 0 ≤ T) (h1 : T < (out.length : Int)) (yes : (rd out T < 0 ∨ rd out T > x) → Ev a r) (no : ¬ (rd out T < 0 ∨ rd out T > x) → Ev b r) : Ev (fun k => if 0 ≤ T then (if T < (out.length : Int) then (if rd out T < 0 then a k else (if rd out T > x then a k else b k)) else none) else none) r :=
  Ev.pos h0 (Ev.pos h1 (Ev.ite (fun h => yes (.inl h)) (fun h => Ev.ite (fun h2 => yes (.inr h2)) (fun h2 => no (fun h3 => h3.elim h h2)))))
theorem f2_ev (hf : Fin_ n es.length (Fm es) (Tm es) (fun _ => false) (-1) R dp) (hv : ∀ k, k < es.length → -1 ≤ Fm es k ∧ Fm es k < n ∧ 0 ≤ Tm es k ∧ Tm es k < n) (hes : es.length ≤ 100000) (hn : n ≤ 100000) (r : List Int) : ∀ (d i : Nat) (out : List Int) (again : Bool), es.length - i = d → i ≤ es.length → Dt n R dp out → Ev (fun k => caulkerref21_Far.l1 k (es.map to41) (passF ((es.map to41).drop i) (out, again)).1 (passF ((es.map to41).drop i) (out, again)).2) r → Ev (fun k => caulkerref21_Far.l2 k (es.map to41) out again (i : Int)) r := by
  have hlen : (es.map to41).length = es.length := List.length_map ..
  intro d
  induction d with
  | zero =>
    intro i out again hd hi hD h
    have : i = es.length := by omega
    subst this
    rw [List.drop_eq_nil_of_le (by omega)] at h
    have h : Ev (fun k => caulkerref21_Far.l1 k (es.map to41) out again) r := h
    exact Ev.step (fun k => by rw [caulkerref21_Far.l2]) (Ev.neg (by omega) h)
  | succ d ih =>
    intro i out again hd hi hD h
    have hlt : i < es.length := by omega
    have hvi := hv i hlt
    have hrd : rd_T41 (es.map to41) (i : Int) = to41 (es.getD i z29) := rd41
    have hdr : (es.map to41).drop i = to41 (es.getD i z29) :: (es.map to41).drop (i + 1) := by
      rw [List.drop_eq_getElem_cons (by omega), List.getElem_map, List.getD_eq_getElem?_getD, List.getElem?_eq_getElem hlt, Option.getD_some]
    rw [hdr] at h
    have hp : passF (to41 (es.getD i z29) :: (es.map to41).drop (i + 1)) (out, again) = passF ((es.map to41).drop (i + 1)) (stF (out, again) (to41 (es.getD i z29))) := rfl
    rw [hp, stF_eq] at h
    have hnl := nE_lo hD (k := i) ⟨hvi.1, hvi.2.1⟩
    have hll := lab_le out
    rw [hD.len] at hll
    have up := fun hu => stF_up hf hlt hvi hD hu
    have hup : upE out (to41 (es.getD i z29)) ↔ nE out (to41 (es.getD i z29)) ≥ 0 ∧ (rd out (Tm es i) < 0 ∨ rd out (Tm es i) > nE out (to41 (es.getD i z29)) + 1) := Iff.rfl
    have hnE : nE out (to41 (es.getD i z29)) = if Fm es i ≥ 0 then rd out (Fm es i) else 0 := rfl
    have hT : (to41 (es.getD i z29)).f1 = Tm es i := rfl
    have hF : (to41 (es.getD i z29)).f0 = Fm es i := rfl
    rw [hT] at h
    have c1 : (i : Int) < ((es.map to41).length : Int) := by omega
    have c2 : 0 ≤ (i : Int) := by omega
    refine Ev.step (fun k => by rw [caulkerref21_Far.l2]) ?_
    refine Ev.pos c1 ?_
    refine Ev.pos c2 ?_
    rw [hrd, hF, hT, wrap_id (i := (i : Int) + 1) (by omega) (by omega)]
    have hcast : (i : Int) + 1 = ((i + 1 : Nat) : Int) := rfl
    rw [hcast]
    clear hcast
    generalize to41 (es.getD i z29) = e at *
    have yes : upE out e → Ev (fun k => caulkerref21_Far.l2 k (es.map to41) (out.set (Tm es i).toNat (nE out e + 1)) true ((i + 1 : Nat) : Int)) r := fun hu => by
      rw [if_pos hu] at h
      exact ih (i + 1) _ true (by omega) (by omega) (up hu).1 h
    have no : ¬ upE out e → Ev (fun k => caulkerref21_Far.l2 k (es.map to41) out again ((i + 1 : Nat) : Int)) r := fun hu => by
      rw [if_neg hu] at h
      exact ih (i + 1) out again (by omega) (by omega) hD h
    clear h up ih
    by_cases h0 : Fm es i ≥ 0
    · rw [if_pos h0] at hnE
      rw [hnE] at hup yes hnl
      refine Ev.pos h0 (Ev.pos (by omega) (Ev.pos (by rw [hD.len]; omega) (Ev.ite (fun hx => ?_) (fun hx => ?_))))
      · rw [wrap_id (i := rd out (Fm es i) + 1) (by omega) (by omega)]
        exact tail_ev hvi.2.2.1 (by rw [hD.len]; exact hvi.2.2.2) (fun h => yes (hup.2 ⟨hx, h⟩)) (fun h => no (fun hu => h (hup.1 hu).2))
      · exact no (fun hu => hx (hup.1 hu).1)
    · rw [if_neg h0] at hnE
      rw [hnE] at hup yes
      refine Ev.neg h0 (Ev.pos (by omega) ?_)
      exact tail_ev hvi.2.2.1 (by rw [hD.len]; exact hvi.2.2.2) (fun h => yes (hup.2 ⟨by omega, h⟩)) (fun h => no (fun hu => h (hup.1 hu).2))
theorem f1_ev (hf : Fin_ n es.length (Fm es) (Tm es) (fun _ => false) (-1) R dp) (hv : ∀ k, k < es.length → -1 ≤ Fm es k ∧ Fm es k < n ∧ 0 ≤ Tm es k ∧ Tm es k < n) (hes : es.length ≤ 100000) (hn : n ≤ 100000) : ∀ (u : Nat) (out : List Int), mu n out ≤ u → Dt n R dp out → Ev (fun k => caulkerref21_Far.l1 k (es.map to41) out true) (distL n R dp) := by
  have hmem : ∀ e, e ∈ es.map to41 → ∃ k, k < es.length ∧ e = to41 (es.getD k z29) := by
    intro e he
    obtain ⟨x, hx, rfl⟩ := List.mem_map.1 he
    obtain ⟨k, hk, rfl⟩ := List.getElem_of_mem hx
    exact ⟨k, hk, by rw [List.getD_eq_getElem?_getD, List.getElem?_eq_getElem hk, Option.getD_some]⟩
  intro u
  induction u using Nat.strongRecOn with
  | ind u ih =>
    intro out hu hD
    refine Ev.step (fun k => by rw [caulkerref21_Far.l1]) (Ev.pos rfl ?_)
    refine f2_ev hf hv hes hn _ _ 0 out false rfl (Nat.zero_le _) hD ?_
    rw [List.drop_zero]
    obtain ⟨h1, h2⟩ := passF_mu hf hv (es.map to41) (out, false) hmem hD
    rcases h2 with ⟨h2, h3⟩ | ⟨h2, h3⟩
    · rw [h2]
      have hc := closedF hf hv hD (fun k hk => h3 (to41 (es.getD k z29)) (List.mem_map.2 ⟨_, by rw [List.getD_eq_getElem?_getD, List.getElem?_eq_getElem hk, Option.getD_some]; exact List.getElem_mem hk, rfl⟩))
      exact Ev.step (fun k => by rw [caulkerref21_Far.l1]) (Ev.neg (by simp) (Ev.eq (by rw [← hc])))
    · rw [h2]
      exact ih _ (Nat.lt_of_lt_of_le h3 hu) _ (Nat.le_refl _) h1
theorem f0_ev (l1 : List S41) (n : Nat) (hn : n ≤ 100000) (r : List Int) (h : Ev (fun k => caulkerref21_Far.l1 k l1 (List.replicate n (-1)) true) r) : ∀ (d i : Nat), n - i = d → i ≤ n → Ev (fun k => caulkerref21_Far.l0 k (n : Int) l1 (List.replicate i (-1) ++ List.replicate (n - i) 0) (i : Int)) r := by
  intro d
  induction d with
  | zero =>
    intro i hd hi
    have : i = n := by omega
    subst this
    rw [Nat.sub_self, List.replicate_zero, List.append_nil]
    exact Ev.step (fun k => by rw [caulkerref21_Far.l0]) (Ev.neg (by omega) h)
  | succ d ih =>
    intro i hd hi
    have hlen : (List.replicate i (-1 : Int) ++ List.replicate (n - i) 0).length = n := by simp; omega
    refine Ev.step (fun k => by rw [caulkerref21_Far.l0]) (Ev.pos (by omega) (Ev.pos (by omega) (Ev.pos (by rw [hlen]; omega) ?_)))
    rw [wrap_id (by omega) (by omega), Int.toNat_natCast]
    have : (List.replicate i (-1 : Int) ++ List.replicate (n - i) 0).set i (-1) = List.replicate (i + 1) (-1) ++ List.replicate (n - (i + 1)) 0 := by
      rw [List.set_append_right _ _ (by simp), List.length_replicate, Nat.sub_self, show n - i = (n - (i + 1)) + 1 by omega, List.replicate_succ, List.set_cons_zero, List.replicate_succ', List.append_assoc]
      rfl
    rw [this]
    exact ih (i + 1) (by omega) (by omega)
/-- The document's Far answers how far each node is. -/
theorem ref_far (hf : Fin_ n es.length (Fm es) (Tm es) (fun _ => false) (-1) R dp) (hv : ∀ k, k < es.length → -1 ≤ Fm es k ∧ Fm es k < n ∧ 0 ≤ Tm es k ∧ Tm es k < n) (hes : es.length ≤ 100000) (hn : n ≤ 100000) : ∃ k, caulkerref21_Far.f k (n : Int) (es.map to41) = some (distL n R dp) := by
  have hD : Dt n R dp (List.replicate n (-1)) := by
    have hg : ∀ i, i < n → (List.replicate n (-1 : Int)).getD i (-1) = -1 := fun i hi => by rw [List.getD_eq_getElem?_getD, List.getElem?_replicate, if_pos hi]; rfl
    refine ⟨by simp, fun i hi => ?_, fun i hi => ?_, fun i hi h => ?_⟩
    · rw [hg i hi]; exact Int.le_refl _
    · rw [hg i hi]; omega
    · rw [hg i hi] at h; omega
  have h := f0_ev (es.map to41) n hn _ (f1_ev hf hv hes hn _ _ (Nat.le_refl _) hD) n 0 (by omega) (Nat.zero_le _)
  rw [List.replicate_zero, List.nil_append, Nat.sub_zero] at h
  obtain ⟨k, hk⟩ := Ev.rounds h
  refine ⟨k, ?_⟩
  unfold caulkerref21_Far.f
  rw [if_pos (by omega), if_pos (by omega), Int.toNat_natCast]
  exact hk
end
end Go.Proofs.Ytefgfnhhoidbdaa.GrW
