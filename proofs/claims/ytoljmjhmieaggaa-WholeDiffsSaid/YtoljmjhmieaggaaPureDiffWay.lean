/- One step from a front, and the way back along the fronts; any texts that aren't too long. -/
import Derived.Test.YtoljmjhmieaggaaX41
import Derived.Test.YtoljmjhmieaggaaM36
import Derived.Test.YtoljmjhmieaggaaMyReach
namespace Go.Proofs.Ytoljmjhmieaggaa.Pure
open Go.RowKit Go.Proofs.Ytoljmjhmieaggaa.X Go.Proofs.YtoljmjhmieaggaaW.PrintWords Go.Proofs.YtoljmjhmieaggaaW.PrintLast Go.Diff
def same (x y : ByteArray) : Nat → Nat → Prop := fun i j => bt x (i : Int) = bt y (j : Int)
/-- A front as the program keeps it. -/
def FrontOk (x y : ByteArray) (e : Nat) (f : List Int) : Prop := f.length = 2 * e + 3 ∧ ∀ k : Int, -(e : Int) ≤ k → k ≤ e → (k + e) % 2 = 0 → At (same x y) x.size y.size e k (rd f (k + e + 1))
theorem at_range {E : Nat → Nat → Prop} {N M d : Nat} {k i : Int} (h : At E N M d k i) : 0 ≤ i ∧ i ≤ N + d ∧ 0 ≤ i - k ∧ i - k ≤ M + d ∧ -(d : Int) ≤ k ∧ k ≤ d := by
  obtain ⟨a, b, ha, hb, hr, _⟩ := h
  have := hr.bound
  have := hr.diag
  omega
theorem front_at {f : List Int} {k d : Int} (h0 : 0 ≤ k + d + 1) (h1 : k + d + 1 < f.length) (hk : -10000 ≤ k ∧ k ≤ 10000) (hd : -10000 ≤ d ∧ d ≤ 10000) : diff_front_at.f f k d = some (rd f (k + d + 1)) := by
  unfold diff_front_at.f
  rw [wrap_id (i := k + d) (by omega) (by omega), wrap_id (i := k + d + 1) (by omega) (by omega), if_pos h0, if_pos h1]
def stepV (p : Int → Int) (e : Nat) (k : Int) : Int := if k = -((e : Int) + 1) ∨ (k ≠ (e : Int) + 1 ∧ p (k - 1) < p (k + 1)) then p (k + 1) else p (k - 1) + 1
theorem step_ev {x y : ByteArray} {e : Nat} {f : List Int} (hf : FrontOk x y e f) (he : e ≤ 600) (hx : x.size ≤ 1000000) {k : Int} (hk1 : -((e : Int) + 1) ≤ k) (hk2 : k ≤ (e : Int) + 1) (hpar : (k + ((e : Int) + 1)) % 2 = 0) :
    Ev (fun n => diff_step.f n f k ((e : Int) + 1)) (stepV (fun k' => rd f (k' + e + 1)) e k) := by
  have hl := hf.1
  have ins : (k = -((e : Int) + 1) ∨ (k ≠ (e : Int) + 1 ∧ rd f (k - 1 + e + 1) < rd f (k + 1 + e + 1))) → ∀ b, b = true → Ev (fun n => diff_step.j0 n f k ((e : Int) + 1) b) (stepV (fun k' => rd f (k' + e + 1)) e k) := by
    rintro hc b rfl
    refine Ev.step (fun n => by rw [diff_step.j0]) (Ev.pos rfl ?_)
    rw [wrap_id (i := k + 1) (by omega) (by omega), wrap_id (i := (e : Int) + 1 - 1) (by omega) (by omega), show (e : Int) + 1 - 1 = e by omega, stepV, if_pos hc]
    exact Ev.bind (Ev.eq (front_at (by omega) (by omega) (by omega) (by omega))) (Ev.now_ _)
  have del : ¬ (k = -((e : Int) + 1) ∨ (k ≠ (e : Int) + 1 ∧ rd f (k - 1 + e + 1) < rd f (k + 1 + e + 1))) → ∀ b, b = false → Ev (fun n => diff_step.j0 n f k ((e : Int) + 1) b) (stepV (fun k' => rd f (k' + e + 1)) e k) := by
    rintro hc b rfl
    have hk : k ≠ -((e : Int) + 1) := fun h => hc (.inl h)
    have hr := at_range (hf.2 (k - 1) (by omega) (by omega) (by omega))
    refine Ev.step (fun n => by rw [diff_step.j0]) (Ev.neg (by simp) ?_)
    rw [wrap_id (i := k - 1) (by omega) (by omega), wrap_id (i := (e : Int) + 1 - 1) (by omega) (by omega), show (e : Int) + 1 - 1 = e by omega, stepV, if_neg hc]
    refine Ev.bind (Ev.eq (front_at (by omega) (by omega) (by omega) (by omega))) (Ev.cast (Ev.now_ _) ?_)
    exact wrap_id (by omega) (by omega)
  unfold diff_step.f
  rw [wrap_id (i := -((e : Int) + 1)) (by omega) (by omega)]
  refine Ev.ite (fun h => ins (.inl h) _ rfl) (fun h => Ev.ite (fun h2 => del (by omega) _ rfl) (fun h2 => ?_))
  rw [wrap_id (i := k - 1) (by omega) (by omega), wrap_id (i := k + 1) (by omega) (by omega), wrap_id (i := (e : Int) + 1 - 1) (by omega) (by omega), show (e : Int) + 1 - 1 = e by omega]
  refine Ev.bind (Ev.eq (front_at (by omega) (by omega) (by omega) (by omega))) (Ev.bind (Ev.eq (front_at (by omega) (by omega) (by omega) (by omega))) ?_)
  by_cases hlt : rd f (k - 1 + e + 1) < rd f (k + 1 + e + 1)
  · exact ins (.inr ⟨h2, hlt⟩) _ (by simpa using hlt)
  · exact del (fun hc => hc.elim h fun hc => hlt hc.2) _ (by simpa using hlt)
def toS (t : Nat × Nat × Nat) : S63 := ⟨t.1, t.2.1, t.2.2⟩
theorem total_append : ∀ (l m : List (Nat × Nat × Nat)), total (l ++ m) = total l + total m
  | [], m => by simp [total]
  | (a, b, n) :: l, m => by rw [List.cons_append, total, total, total_append l m]; omega
theorem rdL1_lt {l : List (List Int)} {i : Nat} (h : i < l.length) : rd_L1 l (i : Int) = l[i] := by
  simp [rd_L1, List.getD_eq_getElem?_getD, h]
theorem wraps (a b e : Nat) (i j : Int) (ha : a ≤ 2000000) (hb : b ≤ 2000000) (he : e ≤ 600) (hk : i - j = (a : Int) - b) :
    wrap64 (((e + 1 : Nat) : Int) - 1) = (e : Int) ∧ wrap64 (-((e + 1 : Nat) : Int)) = -((e : Int) + 1) ∧ wrap64 ((a : Int) - (i - j)) = (b : Int) ∧ wrap64 ((b : Int) - 1) = (b : Int) - 1 ∧ wrap64 ((a : Int) - 1) = (a : Int) - 1 ∧
      wrap64 (i - j) = i - j ∧ wrap64 (i - j - 1) = i - j - 1 ∧ wrap64 (i - j + 1) = i - j + 1 := by
  refine ⟨?_, ?_, ?_, ?_, ?_, ?_, ?_, ?_⟩ <;> rw [wrap_id (by omega) (by omega)] <;> omega
set_option maxHeartbeats 4000000 in
set_option maxRecDepth 10000 in
theorem back_loop {x y : ByteArray} (hx : x.size ≤ 1000000) (hy : y.size ≤ 1000000) (fr : List (List Int)) (hl : fr.length ≤ 600) (hfr : ∀ e : Nat, e + 1 < fr.length → FrontOk x y e (rd_L1 fr (e : Int))) :
    ∀ (d : Nat), d < fr.length → ∀ (i j : Int) (out : List S63), out.length + d ≤ 1000 → At (same x y) x.size y.size d (i - j) i →
      ∃ pre : List (Nat × Nat × Nat), Ev (fun k => diff_back.l0 k fr out i j (d : Int)) (pre.map toS ++ out) ∧ pre.length ≤ d + 1 ∧ 2 * total pre + d = i.toNat + j.toNat ∧
        ∀ rest, Stretches (same x y) x.size y.size i.toNat j.toNat rest → Stretches (same x y) x.size y.size 0 0 (pre ++ rest) := by
  have run : ∀ (d : Nat) (i j : Int) (a b s : Nat) (out : List S63), i = ((a + s : Nat) : Int) → j = ((b + s : Nat) : Int) → out.length ≤ 1000 → i ≤ 10000000 → j ≤ 10000000 → ∀ (r : List S63),
      Ev (fun k => diff_back.j2 k fr ((if 0 < s then [toS (a, b, s)] else []) ++ out) (d : Int) (i - j) (a : Int)) r → Ev (fun k => diff_back.j1 k fr out i (d : Int) (i - j) (a : Int)) r := by
    rintro d i j a b s out rfl rfl ho h1 h2 r h
    refine Ev.step (fun k => by rw [diff_back.j1]) ?_
    refine Ev.ite (fun hc => ?_) (fun hc => ?_)
    · rw [if_pos (by omega)] at h
      rw [wrap_id (by omega) (by omega), wrap_id (by omega) (by omega)]
      refine Ev.bind (Ev.now_ _) (Ev.pos (by simp; omega) ?_)
      have e : toS (a, b, s) = ⟨(a : Int), (a : Int) - (((a + s : Nat) : Int) - ((b + s : Nat) : Int)), ((a + s : Nat) : Int) - (a : Int)⟩ := by
        show (⟨(a : Int), (b : Int), (s : Int)⟩ : S63) = _
        rw [show (a : Int) - (((a + s : Nat) : Int) - ((b + s : Nat) : Int)) = b by omega, show ((a + s : Nat) : Int) - (a : Int) = s by omega]
      rw [e] at h
      exact h
    · rw [if_neg (by omega)] at h
      exact h
  have good : ∀ (a b s : Nat), (∀ t, t < s → a + t < x.size ∧ b + t < y.size ∧ same x y (a + t) (b + t)) → ∀ rest, Stretches (same x y) x.size y.size (a + s) (b + s) rest → Stretches (same x y) x.size y.size a b ((if 0 < s then [(a, b, s)] else []) ++ rest) := by
    intro a b s ha rest hg
    by_cases hs : 0 < s
    · rw [if_pos hs]
      have h1 := ha (s - 1) (by omega)
      exact ⟨Nat.le_refl _, Nat.le_refl _, hs, by omega, by omega, fun t ht => (ha t ht).2.2, hg⟩
    · rw [if_neg hs]
      have : s = 0 := by omega
      subst this
      exact hg
  intro d
  induction d with
  | zero =>
    intro hd i j out ho hA
    have hrg := at_range hA
    obtain ⟨a, b, ha, hb, hf⟩ := hA
    have hz := hf.1.zero rfl
    obtain rfl : a = b := hz.1
    have hij : i = ((0 + a : Nat) : Int) ∧ j = ((0 + a : Nat) : Int) := by omega
    have hall : ∀ t, t < a → 0 + t < x.size ∧ 0 + t < y.size ∧ same x y (0 + t) (0 + t) := fun t ht => by
      have h1 := hf.1.bound
      rw [Nat.zero_add]
      exact ⟨by omega, by omega, hz.2 t ht⟩
    refine ⟨(if 0 < a then [(0, 0, a)] else []), ?_, by split <;> simp, ?_, fun rest hg => good 0 0 a hall rest (by rwa [show i.toNat = 0 + a by omega, show j.toNat = 0 + a by omega] at hg)⟩
    · refine Ev.step (fun k => by rw [diff_back.l0]) (Ev.pos (by omega) (Ev.neg (by omega) ?_))
      rw [wrap_id (by omega) (by omega)]
      refine run 0 i j 0 0 a out hij.1 hij.2 (by omega) (by omega) (by omega) _ ?_
      refine Ev.step (fun k => by rw [diff_back.j2]) ?_
      refine Ev.pos (by omega) (Ev.cast (Ev.now_ _) ?_)
      split <;> rfl
    · split <;> simp [total] <;> omega
  | succ e ih =>
    intro hd i j out ho hA
    have hfe := hfr e (by omega)
    have hrg := at_range hA
    obtain ⟨a1, b1, ha1, hb1, hf⟩ := hA
    have hp := hf.1.parity
    obtain ⟨a, b, ha, hb, hre, hm⟩ := step_start (p := fun k' => rd (rd_L1 fr (e : Int)) (k' + e + 1)) (k := i - j) (by omega) (by omega) (by obtain ⟨c, h1, h2⟩ := hp; omega) hfe.2
    obtain ⟨s, hs1, hs2, hall⟩ := far_run hf (by omega) hre hm
    have hbd := hre.bound
    have hst := step_ev hfe (by omega) hx (k := i - j) (by omega) (by omega) (by obtain ⟨c, h1, h2⟩ := hp; omega)
    have hv : stepV (fun k' => rd (rd_L1 fr (e : Int)) (k' + e + 1)) e (i - j) = (a : Int) := ha.symm
    rw [hv] at hst
    have hi : i = ((a + s : Nat) : Int) := by omega
    have hj : j = ((b + s : Nat) : Int) := by omega
    have ho' : ((if 0 < s then [toS (a, b, s)] else []) ++ out).length ≤ out.length + 1 := by split <;> simp
    -- where the step came from
    have next : ∀ i' j' : Int, i'.toNat ≤ a → j'.toNat ≤ b → 0 ≤ i' → 0 ≤ j' → i'.toNat + j'.toNat + 1 = a + b → At (same x y) x.size y.size e (i' - j') i' →
        ∃ pre : List (Nat × Nat × Nat), Ev (fun k => diff_back.l0 k fr ((if 0 < s then [toS (a, b, s)] else []) ++ out) i' j' (e : Int)) (pre.map toS ++ out) ∧ pre.length ≤ e + 1 + 1 ∧ 2 * total pre + (e + 1) = i.toNat + j.toNat ∧
          ∀ rest, Stretches (same x y) x.size y.size i.toNat j.toNat rest → Stretches (same x y) x.size y.size 0 0 (pre ++ rest) := by
      intro i' j' h1 h2 h3 h4 h5 h6
      obtain ⟨pre, p1, p2, p3, p4⟩ := ih (by omega) i' j' ((if 0 < s then [toS (a, b, s)] else []) ++ out) (by omega) h6
      refine ⟨pre ++ (if 0 < s then [(a, b, s)] else []), Ev.cast p1 ?_, ?_, ?_, fun rest hg => ?_⟩
      · split <;> simp
      · rw [List.length_append]; split <;> simp <;> omega
      · rw [total_append]
        have : total (if 0 < s then [(a, b, s)] else []) = s := by split <;> simp [total] <;> omega
        omega
      · rw [List.append_assoc]
        refine p4 _ (Stretches.lower (good a b s hall rest ?_) h1 h2)
        rwa [show i.toNat = a + s by omega, show j.toNat = b + s by omega] at hg
    have ins : (i - j = -((e : Int) + 1) ∨ (i - j ≠ (e : Int) + 1 ∧ rd (rd_L1 fr (e : Int)) (i - j - 1 + e + 1) < rd (rd_L1 fr (e : Int)) (i - j + 1 + e + 1))) → ∃ pre : List (Nat × Nat × Nat), Ev (fun k => diff_back.l0 k fr ((if 0 < s then [toS (a, b, s)] else []) ++ out) (a : Int) ((b : Int) - 1) (e : Int)) (pre.map toS ++ out) ∧ pre.length ≤ e + 1 + 1 ∧ 2 * total pre + (e + 1) = i.toNat + j.toNat ∧
          ∀ rest, Stretches (same x y) x.size y.size i.toNat j.toNat rest → Stretches (same x y) x.size y.size 0 0 (pre ++ rest) := by
      intro hc
      have hAt := hfe.2 (i - j + 1) (by omega) (by omega) (by obtain ⟨c, h1, h2⟩ := hp; omega)
      have he : rd (rd_L1 fr (e : Int)) (i - j + 1 + e + 1) = (a : Int) := by rw [ha, if_pos hc]
      rw [he] at hAt
      have := at_range hAt
      exact next a ((b : Int) - 1) (by omega) (by omega) (by omega) (by omega) (by omega) (by rw [show (a : Int) - ((b : Int) - 1) = i - j + 1 by omega]; exact hAt)
    have del : ¬ (i - j = -((e : Int) + 1) ∨ (i - j ≠ (e : Int) + 1 ∧ rd (rd_L1 fr (e : Int)) (i - j - 1 + e + 1) < rd (rd_L1 fr (e : Int)) (i - j + 1 + e + 1))) → ∃ pre : List (Nat × Nat × Nat), Ev (fun k => diff_back.l0 k fr ((if 0 < s then [toS (a, b, s)] else []) ++ out) ((a : Int) - 1) (b : Int) (e : Int)) (pre.map toS ++ out) ∧ pre.length ≤ e + 1 + 1 ∧ 2 * total pre + (e + 1) = i.toNat + j.toNat ∧
          ∀ rest, Stretches (same x y) x.size y.size i.toNat j.toNat rest → Stretches (same x y) x.size y.size 0 0 (pre ++ rest) := by
      intro hc
      have hk : i - j ≠ -((e : Int) + 1) := fun h => hc (.inl h)
      have hAt := hfe.2 (i - j - 1) (by omega) (by omega) (by obtain ⟨c, h1, h2⟩ := hp; omega)
      have he : rd (rd_L1 fr (e : Int)) (i - j - 1 + e + 1) = (a : Int) - 1 := by rw [ha, if_neg hc]; omega
      rw [he] at hAt
      have := at_range hAt
      exact next ((a : Int) - 1) b (by omega) (by omega) (by omega) (by omega) (by omega) (by rw [show (a : Int) - 1 - (b : Int) = i - j - 1 by omega]; exact hAt)
    have hab : a ≤ 2000000 ∧ b ≤ 2000000 ∧ e ≤ 600 ∧ i - j = (a : Int) - b := by omega
    have W := Aside0.mk (wraps a b e i j hab.1 hab.2.1 hab.2.2.1 hab.2.2.2)
    clear hab
    have head : ∀ r, Ev (fun k => diff_back.j2 k fr ((if 0 < s then [toS (a, b, s)] else []) ++ out) ((e + 1 : Nat) : Int) (i - j) (a : Int)) r → Ev (fun k => diff_back.l0 k fr out i j ((e + 1 : Nat) : Int)) r := by
      intro r h
      refine Ev.step (fun k => by rw [diff_back.l0]) (Ev.pos (by omega) (Ev.pos (by omega) ?_))
      rw [W.out.1, W.out.2.2.2.2.2.1]
      refine Ev.pos (by omega) (Ev.pos (by omega) ?_)
      refine Ev.bind (a := (a : Int)) (by rw [show ((e + 1 : Nat) : Int) = (e : Int) + 1 by omega]; exact hst) ?_
      exact run (e + 1) i j a b s out hi hj (by omega) (by omega) (by omega) r h
    by_cases hc : i - j = -((e : Int) + 1) ∨ (i - j ≠ (e : Int) + 1 ∧ rd (rd_L1 fr (e : Int)) (i - j - 1 + e + 1) < rd (rd_L1 fr (e : Int)) (i - j + 1 + e + 1))
    · obtain ⟨pre, p1, p2⟩ := ins hc
      refine ⟨pre, head _ (Ev.step (fun k => by rw [diff_back.j2]) (Ev.neg (by omega) ?_)), p2⟩
      rw [W.out.1, W.out.2.1, W.out.2.2.1, W.out.2.2.2.1, W.out.2.2.2.2.1]
      refine Ev.ite (fun h => p1) (fun h => Ev.ite (fun h2 => by omega) (fun h2 => ?_))
      have h3 : rd (rd_L1 fr (e : Int)) (i - j - 1 + e + 1) < rd (rd_L1 fr (e : Int)) (i - j + 1 + e + 1) := by
        rcases hc with hc | hc
        · exact absurd hc h
        · exact hc.2
      refine Ev.pos (by omega) (Ev.pos (by omega) ?_)
      rw [W.out.2.2.2.2.2.2.1, W.out.2.2.2.2.2.2.2]
      have hl := hfe.1
      exact Ev.bind (Ev.eq (front_at (by omega) (by omega) (by omega) (by omega))) (Ev.bind (Ev.eq (front_at (by omega) (by omega) (by omega) (by omega))) (Ev.pos h3 p1))
    · obtain ⟨pre, p1, p2⟩ := del hc
      refine ⟨pre, head _ (Ev.step (fun k => by rw [diff_back.j2]) (Ev.neg (by omega) ?_)), p2⟩
      rw [W.out.1, W.out.2.1, W.out.2.2.1, W.out.2.2.2.1, W.out.2.2.2.2.1]
      refine Ev.ite (fun h => absurd (.inl h) hc) (fun h => Ev.ite (fun h2 => p1) (fun h2 => ?_))
      have h3 : ¬ rd (rd_L1 fr (e : Int)) (i - j - 1 + e + 1) < rd (rd_L1 fr (e : Int)) (i - j + 1 + e + 1) := fun hlt => hc (.inr ⟨by omega, hlt⟩)
      refine Ev.pos (by omega) (Ev.pos (by omega) ?_)
      rw [W.out.2.2.2.2.2.2.1, W.out.2.2.2.2.2.2.2]
      have hl := hfe.1
      exact Ev.bind (Ev.eq (front_at (by omega) (by omega) (by omega) (by omega))) (Ev.bind (Ev.eq (front_at (by omega) (by omega) (by omega) (by omega))) (Ev.neg h3 p1))
theorem back_ev {x y : ByteArray} (hx : x.size ≤ 1000000) (hy : y.size ≤ 1000000) (fr : List (List Int)) (D : Nat) (hD : fr.length = D + 1) (hl : fr.length ≤ 600) (hfr : ∀ e : Nat, e + 1 < fr.length → FrontOk x y e (rd_L1 fr (e : Int)))
    (hA : At (same x y) x.size y.size D ((x.size : Int) - y.size) x.size) :
    ∃ L : List (Nat × Nat × Nat), Ev (fun k => diff_back.f k x y fr) (L.map toS) ∧ L.length ≤ D + 1 ∧ Stretches (same x y) x.size y.size 0 0 L ∧ 2 * total L + D = x.size + y.size := by
  obtain ⟨pre, p1, p2, p3, p4⟩ := back_loop hx hy fr hl hfr D (by omega) x.size y.size [] (by simp; omega) hA
  refine ⟨pre, ?_, p2, ?_, by omega⟩
  · unfold diff_back.f
    rw [wrap_id (by omega) (by omega), show (fr.length : Int) - 1 = D by omega]
    exact Ev.cast p1 (List.append_nil _)
  · have := p4 [] ⟨by omega, by omega⟩
    rwa [List.append_nil] at this
end Go.Proofs.Ytoljmjhmieaggaa.Pure
