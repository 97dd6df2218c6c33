import Derived.Test.YtbnopcndjdpnkaaDoorX8
import Derived.Test.YtbnopcndjdpnkaaDoorNumP0
import Derived.Test.YtbnopcndjdpnkaaDoorNumE1
import Derived.Test.YtbnopcndjdpnkaaDoorNumP1
import Derived.Test.YtbnopcndjdpnkaaDoorNumP2
namespace Go.Proofs.YtbnopcndjdpnkaaDoor.Pure
open Go.RowKit Go.Proofs.YtbnopcndjdpnkaaDoor.X Go.Proofs.YtbnopcndjdpnkaaDoorW.PrintWords Go.Proofs.YtbnopcndjdpnkaaDoorW.PrintLast Go.Proofs.YtbnopcndjdpnkaaDoor.NuW Go.Proofs.YtbnopcndjdpnkaaDoor.Fl
theorem u64_of {a : Int} (h : (Lit.int .u64 a).wf = true) : 0 ≤ a ∧ a ≤ 18446744073709551615 := by simpa [Lit.wf, IntKind.min, IntKind.max, IntKind.signed, IntKind.bits] using h
theorem op_add (n m : Nat) : num_FloatOp.f (⟨#[43]⟩ : ByteArray) (n : Int) (m : Int) = some (((fop .add n m : Nat) : Int), 0) := by
  unfold num_FloatOp.f LexW.fOp
  rw [if_pos ⟨by omega, by omega⟩, if_pos rfl, Int.toNat_natCast, Int.toNat_natCast]
theorem op_sub (n m : Nat) : num_FloatOp.f (⟨#[45]⟩ : ByteArray) (n : Int) (m : Int) = some (((fop .sub n m : Nat) : Int), 0) := by
  unfold num_FloatOp.f LexW.fOp
  rw [if_pos ⟨by omega, by omega⟩, if_neg (by decide), if_pos rfl, Int.toNat_natCast, Int.toNat_natCast]
theorem op_mul (n m : Nat) : num_FloatOp.f (⟨#[42]⟩ : ByteArray) (n : Int) (m : Int) = some (((fop .mul n m : Nat) : Int), 0) := by
  unfold num_FloatOp.f LexW.fOp
  rw [if_pos ⟨by omega, by omega⟩, if_neg (by decide), if_neg (by decide), if_pos rfl, Int.toNat_natCast, Int.toNat_natCast]
theorem op_neg (m : Nat) (h : m < 18446744073709551616) : num_FloatNeg.f (m : Int) = some ((fneg m : Nat) : Int) := by
  unfold num_FloatNeg.f LexW.fNeg
  rw [if_pos ⟨by omega, by omega⟩, Int.toNat_natCast]
theorem op_quo (n m : Nat) : num_FloatOp.f (⟨#[47]⟩ : ByteArray) (n : Int) (m : Int) = some (((fop .quo n m : Nat) : Int), 0) := by
  unfold num_FloatOp.f LexW.fOp
  rw [if_pos ⟨by omega, by omega⟩, if_neg (by decide), if_neg (by decide), if_neg (by decide), if_pos rfl, Int.toNat_natCast, Int.toNat_natCast]
theorem inf_eq (n : Nat) (h : n < 18446744073709551616) : caulkerref05_Inf.f (n : Int) = some (decide (rung n = 9218868437227405312)) := by
  unfold caulkerref05_Inf.f
  rw [parts_eq n h, Option.bind_some]
  dsimp only
  unfold rung
  by_cases h1 : ((n / 4503599627370496 % 2048 : Nat) : Int) = 2047
  · rw [if_pos h1]
    congr 1
    rw [Bool.eq_iff_iff, beq_iff_eq, decide_eq_true_iff]
    omega
  · rw [if_neg h1]
    congr 1
    rw [Bool.eq_iff_iff, decide_eq_true_iff]
    constructor
    · intro h; cases h
    · intro h; omega
theorem edge (r : Nat) (h : r < 18446744073709551616) (hn : isN r = true → r = nanB) : Go.Proofs.YtbnopcndjdpnkaaDoor.X.Edge (r : Int) :=
  ⟨isN r, none_eq r h, fun g => by rw [hn g]; rfl⟩
section
variable (k : Nat) (x0 x1 x10 x11 x12 x13 x20 : Int) (s t iA iB zA zB : Bool)
theorem j12_true
  (h1 : ((iA && iB) || (zA && zB)) = true → x13 = 9221120237041090561)
  (h2 : ((iA && iB) || (zA && zB)) = false → (iA || zB) = true → x13 = IntKind.u64.wrap (x20 + 9218868437227405312))
  (h3 : ((iA && iB) || (zA && zB)) = false → (iA || zB) = false → (iB || zA) = true → x13 = x20)
  (h4 : ∃ y, num_FloatNeg.f x0 = some y ∧ num_FloatNeg.f y = some x0) : caulkerlaw05_NumEdges.j12 (k + 4) x0 x13 x20 iA iB zA zB = some true := by
  obtain ⟨y, hy1, hy2⟩ := h4
  cases iA <;> cases iB <;> cases zA <;> cases zB <;> simp_all [caulkerlaw05_NumEdges.j12, caulkerlaw05_NumEdges.j13, caulkerlaw05_NumEdges.j14, caulkerlaw05_NumEdges.j15]
theorem j8_true
  (hc : ∀ k, caulkerlaw05_NumEdges.j12 (k + 4) x0 x13 x20 iA iB zA zB = some true)
  (h1 : ((iA && zB) || (zA && iB)) = true → x12 = 9221120237041090561)
  (h2 : ((iA && zB) || (zA && iB)) = false → (iA || iB) = true → x12 = IntKind.u64.wrap (x20 + 9218868437227405312))
  (h3 : ((iA && zB) || (zA && iB)) = false → (iA || iB) = false → (zA || zB) = true → x12 = x20) : caulkerlaw05_NumEdges.j8 (k + 8) x0 x12 x13 x20 iA iB zA zB false = some true := by
  cases iA <;> cases iB <;> cases zA <;> cases zB <;> simp_all [caulkerlaw05_NumEdges.j8, caulkerlaw05_NumEdges.j9, caulkerlaw05_NumEdges.j10, caulkerlaw05_NumEdges.j11]
theorem j7_true
  (hc : ∀ k, caulkerlaw05_NumEdges.j8 (k + 8) x0 x12 x13 x20 iA iB zA zB false = some true)
  (h1 : x0 = x1 → iA = false → x11 = 0)
  (h2 : (zA && zB) = true → x10 = Go.bits .and .u64 x0 x1) : caulkerlaw05_NumEdges.j7 (k + 9) x0 x1 x10 x11 x12 x13 x20 iA iB zA zB false = some true := by
  by_cases e : x0 = x1
  · cases iA <;> cases zA <;> cases zB <;> simp_all [caulkerlaw05_NumEdges.j7]
  · cases iA <;> cases zA <;> cases zB <;> simp_all [caulkerlaw05_NumEdges.j7]
theorem j6_true
  (hc : ∀ k, caulkerlaw05_NumEdges.j7 (k + 9) x0 x1 x10 x11 x12 x13 x20 iA iB zA zB false = some true)
  (h1 : iA = true → iB = false → x10 = x0 ∧ x11 = x0)
  (h2 : iB = true → iA = false → x10 = x1 ∧ num_FloatNeg.f x1 = some x11) : caulkerlaw05_NumEdges.j6 (k + 10) x0 x1 x10 x11 x12 x13 x20 iA iB zA zB false = some true := by
  cases iA <;> cases iB <;> simp_all [caulkerlaw05_NumEdges.j6]
theorem j5_true
  (hc : ∀ k, caulkerlaw05_NumEdges.j6 (k + 10) x0 x1 x10 x11 x12 x13 x20 iA iB zA zB false = some true)
  (e1 : caulkerref05_Inf.f x0 = some iA) (e2 : caulkerref05_Inf.f x1 = some iB) (e3 : caulkerref05_Zero.f x0 = some zA) (e4 : caulkerref05_Zero.f x1 = some zB)
  (h1 : (iA && iB) = true → (x10 == 9221120237041090561) = (s != t))
  (h2 : (iA && iB) = true → (x11 == 9221120237041090561) = (s == t)) : caulkerlaw05_NumEdges.j5 (k + 11) x0 x1 x10 x11 x12 x13 s t x20 = some true := by
  show caulkerlaw05_NumEdges.j5 (k + 10 + 1) _ _ _ _ _ _ _ _ _ = _
  rw [caulkerlaw05_NumEdges.j5, e1, Option.bind_some, e2, Option.bind_some, e3, Option.bind_some, e4, Option.bind_some]
  cases iA
  · rw [if_neg (by decide)]; exact hc k
  · rw [if_pos rfl]
    cases iB
    · rw [if_neg (by decide)]; exact hc k
    · rw [if_pos rfl, h1 rfl, h2 rfl, bne_self_eq_false, bne_self_eq_false, if_neg (by decide)]
      exact hc k
end
def sgnI (s : Bool) : Int := if s then 9223372036854775808 else 0
theorem wd_inf (s : Bool) : ((wd s 9218868437227405312 : Nat) : Int) = IntKind.u64.wrap (sgnI s + 9218868437227405312) := by
  cases s <;> decide
theorem wd_0 (s : Bool) : ((wd s 0 : Nat) : Int) = sgnI s := by cases s <;> decide
theorem sgn_dec (n : Nat) (h : n < 18446744073709551616) : decide (9223372036854775808 ≤ n) = sgn n := by
  unfold sgn
  rw [Bool.eq_iff_iff, decide_eq_true_iff, beq_iff_eq]
  omega
theorem fneg_fin (n : Nat) (h : n < 18446744073709551616) (hn : isN n = false) : fneg n = wd (!sgn n) (rung n) := by
  unfold fneg
  rw [hn, if_neg (by decide)]
  by_cases h1 : n < 9223372036854775808
  · rw [NumP.xor_low n h1]
    have : sgn n = false := by rw [← sgn_dec n h]; exact decide_eq_false (by omega)
    rw [this]
    show _ = 9223372036854775808 + rung n
    unfold rung; omega
  · rw [NumP.xor_high n (by omega) h]
    have : sgn n = true := by rw [← sgn_dec n h]; exact decide_eq_true (by omega)
    rw [this]
    show _ = rung n
    unfold rung; omega
theorem wd_parts (s : Bool) (r : Nat) (h : r < 9223372036854775808) : sgn (wd s r) = s ∧ rung (wd s r) = r ∧ wd s r < 18446744073709551616 := by
  have hl : wd s r < 18446744073709551616 := by unfold wd; split <;> omega
  refine ⟨?_, ?_, hl⟩
  · rw [← sgn_dec _ hl]
    cases s
    · exact decide_eq_false (by show ¬ 9223372036854775808 ≤ r; omega)
    · exact decide_eq_true (by show 9223372036854775808 ≤ 9223372036854775808 + r; omega)
  · unfold rung
    cases s
    · show r % 9223372036854775808 = r; omega
    · show (9223372036854775808 + r) % 9223372036854775808 = r; omega
theorem rung_lt (n : Nat) : rung n < 9223372036854775808 := by unfold rung; omega
theorem neg_neg (n : Nat) (h : n < 18446744073709551616) (hn : isN n = false) : fneg (fneg n) = n ∧ fneg n < 18446744073709551616 := by
  rw [fneg_fin n h hn]
  obtain ⟨p1, p2, p3⟩ := wd_parts (!sgn n) (rung n) (rung_lt n)
  have hn2 : isN (wd (!sgn n) (rung n)) = false := by
    unfold isN at hn ⊢
    rw [p2]; exact hn
  refine ⟨?_, p3⟩
  rw [fneg_fin _ p3 hn2, p1, p2, Bool.not_not]
  exact (word_of n h).symm
theorem nan_int : ((nanB : Nat) : Int) = 9221120237041090561 := by decide
theorem wd_nn (s : Bool) : (((wd s 9218868437227405312 : Nat) : Int) == 9221120237041090561) = false := by cases s <;> decide
theorem and_zz (s t : Bool) : Go.bits .and .u64 ((wd s 0 : Nat) : Int) ((wd t 0 : Nat) : Int) = ((wd (s && t) 0 : Nat) : Int) := by
  cases s <;> cases t <;> decide
theorem NumEdges0 (n m : Nat) (hn : n < 18446744073709551616) (hm : m < 18446744073709551616) : caulkerlaw05_NumEdges.j3 (12 + 1) (n : Int) (m : Int) ((fop .add n m : Nat) : Int) ((fop .sub n m : Nat) : Int) ((fop .mul n m : Nat) : Int) ((fop .quo n m : Nat) : Int) false = some true := by
  rw [caulkerlaw05_NumEdges.j3, if_neg (by decide), none_eq n hn, Option.bind_some, none_eq m hm, Option.bind_some]
  by_cases hnan : isN n = true ∨ isN m = true
  · have hj : (if isN n = true then caulkerlaw05_NumEdges.j4 12 (n : Int) (m : Int) ((fop .add n m : Nat) : Int) ((fop .sub n m : Nat) : Int) ((fop .mul n m : Nat) : Int) ((fop .quo n m : Nat) : Int) true else caulkerlaw05_NumEdges.j4 12 (n : Int) (m : Int) ((fop .add n m : Nat) : Int) ((fop .sub n m : Nat) : Int) ((fop .mul n m : Nat) : Int) ((fop .quo n m : Nat) : Int) (isN m)) = caulkerlaw05_NumEdges.j4 (11 + 1) (n : Int) (m : Int) ((fop .add n m : Nat) : Int) ((fop .sub n m : Nat) : Int) ((fop .mul n m : Nat) : Int) ((fop .quo n m : Nat) : Int) true := by
      by_cases h : isN n = true
      · rw [if_pos h]
      · rw [if_neg h, hnan.resolve_left h]
    obtain ⟨o1, o2, o3, o4⟩ := op_nan hnan
    rw [hj, o1, o2, o3, o4, nan_int, caulkerlaw05_NumEdges.j4, if_pos rfl, if_pos rfl, if_pos rfl, if_pos rfl, if_pos rfl, ← nan_int, op_neg nanB (by decide), Option.bind_some]
    rfl
  · have h1 : isN n = false := by cases h : isN n with | false => rfl | true => exact absurd (Or.inl h) hnan
    have h2 : isN m = false := by cases h : isN m with | false => rfl | true => exact absurd (Or.inr h) hnan
    rw [h1, h2, if_neg (by decide)]
    show caulkerlaw05_NumEdges.j4 (11 + 1) _ _ _ _ _ _ _ = _
    have r1 : rung n ≤ 9218868437227405312 := by unfold isN at h1; have := of_decide_eq_false h1; omega
    have r2 : rung m ≤ 9218868437227405312 := by unfold isN at h2; have := of_decide_eq_false h2; omega
    have hj : ∀ F : Int → Option Bool, (∀ s, F (sgnI s) = some true) → (if (sgn n != sgn m) = true then F 9223372036854775808 else F 0) = some true := by
      intro F hF
      by_cases c : (sgn n != sgn m) = true
      · rw [if_pos c]; exact hF true
      · rw [if_neg c]; exact hF false
    rw [caulkerlaw05_NumEdges.j4, if_neg (by decide), parts_eq n hn, Option.bind_some, parts_eq m hm, Option.bind_some]
    dsimp only
    rw [sgn_dec n hn, sgn_dec m hm]
    have hgo : caulkerlaw05_NumEdges.j5 (0 + 11) (n : Int) (m : Int) ((fop .add n m : Nat) : Int) ((fop .sub n m : Nat) : Int) ((fop .mul n m : Nat) : Int) ((fop .quo n m : Nat) : Int) (sgn n) (sgn m) (sgnI (sgn n ^^ sgn m)) = some true := by
      refine j5_true 0 _ _ _ _ _ _ _ _ _ _ _ _ _ (fun k => j6_true k _ _ _ _ _ _ _ _ _ _ _ (fun k => j7_true k _ _ _ _ _ _ _ _ _ _ _ (fun k => j8_true k _ _ _ _ _ _ _ _ (fun k => j12_true k _ _ _ _ _ _ _ ?_ ?_ ?_ ?_) ?_ ?_ ?_) ?_ ?_) ?_ ?_) (inf_eq n hn) (inf_eq m hm) (zero_eq n hn) (zero_eq m hm) ?_ ?_
      all_goals try simp only [Bool.or_eq_true, Bool.or_eq_false_iff, Bool.and_eq_true, Bool.and_eq_false_iff, decide_eq_true_iff, decide_eq_false_iff_not]
      · rintro (⟨a, b⟩ | ⟨a, b⟩)
        · rw [quo_ii a b]; exact nan_int
        · rw [quo_zz a b]; exact nan_int
      · intro g0 g
        obtain ⟨g1, g2⟩ := g0
        rcases g with a | b
        · rw [quo_in a (by omega)]; exact wd_inf _
        · by_cases a : rung n = 9218868437227405312
          · rw [quo_in a (by omega)]; exact wd_inf _
          · rw [quo_nz (by omega) (by omega) b]; exact wd_inf _
      · rintro ⟨g1, g2⟩ ⟨g3, g4⟩ (a | b)
        · rw [quo_ni (by omega) a]; exact wd_0 _
        · by_cases a : rung m = 9218868437227405312
          · rw [quo_ni (by omega) a]; exact wd_0 _
          · rw [quo_zn b (by omega) (by omega)]; exact wd_0 _
      · obtain ⟨q1, q2⟩ := neg_neg n hn h1
        exact ⟨_, op_neg n hn, by rw [op_neg _ q2, q1]⟩
      · rintro (⟨a, b⟩ | ⟨a, b⟩)
        · rw [mul_iz a b]; exact nan_int
        · rw [mul_zi a b]; exact nan_int
      · rintro ⟨g1, g2⟩ (a | b)
        · by_cases b : rung m = 9218868437227405312
          · rw [mul_ii a b]; exact wd_inf _
          · rw [mul_in a (by omega) (by omega)]; exact wd_inf _
        · by_cases a : rung n = 9218868437227405312
          · rw [mul_ii a b]; exact wd_inf _
          · rw [mul_ni (by omega) (by omega) b]; exact wd_inf _
      · rintro ⟨g1, g2⟩ ⟨g3, g4⟩ (a | b)
        · rw [mul_zn a (by omega)]; exact wd_0 _
        · rw [mul_nz (by omega) b]; exact wd_0 _
      · intro e g
        obtain rfl : n = m := by omega
        rw [sub_self' (by omega)]; rfl
      · rintro ⟨a, b⟩
        rw [add_zz a b]
        have e1 := word_of n hn
        have e2 := word_of m hm
        rw [a] at e1
        rw [b] at e2
        rw [← and_zz, ← e1, ← e2]
      · intro a b
        rw [add_in a (by omega), sub_in a (by omega)]
        have e1 := word_of n hn
        rw [a] at e1
        rw [← e1]
        exact ⟨rfl, rfl⟩
      · intro b a
        rw [add_ni (by omega) b, sub_ni (by omega) b, op_neg m hm, fneg_fin m hm h2]
        have e1 := word_of m hm
        rw [b] at e1 ⊢
        exact ⟨by rw [← e1], rfl⟩
      · rintro ⟨a, b⟩
        rw [add_ii a b]
        by_cases c : sgn n = sgn m
        · rw [if_pos c, wd_nn, c, bne_self_eq_false]
        · rw [if_neg c, bne_iff_ne.2 c]; rfl
      · rintro ⟨a, b⟩
        rw [sub_ii a b]
        by_cases c : sgn n = sgn m
        · rw [c, if_neg (by cases sgn m <;> decide), beq_self_eq_true]; rfl
        · rw [if_pos (by revert c; cases sgn n <;> cases sgn m <;> decide), wd_nn, beq_eq_false_iff_ne.2 c]
    by_cases c : (sgn n != sgn m) = true
    · rw [if_pos c]
      have : (sgn n ^^ sgn m) = true := by revert c; cases sgn n <;> cases sgn m <;> decide
      rw [this] at hgo
      exact hgo
    · rw [if_neg c]
      have : (sgn n ^^ sgn m) = false := by revert c; cases sgn n <;> cases sgn m <;> decide
      rw [this] at hgo
      exact hgo
theorem edges_any (a0 a1 : Int) (w0 : (Lit.int .u64 a0).wf = true) (w1 : (Lit.int .u64 a1).wf = true) (W : World) (hg : LexW.GV W) : Calls Tryd.prog 8 #[.int .u64 a0, .int .u64 a1] W fun e W' => e = .returned (.bool true) ∧ Below W.heap.size W W' := by
  have g0 := u64_of w0
  have g1 := u64_of w1
  obtain ⟨n, rfl⟩ : ∃ n : Nat, a0 = (n : Int) := ⟨a0.toNat, by omega⟩
  obtain ⟨m, rfl⟩ : ∃ m : Nat, a1 = (m : Int) := ⟨a1.toNat, by omega⟩
  exact caulkerlaw05_NumEdges.calls 12 (0 + 1) _ _ _ _ _ _ true W (NumP.reckons 0) (op_add n m) (edge _ (add_lt n m) fop_isN) (op_sub n m) (edge _ (sub_lt n m) fop_isN) (op_mul n m) (edge _ (mul_lt n m) fop_isN) (op_quo n m) (edge _ (quo_lt n m) fop_isN) (NumEdges0 n m (by omega) (by omega)) hg
end Go.Proofs.YtbnopcndjdpnkaaDoor.Pure
