import Derived.Test.YtbnopcndjdpnkaaDoorX6
import Derived.Test.YtbnopcndjdpnkaaDoorNumP0
namespace Go.Proofs.YtbnopcndjdpnkaaDoor.Pure
open Go.RowKit Go.Proofs.YtbnopcndjdpnkaaDoor.X Go.Proofs.YtbnopcndjdpnkaaDoorW.PrintWords Go.Proofs.YtbnopcndjdpnkaaDoorW.PrintLast
theorem uw (n : Int) : IntKind.u64.wrap n = n % 18446744073709551616 := by
  simp [IntKind.wrap, IntKind.signed, IntKind.bits]
theorem ww (n : Int) : wrap64 n % 18446744073709551616 = n % 18446744073709551616 := by
  unfold wrap64
  omega
theorem rem_of {a b : Int} (hb : b ≠ 0) : Int.tmod a b = a - b * Int.tdiv a b := by
  have := Int.tmod_add_tdiv_mul a b
  rw [Int.mul_comm]; omega
theorem divmod (a b q r : Int) (h : a = b * q + r) : IntKind.u64.wrap (IntKind.u64.wrap (IntKind.u64.wrap (wrap64 q) * IntKind.u64.wrap b) + IntKind.u64.wrap r) = IntKind.u64.wrap a := by
  simp only [uw, ww]
  rw [← Int.mul_emod, ← Int.add_emod, h, Int.mul_comm]
theorem j1_ok (k : Nat) (a b r : Int) (hb0 : b ≠ 0) (hb : -9223372036854775808 ≤ b ∧ b ≤ 9223372036854775807) (h1 : r < 0 → a < 0) (h2 : 0 < r → 0 ≤ a) (h3 : r < 0 → -r < b ∨ -r < -b) (h4 : 0 ≤ r → r < b ∨ r < -b) (hr : -9223372036854775808 ≤ r ∧ r ≤ 9223372036854775807) (c : Bool) (hc : c = false) :
    caulkerlaw05_NumWhole.j1 (k + 1) b (IntKind.u64.wrap b) r c = some true := by
  subst hc
  rw [caulkerlaw05_NumWhole.j1, if_neg (by decide)]
  simp only [uw]
  by_cases r0 : r < 0
  · rw [if_pos r0]
    have := h3 r0
    by_cases b0 : b < 0
    · rw [if_pos b0]; congr 1; apply decide_eq_true; omega
    · rw [if_neg b0]; congr 1; apply decide_eq_true; omega
  · rw [if_neg r0]
    have := h4 (by omega)
    by_cases b0 : b < 0
    · rw [if_pos b0]; congr 1; apply decide_eq_true; omega
    · rw [if_neg b0]; congr 1; apply decide_eq_true; omega
theorem i64_of {a : Int} (h : (Lit.int .i64 a).wf = true) : -9223372036854775808 ≤ a ∧ a ≤ 9223372036854775807 := by simpa [Lit.wf, IntKind.min, IntKind.max, IntKind.signed, IntKind.bits] using h
theorem rem_facts (a b : Int) (hb0 : b ≠ 0) (hb : -9223372036854775808 ≤ b ∧ b ≤ 9223372036854775807) : (Int.tmod a b < 0 → a < 0) ∧ (0 < Int.tmod a b → 0 ≤ a) ∧ (Int.tmod a b < 0 → -(Int.tmod a b) < b ∨ -(Int.tmod a b) < -b) ∧ (0 ≤ Int.tmod a b → Int.tmod a b < b ∨ Int.tmod a b < -b) ∧ (-9223372036854775808 ≤ Int.tmod a b ∧ Int.tmod a b ≤ 9223372036854775807) := by
  have hlt : (Int.tmod a b).natAbs < b.natAbs := by
    rw [Int.natAbs_tmod]
    exact Nat.mod_lt _ (by omega)
  have hs1 : 0 ≤ a → 0 ≤ Int.tmod a b := fun h => Int.tmod_nonneg b h
  have hs2 : a ≤ 0 → Int.tmod a b ≤ 0 := fun h => by
    have := Int.tmod_nonneg b (a := -a) (by omega)
    rw [Int.neg_tmod] at this; omega
  generalize Int.tmod a b = r at *
  refine ⟨?_, ?_, ?_, ?_, ?_, ?_⟩ <;> omega
theorem j0_ok (k : Nat) (a b q : Int) (e : Int) (hb : -9223372036854775808 ≤ b ∧ b ≤ 9223372036854775807) (hq : b = 0 → q = 0 ∧ e = 1) (he : b ≠ 0 → e = 0) (c : Bool) (hc : c = true) : caulkerlaw05_NumWhole.j0 (k + 1 + 1) a b q e (IntKind.u64.wrap a) (IntKind.u64.wrap b) c = some true := by
  subst hc
  rw [caulkerlaw05_NumWhole.j0, if_pos rfl]
  by_cases b0 : b = 0
  · obtain ⟨rfl, rfl⟩ := hq b0
    rw [if_pos b0]; rfl
  · rw [if_neg b0]
    obtain rfl := he b0
    have t1 : num_Op.f (k + 1) (⟨#[47]⟩ : ByteArray) a b = num_Op.j0 (k + 1) (⟨#[47]⟩ : ByteArray) a b true := NumP.opq _ _ _
    have t2 : num_Op.f (k + 1) (⟨#[37]⟩ : ByteArray) a b = num_Op.j0 (k + 1) (⟨#[37]⟩ : ByteArray) a b true := NumP.opr _ _ _
    by_cases b1 : b = -1
    · subst b1
      rw [t1, t2, show num_Op.j0 (k + 1) (⟨#[47]⟩ : ByteArray) a (-1) true = some (wrap64 (-a), 0) from by rw [num_Op.j0, NumP.tl47]; rfl, show num_Op.j0 (k + 1) (⟨#[37]⟩ : ByteArray) a (-1) true = some (0, 0) from by rw [num_Op.j0, NumP.tl37]; rfl, Option.bind_some, Option.bind_some, if_pos (show wrap64 (wrap64 (0 + 0) + 0) = 0 by decide +kernel)]
      dsimp only
      rw [if_pos (divmod a (-1) (-a) 0 (by omega)), if_pos rfl]
      exact j1_ok k a (-1) 0 (by decide) hb (by omega) (by omega) (by omega) (by omega) (by omega) _ rfl
    · have u1 : num_Op.j0 (k + 1) (⟨#[47]⟩ : ByteArray) a b true = some (wrap64 (Int.tdiv a b), 0) := by rw [num_Op.j0, if_pos rfl, if_neg b0, if_neg b1, NumP.tl47]; rfl
      have u2 : num_Op.j0 (k + 1) (⟨#[37]⟩ : ByteArray) a b true = some (Int.tmod a b, 0) := by rw [num_Op.j0, if_pos rfl, if_neg b0, if_neg b1, NumP.tl37]; rfl
      rw [t1, t2, u1, u2, Option.bind_some, Option.bind_some, if_pos (show wrap64 (wrap64 (0 + 0) + 0) = 0 by decide +kernel)]
      dsimp only
      obtain ⟨f1, f2, f3, f4, f5⟩ := rem_facts a b b0 hb
      rw [if_pos (divmod a b (Int.tdiv a b) (Int.tmod a b) (by rw [rem_of b0]; omega))]
      by_cases r0 : Int.tmod a b = 0
      · rw [if_pos r0]
        exact j1_ok k a b _ b0 hb f1 f2 f3 f4 f5 _ rfl
      · rw [if_neg r0]
        refine j1_ok k a b _ b0 hb f1 f2 f3 f4 f5 _ ?_
        have : (decide (Int.tmod a b < 0)) = decide (a < 0) := by
          apply decide_eq_decide.2
          constructor
          · exact f1
          · intro h
            rcases Int.lt_trichotomy (Int.tmod a b) 0 with g | g | g
            · exact g
            · exact absurd g r0
            · exact absurd (f2 g) (by omega)
        rw [this]; cases decide (a < 0) <;> rfl
theorem NumWhole0 (a0 : ByteArray) (a1 a2 : Int) (w1 : (Lit.int .i64 a1).wf = true) (w2 : (Lit.int .i64 a2).wf = true) : ∃ k, caulkerlaw05_NumWhole.f k a0 a1 a2 = some true := by
  have g2 := i64_of w2
  refine ⟨0 + 1 + 1, ?_⟩
  unfold caulkerlaw05_NumWhole.f
  rw [NumP.reckons, Option.bind_some, if_pos rfl]
  unfold num_Op.f
  by_cases e1 : a0.toList = ([43] : List UInt8)
  · rw [if_pos e1, Option.bind_some, if_pos e1, if_pos rfl]
    simp only [uw, ww]
    rw [← Int.add_emod]; simp
  by_cases e2 : a0.toList = ([45] : List UInt8)
  · rw [if_neg e1, if_pos e2, Option.bind_some, if_neg e1, if_pos e2, if_pos rfl]
    simp only [uw, ww]
    rw [← Int.add_emod, Int.sub_add_cancel]; simp
  by_cases e3 : a0.toList = ([42] : List UInt8)
  · rw [if_neg e1, if_neg e2, if_pos e3, Option.bind_some, if_neg e1, if_neg e2, if_pos e3, if_pos rfl]
    dsimp only
    rw [if_pos (by simp only [uw, ww]; rw [← Int.mul_emod])]
    unfold num_Neg.f
    rw [Option.bind_some]
    generalize wrap64 (a1 * a2) = x
    simp only [uw, ww]
    rw [← Int.add_emod, Int.add_left_neg]; rfl
  rw [if_neg e1, if_neg e2, if_neg e3]
  by_cases e4 : a0.toList = ([47] : List UInt8)
  · rw [if_pos e4]
    rw [e4, show (([47] : List UInt8) == [47]) = true from rfl, num_Op.j0, if_pos rfl]
    by_cases b0 : a2 = 0
    · rw [if_pos b0, Option.bind_some, if_neg (by decide), if_neg (by decide), if_neg (by decide), if_pos rfl]
      exact j0_ok 0 a1 a2 0 1 g2 (fun _ => ⟨rfl, rfl⟩) (fun h => absurd b0 h) _ rfl
    · rw [if_neg b0]
      by_cases b1 : a2 = -1
      · rw [if_pos b1, e4, if_neg (by decide), Option.bind_some, if_neg (by decide), if_neg (by decide), if_neg (by decide), if_pos rfl]
        exact j0_ok 0 a1 a2 _ 0 g2 (fun h => absurd h b0) (fun _ => rfl) _ rfl
      · rw [if_neg b1, e4, if_pos rfl, Option.bind_some, if_neg (by decide), if_neg (by decide), if_neg (by decide), if_pos rfl]
        exact j0_ok 0 a1 a2 _ 0 g2 (fun h => absurd h b0) (fun _ => rfl) _ rfl
  · rw [if_neg e4]
    by_cases e5 : a0.toList = ([37] : List UInt8)
    · rw [e5, show (([37] : List UInt8) == [37]) = true from rfl, num_Op.j0, if_pos rfl]
      by_cases b0 : a2 = 0
      · rw [if_pos b0, Option.bind_some, if_neg (by decide), if_neg (by decide), if_neg (by decide), if_neg (by decide)]
        exact j0_ok 0 a1 a2 0 1 g2 (fun _ => ⟨rfl, rfl⟩) (fun h => absurd b0 h) _ rfl
      · rw [if_neg b0]
        by_cases b1 : a2 = -1
        · rw [if_pos b1, e5, if_pos rfl, Option.bind_some, if_neg (by decide), if_neg (by decide), if_neg (by decide), if_neg (by decide)]
          exact j0_ok 0 a1 a2 _ 0 g2 (fun h => absurd h b0) (fun _ => rfl) _ rfl
        · rw [if_neg b1, e5, if_neg (by decide), Option.bind_some, if_neg (by decide), if_neg (by decide), if_neg (by decide), if_neg (by decide)]
          exact j0_ok 0 a1 a2 _ 0 g2 (fun h => absurd h b0) (fun _ => rfl) _ rfl
    · rw [show (a0.toList == ([37] : List UInt8)) = false from beq_eq_false_iff_ne.2 e5, num_Op.j0, if_neg (by decide), Option.bind_some, if_neg e1, if_neg e2, if_neg e3, if_neg e4]
      rfl
theorem whole_any (a0 : ByteArray) (a1 a2 : Int) (w1 : (Lit.int .i64 a1).wf = true) (w2 : (Lit.int .i64 a2).wf = true) (W : World) (hg : LexW.GV W) : Calls Tryd.prog 6 #[.string a0, .int .i64 a1, .int .i64 a2] W fun e W' => e = .returned (.bool true) ∧ Below W.heap.size W W' := by
  obtain ⟨k, h⟩ := NumWhole0 a0 a1 a2 w1 w2
  exact caulkerlaw05_NumWhole.calls k a0 a1 a2 true W h hg
end Go.Proofs.YtbnopcndjdpnkaaDoor.Pure
