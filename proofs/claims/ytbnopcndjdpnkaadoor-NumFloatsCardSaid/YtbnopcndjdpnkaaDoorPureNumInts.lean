import Derived.Test.YtbnopcndjdpnkaaDoorX3
import Derived.Test.YtbnopcndjdpnkaaDoorNumP0
namespace Go.Proofs.YtbnopcndjdpnkaaDoor.Pure
open Go.RowKit Go.Proofs.YtbnopcndjdpnkaaDoor.X Go.Proofs.YtbnopcndjdpnkaaDoorW.PrintWords Go.Proofs.YtbnopcndjdpnkaaDoorW.PrintLast Go.Proofs.YtbnopcndjdpnkaaDoor.NuW
theorem uw3 (n : Int) : IntKind.u64.wrap n = n % 18446744073709551616 := by
  simp [IntKind.wrap, IntKind.signed, IntKind.bits]
theorem rdigits_l0 (t : ByteArray) (ht : t.size ≤ 4611686018427387904) : ∀ (k i : Nat), t.size < k + i → i ≤ t.size → (∀ j, j < i → isD (bt t (j : Int)) = true) → caulkerref05_digits.l0 k t (i : Int) = some (digB t)
  | 0, i, h, h1, _ => by omega
  | k + 1, i, h, h1, hj => by
    rw [caulkerref05_digits.l0]
    by_cases hi : i < t.size
    · rw [if_pos (by omega), if_pos (by omega)]
      have no : isD (bt t (i : Int)) = false → digB t = false := fun hc => by
        unfold digB
        rw [Bool.and_eq_false_iff]
        right
        rw [List.all_eq_false]
        exact ⟨i, List.mem_range.2 hi, by rw [hc]; simp⟩
      by_cases h2 : bt t (i : Int) < 48
      · rw [if_pos h2, no (by unfold isD; rw [decide_eq_false (by omega)]; rfl)]
      · rw [if_neg h2]
        by_cases h3 : bt t (i : Int) > 57
        · rw [if_pos h3, no (by unfold isD; rw [decide_eq_false (show ¬ bt t (i : Int) ≤ 57 by omega), Bool.and_false])]
        · rw [if_neg h3, wrap_id (by omega) (by omega), show (i : Int) + 1 = ((i + 1 : Nat) : Int) from rfl]
          refine rdigits_l0 t ht k (i + 1) (by omega) (by omega) (fun j hj2 => ?_)
          by_cases e : j = i
          · subst e; exact isD_iff.2 ⟨by omega, by omega⟩
          · exact hj j (by omega)
    · rw [if_neg (by omega)]
      have : i = t.size := by omega
      subst this
      congr 1
      unfold digB
      have hall : (List.range t.size).all (fun i => isD (bt t (i : Int))) = true := by
        rw [List.all_eq_true]
        intro j hj2
        exact hj j (List.mem_range.1 hj2)
      rw [hall, Bool.and_true, ByteArray.toList_eq]
      have hl : t.data.toList.length = t.size := Array.length_toList
      cases e : t.data.toList with
      | nil => rw [e] at hl; simp at hl; rw [← hl]; rfl
      | cons c r => rw [e] at hl; simp at hl; rw [← hl]; simp
theorem rstep (v d : Nat) (x : Int) (hx : x = 48 + (d : Int)) (hd : d ≤ 9) (hv : v < 9223372036854775808) :
    ((v : Int) > (IntKind.u64.wrap (Int.tdiv (IntKind.u64.wrap (9223372036854775807 - (IntKind.u64.wrap ((IntKind.u64.wrap x) - 48)))) 10)) ↔ 9223372036854775808 ≤ v * 10 + d) ∧
    (v * 10 + d < 9223372036854775808 → (IntKind.u64.wrap ((IntKind.u64.wrap (10 * (v : Int))) + (IntKind.u64.wrap ((IntKind.u64.wrap x) - 48)))) = ((v * 10 + d : Nat) : Int)) := by
  subst hx
  have e1 : IntKind.u64.wrap ((IntKind.u64.wrap (48 + (d : Int))) - 48) = d := by rw [uw3, uw3]; omega
  rw [e1, uw3, uw3, uw3, uw3, Int.tdiv_eq_ediv_of_nonneg (by omega)]
  constructor
  · omega
  · intro h; omega
theorem rint_l0 (s : ByteArray) (hs : s.size ≤ 100) (hd : ∀ i : Nat, i < s.size → 48 ≤ bt s (i : Int) ∧ bt s (i : Int) ≤ 57) : ∀ (k i : Nat), s.size < k + i → i ≤ s.size → ∀ (v T : Nat), v < 9223372036854775808 → valF v (s.data.toList.drop i) = T → caulkerref05_Int.l0 k s (v : Int) (i : Int) = some (if T < 9223372036854775808 then ((T : Int), 0) else (0, 1))
  | 0, i, h, h1, _, _, _, _ => by omega
  | k + 1, i, h, h1, v, T, hv, hT => by
    have hl : s.data.toList.length = s.size := Array.length_toList
    rw [caulkerref05_Int.l0]
    by_cases hi : i < s.size
    · rw [if_pos (by omega), if_pos (by omega)]
      rw [List.drop_eq_getElem_cons (by omega), valF_cons] at hT
      have hb : bt s (i : Int) = ((s.data.toList[i]'(by omega)).toNat : Int) := by
        unfold bt
        rw [dif_pos (by simpa using hi)]
        rfl
      have hdi := hd i hi
      generalize (s.data.toList[i]'(by omega)).toNat = c at hb hT
      obtain ⟨d, rfl⟩ : ∃ d, c = 48 + d := ⟨c - 48, by omega⟩
      rw [show 48 + d - 48 = d by omega] at hT
      obtain ⟨q1, q2⟩ := rstep v d (bt s (i : Int)) (by omega) (by omega) hv
      by_cases h3 : 9223372036854775808 ≤ v * 10 + d
      · rw [if_pos (q1.2 h3)]
        have := valF_le (s.data.toList.drop (i + 1)) (v * 10 + d)
        rw [if_neg (by omega)]
      · rw [if_neg (fun h => h3 (q1.1 h)), q2 (by omega), wrap_id (by omega) (by omega), show (i : Int) + 1 = ((i + 1 : Nat) : Int) from rfl]
        exact rint_l0 s hs hd k (i + 1) (by omega) (by omega) _ T (by omega) hT
    · rw [if_neg (by omega)]
      rw [List.drop_eq_nil_of_le (by omega), valF_nil] at hT
      subst hT
      rw [if_pos hv, wrap_id (by omega) (by omega)]
theorem NumInts0 (a0 : ByteArray) : ∃ k, caulkerlaw05_NumInts.f k a0 = some true := by
  refine ⟨200 + 1, ?_⟩
  unfold caulkerlaw05_NumInts.f
  rw [NumP.reckons, Option.bind_some, if_pos rfl]
  by_cases h : (a0.size : Int) > 100
  · rw [if_pos h]
  rw [if_neg h]
  have h0 : num_Int.f a0 = some (intV a0) := by
    show (if a0.size ≤ 281474976710656 then some ((intV a0).1, (intV a0).2) else none) = _
    rw [if_pos (by omega)]
  have h1 : caulkerref05_Int.f (200 + 1) a0 = some (intV a0) := by
    unfold caulkerref05_Int.f caulkerref05_digits.f
    rw [show (0 : Int) = ((0 : Nat) : Int) from rfl, rdigits_l0 a0 (by omega) (200 + 1) 0 (by omega) (by omega) (fun j hj => by omega), Option.bind_some]
    unfold intV
    cases hD : digB a0 with
    | false => rfl
    | true =>
      have hg := digB_get hD
      rw [if_pos rfl]
      have key : ∀ c : Bool, caulkerref05_Int.j0 (200 + 1) a0 c = if c = false then (if valF 0 a0.data.toList < 9223372036854775808 then some ((valF 0 a0.data.toList : Int), 0) else some (0, 1)) else some (0, 5) := by
        intro c
        cases c with
        | true => rfl
        | false =>
          rw [caulkerref05_Int.j0, if_neg (by decide), if_pos rfl]
          have := rint_l0 a0 (by omega) hg.2 200 0 (by omega) (by omega) 0 _ (by decide) rfl
          rw [List.drop_zero] at this
          rw [show ((0 : Nat) : Int) = 0 from rfl] at this
          rw [this]
          split <;> rfl
      by_cases h2 : (a0.size : Int) > 1
      · rw [if_pos h2, if_pos (by omega), key, decide_eq_true (show 1 < a0.size by omega)]
        cases hc : (bt a0 0 == 48) with
        | true =>
          rfl
        | false =>
          simp only [Bool.true_and, Bool.not_false, if_pos rfl]
          by_cases hT : valF 0 a0.data.toList < 9223372036854775808
          · simp [hT]
          · simp [hT]
      · rw [if_neg h2, key, decide_eq_false (show ¬ 1 < a0.size by omega), if_pos rfl]
        simp only [Bool.false_and, Bool.not_false, Bool.and_true, if_pos rfl]
        split <;> rfl
  rw [h0, h1, Option.bind_some, Option.bind_some, if_pos rfl]
  simp
theorem ints_any (a0 : ByteArray) (W : World) (hg : LexW.GV W) : Calls Tryd.prog 3 #[.string a0] W fun e W' => e = .returned (.bool true) ∧ Below W.heap.size W W' := by
  obtain ⟨k, h⟩ := NumInts0 a0
  exact caulkerlaw05_NumInts.calls k a0 true W h hg
end Go.Proofs.YtbnopcndjdpnkaaDoor.Pure
