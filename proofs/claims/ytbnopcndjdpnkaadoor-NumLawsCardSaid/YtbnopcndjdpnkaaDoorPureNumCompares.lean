import Derived.Test.YtbnopcndjdpnkaaDoorX7
import Derived.Test.YtbnopcndjdpnkaaDoorNumP0
import Derived.Test.YtbnopcndjdpnkaaDoorNumP1
import Derived.Test.YtbnopcndjdpnkaaDoorM35
namespace Go.Proofs.YtbnopcndjdpnkaaDoor.Pure
open Go.RowKit Go.Proofs.YtbnopcndjdpnkaaDoor.X Go.Proofs.YtbnopcndjdpnkaaDoorW.PrintWords Go.Proofs.YtbnopcndjdpnkaaDoorW.PrintLast Go.Proofs.YtbnopcndjdpnkaaDoor.NuW Go.Proofs.YtbnopcndjdpnkaaDoor.Fl
theorem fLt_eq (n m : Nat) : fLt n m = (!isN n && !isN m && decide (key n < key m)) := by
  unfold fLt
  cases hn : isN n with
  | true => rw [order_nan (Or.inl hn)]; rfl
  | false =>
    cases hm : isN m with
    | true => rw [order_nan (Or.inr hm)]; rfl
    | false =>
      rw [order_key hn hm, Bool.eq_iff_iff]
      simp [Int.compare_eq_lt]
theorem fEq_eq (n m : Nat) : fEq n m = (!isN n && !isN m && decide (key n = key m)) := by
  unfold fEq
  cases hn : isN n with
  | true => rw [order_nan (Or.inl hn)]; rfl
  | false =>
    cases hm : isN m with
    | true => rw [order_nan (Or.inr hm)]; rfl
    | false =>
      rw [order_key hn hm, Bool.eq_iff_iff]
      simp [Int.compare_eq_eq]
theorem fGt_eq (n m : Nat) : fGt n m = (!isN n && !isN m && decide (key m < key n)) := by
  unfold fGt
  cases hn : isN n with
  | true => rw [order_nan (Or.inl hn)]; rfl
  | false =>
    cases hm : isN m with
    | true => rw [order_nan (Or.inr hm)]; rfl
    | false =>
      rw [order_key hn hm, Bool.eq_iff_iff]
      simp [Int.compare_eq_gt]
theorem fGt_flip (n m : Nat) : fGt n m = fLt m n := by
  rw [fGt_eq, fLt_eq, Bool.and_comm (!isN n)]
theorem less_eq (k n m : Nat) (hn : n < 18446744073709551616) (hm : m < 18446744073709551616) : caulkerref05_Less.f (k + 1) (n : Int) (m : Int) = some (fLt n m) := by
  unfold caulkerref05_Less.f
  rw [none_eq n hn, none_eq m hm, zero_eq n hn, zero_eq m hm, fLt_eq, Option.bind_some, Option.bind_some, Option.bind_some, Option.bind_some]
  cases hN : isN n with
  | true => rfl
  | false =>
    rw [if_neg (by decide)]
    cases hM : isN m with
    | true => rfl
    | false =>
      rw [if_neg (by decide)]
      have fin : ∀ c : Bool, c = (decide (rung n = 0) && decide (rung m = 0)) → caulkerref05_Less.j0 (k + 1) (n : Int) (m : Int) c = some (decide (key n < key m)) := by
        intro c hc
        rw [caulkerref05_Less.j0]
        have kn := key_of n hn
        have km := key_of m hm
        unfold rung at hc
        cases c with
        | true =>
          rw [if_pos rfl]
          have h2 := (Bool.and_eq_true _ _ ▸ hc.symm)
          rw [decide_eq_true_iff, decide_eq_true_iff] at h2
          congr 1
          rw [kn, km]
          refine (decide_eq_false ?_).symm
          split <;> split <;> omega
        | false =>
          have h2 := hc.symm
          rw [Bool.and_eq_false_iff, decide_eq_false_iff_not, decide_eq_false_iff_not] at h2
          rw [if_neg (by decide), parts_eq n hn, parts_eq m hm, Option.bind_some, Option.bind_some]
          dsimp only
          rw [kn, km]
          by_cases a1 : 9223372036854775808 ≤ n <;> by_cases a2 : 9223372036854775808 ≤ m
          · simp only [decide_eq_true a1, decide_eq_true a2, if_pos a1, if_pos a2]
            rw [if_neg (by decide), if_pos trivial]; congr 1; apply decide_eq_decide.2; omega
          · simp only [decide_eq_true a1, decide_eq_false a2, if_pos a1, if_neg a2]
            rw [if_pos (by decide)]; congr 1; exact (decide_eq_true (by omega)).symm
          · simp only [decide_eq_false a1, decide_eq_true a2, if_neg a1, if_pos a2]
            rw [if_pos (by decide)]; congr 1; exact (decide_eq_false (by omega)).symm
          · simp only [decide_eq_false a1, decide_eq_false a2, if_neg a1, if_neg a2]
            rw [if_neg (by decide), if_neg (by decide)]
      cases hZ : decide (rung n = 0) with
      | true => rw [if_pos rfl, fin _ (by rw [hZ]; rfl)]; rfl
      | false => rw [if_neg (by decide), fin _ (by rw [hZ]; rfl)]; rfl
theorem same_eq (n m : Nat) (hn : n < 18446744073709551616) (hm : m < 18446744073709551616) : caulkerref05_Same.f (n : Int) (m : Int) = some (fEq n m) := by
  unfold caulkerref05_Same.f
  rw [none_eq n hn, none_eq m hm, zero_eq n hn, zero_eq m hm, fEq_eq, Option.bind_some, Option.bind_some, Option.bind_some, Option.bind_some]
  cases hN : isN n with
  | true => rfl
  | false =>
    rw [if_neg (by decide)]
    cases hM : isN m with
    | true => rfl
    | false =>
      rw [if_neg (by decide)]
      have kn := key_of n hn
      have km := key_of m hm
      by_cases e : (n : Int) = (m : Int)
      · rw [if_pos e]
        obtain rfl : n = m := by omega
        simp
      · rw [if_neg e]
        unfold rung
        by_cases z : n % 9223372036854775808 = 0
        · rw [if_pos (decide_eq_true z), kn, km]
          congr 1
          show _ = decide _
          apply decide_eq_decide.2
          split <;> split <;> omega
        · rw [if_neg (by rw [decide_eq_false z]; decide), kn, km]
          congr 1
          show false = decide _
          refine (decide_eq_false ?_).symm
          split <;> split <;> omega
theorem ops (a0 : ByteArray) (b1 b2 b3 l e g : Bool) : (((num_holds.f a0 b1 b2 b3).bind fun bt195 => (some (bt195.1, bt195.2))).bind fun bt212 => ((num_holds.f a0 l e g).bind fun bt214 => ((some l : Option Bool).bind fun t216 => ((some g : Option Bool).bind fun t217 => ((some e : Option Bool).bind fun t218 => (if a0.toList = ([61, 61] : List UInt8) then (if bt212.2 = 0 then (if bt214.2 = 0 then (if (bt212.1 == b2) = true then (some (bt214.1 == t218)) else (none)) else (none)) else (none)) else (if a0.toList = ([33, 61] : List UInt8) then (if bt212.2 = 0 then (if bt214.2 = 0 then (if (bt212.1 == (!b2)) = true then (some (bt214.1 == (!t218))) else (none)) else (none)) else (none)) else (if a0.toList = ([60] : List UInt8) then (if bt212.2 = 0 then (if bt214.2 = 0 then (if (bt212.1 == b1) = true then (some (bt214.1 == t216)) else (none)) else (none)) else (none)) else (if a0.toList = ([60, 61] : List UInt8) then (if t216 = true then (if bt212.2 = 0 then (if bt214.2 = 0 then (if (bt212.1 == (b1 || b2)) = true then (some (bt214.1 == true)) else (none)) else (none)) else (none)) else (if bt212.2 = 0 then (if bt214.2 = 0 then (if (bt212.1 == (b1 || b2)) = true then (some (bt214.1 == t218)) else (none)) else (none)) else (none))) else (if a0.toList = ([62] : List UInt8) then (if bt212.2 = 0 then (if bt214.2 = 0 then (if (bt212.1 == b3) = true then (some (bt214.1 == t217)) else (none)) else (none)) else (none)) else (if a0.toList = ([62, 61] : List UInt8) then (if t217 = true then (if bt212.2 = 0 then (if bt214.2 = 0 then (if (bt212.1 == (b3 || b2)) = true then (some (bt214.1 == true)) else (none)) else (none)) else (none)) else (if bt212.2 = 0 then (if bt214.2 = 0 then (if (bt212.1 == (b3 || b2)) = true then (some (bt214.1 == t218)) else (none)) else (none)) else (none))) else (if bt212.2 = 3 then (if bt214.2 = 3 then (if bt212.1 = true then (none) else (some (!bt214.1))) else (none)) else (none))))))))))))) = some true := by
  unfold num_holds.f
  by_cases e1 : a0.toList = ([61, 61] : List UInt8)
  · rw [e1]; cases b2 <;> cases e <;> rfl
  by_cases e2 : a0.toList = ([33, 61] : List UInt8)
  · rw [e2]; cases b2 <;> cases e <;> rfl
  by_cases e3 : a0.toList = ([60] : List UInt8)
  · rw [e3]; cases b1 <;> cases l <;> rfl
  by_cases e4 : a0.toList = ([60, 61] : List UInt8)
  · rw [e4]; cases b1 <;> cases b2 <;> cases l <;> cases e <;> rfl
  by_cases e5 : a0.toList = ([62] : List UInt8)
  · rw [e5]; cases b3 <;> cases g <;> rfl
  by_cases e6 : a0.toList = ([62, 61] : List UInt8)
  · rw [e6]; cases b3 <;> cases b2 <;> cases g <;> cases e <;> rfl
  simp only [if_neg e1, if_neg e2, if_neg e3, if_neg e4, if_neg e5, if_neg e6, Option.bind_some]
  rfl
theorem NumCompares0 (a0 : ByteArray) (n m : Nat) (hn : n < 18446744073709551616) (hm : m < 18446744073709551616) : ∃ k, caulkerlaw05_NumCompares.f k a0 (n : Int) (m : Int) = some true := by
  refine ⟨0 + 1, ?_⟩
  unfold caulkerlaw05_NumCompares.f
  rw [NumP.reckons, Option.bind_some, if_pos rfl, less_eq 0 n m hn hm, less_eq 0 m n hm hn, same_eq n m hn hm, NumP.xor_eq n hn, NumP.xor_eq m hm]
  unfold num_Compare.f
  have hF : num_FloatCompare.f a0 (n : Int) (m : Int) = num_holds.f a0 (fLt n m) (fEq n m) (fLt m n) := by
    show (if 0 ≤ (n : Int) ∧ 0 ≤ (m : Int) then num_holds.f a0 (fLt (n : Int).toNat (m : Int).toNat) (fEq (n : Int).toNat (m : Int).toNat) (fGt (n : Int).toNat (m : Int).toNat) else none) = _
    rw [if_pos (by omega), Int.toNat_natCast, Int.toNat_natCast, fGt_flip]
  rw [hF]
  generalize wrap64 (n : Int) = p
  generalize wrap64 (m : Int) = q
  generalize fLt n m = l
  generalize fLt m n = g
  generalize fEq n m = e
  have h4 : (p + 9223372036854775808 == q + 9223372036854775808) = (p == q) := by rw [Bool.eq_iff_iff, beq_iff_eq, beq_iff_eq]; omega
  have h5 : (p + 9223372036854775808 != q + 9223372036854775808) = (!(p == q)) := by rw [← h4]; rfl
  have h6 : decide (p + 9223372036854775808 < q + 9223372036854775808) = decide (p < q) := decide_eq_decide.2 (by omega)
  have h7 : decide (p + 9223372036854775808 ≤ q + 9223372036854775808) = (decide (p < q) || (p == q)) := by rw [Bool.eq_iff_iff, Bool.or_eq_true, decide_eq_true_iff, decide_eq_true_iff, beq_iff_eq]; omega
  have h8 : decide (p + 9223372036854775808 > q + 9223372036854775808) = decide (p > q) := decide_eq_decide.2 (by omega)
  have h9 : decide (p + 9223372036854775808 ≥ q + 9223372036854775808) = (decide (p > q) || (p == q)) := by rw [Bool.eq_iff_iff, Bool.or_eq_true, decide_eq_true_iff, decide_eq_true_iff, beq_iff_eq]; omega
  rw [h4, h5, h6, h7, h8, h9]
  clear h4 h5 h6 h7 h8 h9
  generalize decide (p < q) = b1
  generalize (p == q) = b2
  generalize decide (p > q) = b3
  exact ops a0 b1 b2 b3 l e g
theorem u64_of {a : Int} (h : (Lit.int .u64 a).wf = true) : 0 ≤ a ∧ a ≤ 18446744073709551615 := by simpa [Lit.wf, IntKind.min, IntKind.max, IntKind.signed, IntKind.bits] using h
theorem compares_any (a0 : ByteArray) (a1 a2 : Int) (w1 : (Lit.int .u64 a1).wf = true) (w2 : (Lit.int .u64 a2).wf = true) (W : World) (hg : LexW.GV W) : Calls Tryd.prog 7 #[.string a0, .int .u64 a1, .int .u64 a2] W fun e W' => e = .returned (.bool true) ∧ Below W.heap.size W W' := by
  have g1 := u64_of w1
  have g2 := u64_of w2
  obtain ⟨n, rfl⟩ : ∃ n : Nat, a1 = (n : Int) := ⟨a1.toNat, by omega⟩
  obtain ⟨m, rfl⟩ : ∃ m : Nat, a2 = (m : Int) := ⟨a2.toNat, by omega⟩
  obtain ⟨k, h⟩ := NumCompares0 a0 n m (by omega) (by omega)
  exact caulkerlaw05_NumCompares.calls k a0 _ _ true W h hg
end Go.Proofs.YtbnopcndjdpnkaaDoor.Pure
