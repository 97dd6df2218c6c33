/- What Bytes answers: edits that make the other text, of the fewest bytes, if these aren't too many; any texts that aren't too long. -/
import Derived.Test.YtoljmjhmieaggaaX12
import Derived.Test.YtoljmjhmieaggaaPureDiffCommon
import Derived.Test.YtoljmjhmieaggaaM41
import Derived.Test.YtoljmjhmieaggaaM43
namespace Go.Proofs.Ytoljmjhmieaggaa.Pure
open Go.RowKit Go.Proofs.Ytoljmjhmieaggaa.X Go.Proofs.YtoljmjhmieaggaaW.PrintWords Go.Proofs.YtoljmjhmieaggaaW.PrintLast Go.Diff Go.Proofs.Ytoljmjhmieaggaa.Ed
theorem bt_some (s : ByteArray) (i : Nat) (h : i < s.size) : bt s (i : Int) = ((s[i]'h).toNat : Int) := by
  unfold bt
  rw [dif_pos (by rw [Int.toNat_natCast]; exact h)]
  simp only [Int.toNat_natCast]
theorem bt_cut (s : ByteArray) (f e i : Nat) (h : f + i < e) (he : e ≤ s.size) : bt (s.extract f e) (i : Int) = bt s ((f + i : Nat) : Int) := by
  have h1 : i < (s.extract f e).size := by rw [ByteArray.size_extract]; omega
  rw [bt_some _ i h1, bt_some s (f + i) (by omega), ByteArray.getElem_extract]
theorem bt_eq {s t : ByteArray} {i j : Nat} (hi : i < s.size) (hj : j < t.size) : bt s (i : Int) = bt t (j : Int) ↔ s.data.toList[i]? = t.data.toList[j]? := by
  rw [bt_some s i hi, bt_some t j hj]
  have h1 : s.data.toList[i]? = some (s[i]'hi) := by
    rw [List.getElem?_eq_some_iff]
    exact ⟨by rw [Array.length_toList]; exact hi, by rw [Array.getElem_toList]; rfl⟩
  have h2 : t.data.toList[j]? = some (t[j]'hj) := by
    rw [List.getElem?_eq_some_iff]
    exact ⟨by rw [Array.length_toList]; exact hj, by rw [Array.getElem_toList]; rfl⟩
  rw [h1, h2]
  constructor
  · intro h
    exact congrArg some (UInt8.toNat_inj.1 (by exact_mod_cast h))
  · intro h
    rw [Option.some.inj h]
theorem tail_loop (s0 s1 : ByteArray) (h0 : s0.size ≤ 1000000) (h1 : s1.size ≤ 1000000) (n : Int) : ∀ d m : Nat, s0.size - m ≤ d → m ≤ s0.size → m ≤ s1.size → ∃ m' : Nat, Ev (fun k => diff_ends.l1 k s0 s1 n (m : Int)) (n, (m' : Int)) ∧ m ≤ m' ∧ m' ≤ s0.size ∧ m' ≤ s1.size ∧ ∀ t, m ≤ t → t < m' → bt s0 ((s0.size - 1 - t : Nat) : Int) = bt s1 ((s1.size - 1 - t : Nat) : Int) := by
  intro d
  induction d with
  | zero =>
    intro m hd hm hm1
    refine ⟨m, Ev.step (fun k => by rw [diff_ends.l1]) (Ev.neg (by omega) (Ev.now_ _)), Nat.le_refl _, hm, hm1, fun t _ _ => by omega⟩
  | succ d ih =>
    intro m hd hm hm1
    by_cases h2 : m < s0.size ∧ m < s1.size
    · have e0 : wrap64 (wrap64 ((s0.size : Int) - 1) - m) = ((s0.size - 1 - m : Nat) : Int) := by
        rw [wrap_id (i := (s0.size : Int) - 1) (by omega) (by omega), wrap_id (by omega) (by omega)]; omega
      have e1 : wrap64 (wrap64 ((s1.size : Int) - 1) - m) = ((s1.size - 1 - m : Nat) : Int) := by
        rw [wrap_id (i := (s1.size : Int) - 1) (by omega) (by omega), wrap_id (by omega) (by omega)]; omega
      have e2 : wrap64 ((m : Int) + 1) = ((m + 1 : Nat) : Int) := by rw [wrap_id (by omega) (by omega)]; omega
      have W := Aside0.mk (And.intro e0 (And.intro e1 e2))
      clear e0 e1 e2
      by_cases h3 : bt s0 ((s0.size - 1 - m : Nat) : Int) = bt s1 ((s1.size - 1 - m : Nat) : Int)
      · obtain ⟨m', p1, p2, p3, p4, p5⟩ := ih (m + 1) (by omega) (by omega) (by omega)
        refine ⟨m', Ev.step (fun k => by rw [diff_ends.l1]) (Ev.pos (by omega) (Ev.pos (by omega) ?_)), by omega, p3, p4, fun t t1 t2 => ?_⟩
        · rw [W.out.1, W.out.2.1, W.out.2.2]
          exact Ev.pos (by omega) (Ev.pos (by omega) (Ev.pos (by omega) (Ev.pos (by omega) (Ev.pos h3 p1))))
        · by_cases ht : t = m
          · rw [ht]; exact h3
          · exact p5 t (by omega) t2
      · refine ⟨m, Ev.step (fun k => by rw [diff_ends.l1]) (Ev.pos (by omega) (Ev.pos (by omega) ?_)), Nat.le_refl _, hm, hm1, fun t _ _ => by omega⟩
        rw [W.out.1, W.out.2.1]
        exact Ev.pos (by omega) (Ev.pos (by omega) (Ev.pos (by omega) (Ev.pos (by omega) (Ev.neg h3 (Ev.now_ _)))))
    · refine ⟨m, Ev.step (fun k => by rw [diff_ends.l1]) ?_, Nat.le_refl _, hm, hm1, fun t _ _ => by omega⟩
      exact Ev.ite (fun _ => Ev.neg (by omega) (Ev.now_ _)) (fun _ => Ev.now_ _)
theorem head_loop (a b : ByteArray) (ha : a.size ≤ 1000000) (hb : b.size ≤ 1000000) : ∀ d n : Nat, a.size - n ≤ d → n ≤ a.size → n ≤ b.size → (∀ t : Nat, t < n → bt a (t : Int) = bt b (t : Int)) → ∃ n' m : Nat, Ev (fun k => diff_ends.l0 k a b (n : Int)) ((n' : Int), (m : Int)) ∧ n' + m ≤ a.size ∧ n' + m ≤ b.size ∧ (∀ t : Nat, t < n' → bt a (t : Int) = bt b (t : Int)) ∧
    ∀ t, t < m → bt a ((a.size - 1 - t : Nat) : Int) = bt b ((b.size - 1 - t : Nat) : Int) := by
  have fin : ∀ n : Nat, n ≤ a.size → n ≤ b.size → (∀ t : Nat, t < n → bt a (t : Int) = bt b (t : Int)) → ∃ n' m : Nat, Ev (fun k => diff_ends.j1 k a b (n : Int)) ((n' : Int), (m : Int)) ∧ n' + m ≤ a.size ∧ n' + m ≤ b.size ∧ (∀ t : Nat, t < n' → bt a (t : Int) = bt b (t : Int)) ∧
      ∀ t, t < m → bt a ((a.size - 1 - t : Nat) : Int) = bt b ((b.size - 1 - t : Nat) : Int) := by
    intro n h1 h2 h3
    have z0 : (a.extract n a.size).size = a.size - n := by rw [ByteArray.size_extract]; omega
    have z1 : (b.extract n b.size).size = b.size - n := by rw [ByteArray.size_extract]; omega
    obtain ⟨m, p1, _, p3, p4, p5⟩ := tail_loop (a.extract n a.size) (b.extract n b.size) (by omega) (by omega) n _ 0 (Nat.le_refl _) (by omega) (by omega)
    refine ⟨n, m, Ev.step (fun k => by rw [diff_ends.j1]) (Ev.pos (by omega) (Ev.pos (by omega) (Ev.pos (by omega) ?_))), by omega, by omega, h3, fun t ht => ?_⟩
    · rw [Int.toNat_natCast]
      exact p1
    · have := p5 t (Nat.zero_le _) ht
      rw [z0, z1, bt_cut a n a.size _ (by omega) (Nat.le_refl _), bt_cut b n b.size _ (by omega) (Nat.le_refl _)] at this
      rwa [show n + (a.size - n - 1 - t) = a.size - 1 - t by omega, show n + (b.size - n - 1 - t) = b.size - 1 - t by omega] at this
  intro d
  induction d with
  | zero =>
    intro n hd h1 h2 h3
    obtain ⟨n', m, p1, p2⟩ := fin n h1 h2 h3
    exact ⟨n', m, Ev.step (fun k => by rw [diff_ends.l0]) (Ev.neg (by omega) p1), p2⟩
  | succ d ih =>
    intro n hd h1 h2 h3
    obtain ⟨n', m, p1, p2⟩ := fin n h1 h2 h3
    by_cases h4 : n < a.size ∧ n < b.size
    · by_cases h5 : bt a (n : Int) = bt b (n : Int)
      · obtain ⟨n1, m1, q1, q2⟩ := ih (n + 1) (by omega) (by omega) (by omega) (fun t ht => by
          by_cases h : t = n
          · rw [h]; exact h5
          · exact h3 t (by omega))
        refine ⟨n1, m1, Ev.step (fun k => by rw [diff_ends.l0]) (Ev.pos (by omega) (Ev.pos (by omega) (Ev.pos (by omega) (Ev.pos h5 ?_)))), q2⟩
        rw [show wrap64 ((n : Int) + 1) = ((n + 1 : Nat) : Int) by rw [wrap_id (by omega) (by omega)]; omega]
        exact q1
      · exact ⟨n', m, Ev.step (fun k => by rw [diff_ends.l0]) (Ev.pos (by omega) (Ev.pos (by omega) (Ev.pos (by omega) (Ev.neg h5 p1)))), p2⟩
    · refine ⟨n', m, Ev.step (fun k => by rw [diff_ends.l0]) ?_, p2⟩
      exact Ev.ite (fun _ => Ev.neg (by omega) p1) (fun _ => p1)
theorem ends_ev (a b : ByteArray) (ha : a.size ≤ 1000000) (hb : b.size ≤ 1000000) : ∃ n m : Nat, Ev (fun k => diff_ends.f k a b) ((n : Int), (m : Int)) ∧ n + m ≤ a.size ∧ n + m ≤ b.size ∧ (∀ t : Nat, t < n → bt a (t : Int) = bt b (t : Int)) ∧
    ∀ t, t < m → bt a ((a.size - 1 - t : Nat) : Int) = bt b ((b.size - 1 - t : Nat) : Int) :=
  head_loop a b ha hb _ 0 (Nat.le_refl _) (Nat.zero_le _) (Nat.zero_le _) (fun t ht => by omega)
/-- Stretches in order. -/
def Asc (N M : Nat) : Nat → Nat → List (Nat × Nat × Nat) → Prop
  | _, _, [] => True
  | i, j, (a, b, s) :: l => i ≤ a ∧ j ≤ b ∧ a + s ≤ N ∧ b + s ≤ M ∧ Asc N M (a + s) (b + s) l
theorem asc_of {E' : Nat → Nat → Prop} {N M : Nat} : ∀ {l : List (Nat × Nat × Nat)} {i j : Nat}, Stretches E' N M i j l → Asc N M i j (l ++ [(N, M, 0)])
  | [], i, j, h => ⟨h.1, h.2, Nat.le_refl _, Nat.le_refl _, trivial⟩
  | (a, b, s) :: l, i, j, h => ⟨h.1, h.2.1, h.2.2.2.1, h.2.2.2.2.1, asc_of h.2.2.2.2.2.2⟩
theorem rd63_lt {l : List S63} {i : Nat} (h : i < l.length) : rd_T63 l (i : Int) = l[i] := by
  simp [rd_T63, List.getD_eq_getElem?_getD, h]
theorem wraps5 (n i a b s p : Nat) (h : n + i ≤ 3000000 ∧ n + a ≤ 3000000 ∧ a + s ≤ 3000000 ∧ b + s ≤ 3000000 ∧ p ≤ 2000) : Aside0 (wrap64 ((n : Int) + i) = ((n + i : Nat) : Int) ∧ wrap64 ((n : Int) + a) = ((n + a : Nat) : Int) ∧ wrap64 ((a : Int) + s) = ((a + s : Nat) : Int) ∧ wrap64 ((b : Int) + s) = ((b + s : Nat) : Int) ∧ wrap64 ((p : Int) + 1) = ((p + 1 : Nat) : Int)) := by
  refine ⟨?_, ?_, ?_, ?_, ?_⟩ <;> rw [wrap_id (by omega) (by omega)] <;> omega
theorem bytes_loop (n : Nat) (y : ByteArray) (N : Nat) (hn : n + N ≤ 1000000) (hy : y.size ≤ 1000000) (all : List (Nat × Nat × Nat)) (hl : all.length ≤ 1000) : ∀ (d p : Nat), p + d = all.length → ∀ (out : List S41) (i j : Nat), out.length ≤ p → i ≤ N → j ≤ y.size → Asc N y.size i j (all.drop p) →
    Ev (fun k => diff_Bytes.l0 k (n : Int) y out (i : Int) (j : Int) (all.map toS) ((all.map toS).length : Int) (p : Int)) (out ++ (mk n y.data.toList i j (all.drop p)).map ofE, true, 0)
  | 0, p, hp, out, i, j, ho, hi, hj, ha => by
    refine Ev.step (fun k => by rw [diff_Bytes.l0]) (Ev.neg (by simp; omega) (Ev.cast (Ev.now_ _) ?_))
    rw [List.drop_of_length_le (by omega)]
    simp [mk]
  | d + 1, p, hp, out, i, j, ho, hi, hj, ha => by
    have hlt : p < all.length := by omega
    have hlm : (all.map toS).length = all.length := List.length_map ..
    rw [List.drop_eq_getElem_cons hlt] at ha ⊢
    obtain ⟨a, b, s, hab⟩ : ∃ a b s, all[p] = (a, b, s) := ⟨_, _, _, rfl⟩
    rw [hab] at ha ⊢
    obtain ⟨h1, h2, h3, h4, h5⟩ := ha
    have hrd : rd_T63 (all.map toS) (p : Int) = toS (a, b, s) := by rw [rd63_lt (by omega), List.getElem_map, hab]
    have f0 : (toS (a, b, s)).f0 = (a : Int) := rfl
    have f1 : (toS (a, b, s)).f1 = (b : Int) := rfl
    have f2 : (toS (a, b, s)).f2 = (s : Int) := rfl
    have ee : (⟨⟨((n + i : Nat) : Int), ((n + a : Nat) : Int)⟩, y.extract j b⟩ : S41) = ofE ⟨n + i, n + a, (y.data.toList.drop j).take (b - j)⟩ := by
      unfold ofE
      congr 1
      exact ba_ext (by rw [ba_extract])
    have W := wraps5 n i a b s p ⟨by omega, by omega, by omega, by omega, by omega⟩
    have ih := fun out ho => bytes_loop n y N hn hy all hl d (p + 1) (by omega) out (a + s) (b + s) ho (by omega) (by omega) h5
    have put : Ev (fun k => diff_Bytes.l0 k (n : Int) y (out ++ [(⟨⟨((n + i : Nat) : Int), ((n + a : Nat) : Int)⟩, y.extract j b⟩ : S41)]) ((a + s : Nat) : Int) ((b + s : Nat) : Int) (all.map toS) ((all.map toS).length : Int) ((p + 1 : Nat) : Int)) (out ++ (ofE ⟨n + i, n + a, (y.data.toList.drop j).take (b - j)⟩ :: (mk n y.data.toList (a + s) (b + s) (all.drop (p + 1))).map ofE), true, 0) := by
      refine Ev.cast (ih _ (by simp; omega)) ?_
      rw [ee, List.append_assoc]
      rfl
    refine Ev.step (fun k => by rw [diff_Bytes.l0]) (Ev.pos (by omega) (Ev.pos (by omega) (Ev.pos (by omega) ?_)))
    rw [hrd, f0, f1, f2, W.out.1, W.out.2.1, W.out.2.2.1, W.out.2.2.2.1, W.out.2.2.2.2, Int.toNat_natCast, Int.toNat_natCast, mk]
    refine Ev.ite (fun hc => Ev.pos (by omega) (Ev.pos (by omega) (Ev.pos (by omega) (Ev.pos (by omega) ?_)))) (fun hc => Ev.ite (fun hc2 => Ev.pos (by omega) (Ev.pos (by omega) (Ev.pos (by omega) (Ev.pos (by omega) ?_)))) (fun hc2 => ?_))
    · rw [if_pos (by omega)]
      exact put
    · rw [if_pos (by omega)]
      exact put
    · rw [if_neg (by omega)]
      exact ih out (by omega)
/-- What Bytes answers. -/
structure Made (a b : ByteArray) (l : List E) (ok : Bool) (D : Nat) : Prop where
  dist : Dist (same a b) a.size b.size D
  val : Val a.size 0 l
  app : app a.data.toList 0 l = b.data.toList
  len : l.length ≤ 600
  small : ∀ x ∈ l, x.t.length ≤ b.size
  far : ok = decide (D ≤ 512)
  cost : ok = true → puts l + takes l = D
  most : puts l + takes l ≤ a.size + b.size
  tidy : ∃ n, Tidy' n l ∨ (∃ x r, l = x :: r ∧ (x.a < x.b ∨ 0 < x.t.length) ∧ Tidy' x.b r)
theorem mk_tidy0 {E' : Nat → Nat → Prop} {N M n : Nat} {y : List UInt8} (hy : y.length = M) : ∀ {l : List (Nat × Nat × Nat)}, Stretches E' N M 0 0 l → Tidy' 0 (mk n y 0 0 (l ++ [(N, M, 0)])) ∨ (∃ x r, mk n y 0 0 (l ++ [(N, M, 0)]) = x :: r ∧ (x.a < x.b ∨ 0 < x.t.length) ∧ Tidy' x.b r)
  | [], h => by
    simp only [List.nil_append, Ed.mk]
    split
    · rename_i hc
      refine .inr ⟨_, _, rfl, ?_, trivial⟩
      simp only [List.length_take, List.length_drop]
      omega
    · exact .inl trivial
  | (a, b, s) :: l, h => by
    obtain ⟨h1, h2, h3, h4, h5, h6, h7⟩ := h
    have ih := mk_tidy (n := n) hy h7
    simp only [List.cons_append, Ed.mk]
    split
    · rename_i hc
      refine .inr ⟨_, _, rfl, ?_, ih (n + a) (by omega)⟩
      simp only [List.length_take, List.length_drop]
      omega
    · exact .inl (ih 0 (by omega))
set_option maxHeartbeats 1000000 in
theorem bytes_ev (a b : ByteArray) (ha : a.size ≤ 16384) (hb : b.size ≤ 16384) : ∃ l ok D, Ev (fun k => diff_Bytes.f k a b) (l.map ofE, ok, 0) ∧ Made a b l ok D := by
  obtain ⟨n, m, p1, p2, p3, p4, p5⟩ := ends_ev a b (by omega) (by omega)
  obtain ⟨N, hN⟩ : ∃ N, N = a.size - n - m := ⟨_, rfl⟩
  obtain ⟨M, hM⟩ : ∃ M, M = b.size - n - m := ⟨_, rfl⟩
  obtain ⟨x, hx⟩ : ∃ x, x = a.extract n (a.size - m) := ⟨_, rfl⟩
  obtain ⟨y, hy⟩ : ∃ y, y = b.extract n (b.size - m) := ⟨_, rfl⟩
  have zx : x.size = N := by rw [hx, ByteArray.size_extract]; omega
  have zy : y.size = M := by rw [hy, ByteArray.size_extract]; omega
  have same_in : ∀ i j, i < N → j < M → (same x y i j ↔ same a b (n + i) (n + j)) := fun i j hi hj => by
    unfold same
    rw [hx, hy, bt_cut a n (a.size - m) i (by omega) (by omega), bt_cut b n (b.size - m) j (by omega) (by omega)]
  have dist : ∀ D, Dist (same x y) x.size y.size D → Dist (same a b) a.size b.size D := by
    intro D h
    rw [zx, zy] at h
    have h1 := Dist.prefix (e := same a b) (fun t ht => p4 t ht) (h.congr same_in)
    have h2 := Dist.suffix (m := m) (fun t ht => by
      have := p5 (m - 1 - t) (by omega)
      show bt a _ = bt b _
      rwa [show a.size - 1 - (m - 1 - t) = n + N + t by omega, show b.size - 1 - (m - 1 - t) = n + M + t by omega] at this) h1
    rwa [show n + N + m = a.size by omega, show n + M + m = b.size by omega] at h2
  obtain ⟨z, hz⟩ : ∃ z, z = a.data.toList.drop (n + N) := ⟨_, rfl⟩
  have la : a.data.toList.length = a.size := Array.length_toList
  have lb : b.data.toList.length = b.size := Array.length_toList
  have lx : x.data.toList.length = N := by rw [← zx]; exact Array.length_toList
  have ly : y.data.toList.length = M := by rw [← zy]; exact Array.length_toList
  have dx : a.data.toList.drop n = x.data.toList ++ z := by
    rw [hx, ba_extract, hz, show a.size - m - n = N by omega, ← List.drop_drop, List.take_append_drop]
  have hbt : b.data.toList = a.data.toList.take n ++ (y.data.toList ++ z) := by
    have e1 : b.data.toList = b.data.toList.take n ++ (y.data.toList ++ b.data.toList.drop (n + M)) := by
      rw [hy, ba_extract, show b.size - m - n = M by omega, ← List.drop_drop, List.take_append_drop, List.take_append_drop]
    have e2 : b.data.toList.take n = a.data.toList.take n := by
      refine List.ext_getElem? fun q => ?_
      rw [List.getElem?_take, List.getElem?_take]
      by_cases hq : q < n
      · rw [if_pos hq, if_pos hq]
        exact ((bt_eq (by omega) (by omega)).1 (p4 q hq)).symm
      · rw [if_neg hq, if_neg hq]
    have e3 : b.data.toList.drop (n + M) = z := by
      rw [hz]
      refine List.ext_getElem? fun q => ?_
      rw [List.getElem?_drop, List.getElem?_drop]
      by_cases hq : q < m
      · have := p5 (m - 1 - q) (by omega)
        rw [show a.size - 1 - (m - 1 - q) = n + N + q by omega, show b.size - 1 - (m - 1 - q) = n + M + q by omega] at this
        exact ((bt_eq (by omega) (by omega)).1 this).symm
      · rw [List.getElem?_eq_none (by omega), List.getElem?_eq_none (by omega)]
    rw [e2, e3] at e1
    exact e1
  have whole : ∀ l : List E, Val a.size n l → Ed.app a.data.toList n l = y.data.toList ++ z → Ed.app a.data.toList 0 l = b.data.toList := by
    intro l hv h
    rw [app_skip _ hv (Nat.zero_le _), h, hbt]
    rfl
  obtain ⟨r, c1, c2⟩ := common_ev (x := x) (y := y) (by omega) (by omega)
  have head : ∀ res, Ev (fun k => (diff_common.f k x y).bind fun bt166 => (if bt166.2 = true then (if bt166.1.length < 5864062014805 then ((some (bt166.1 ++ [(⟨(x.size : Int), (y.size : Int), 0⟩ : S63)] : List (S63))).bind fun y173 => (diff_Bytes.l0 k (n : Int) y ([] : List (S41)) 0 0 y173 (y173.length : Int) 0)) else (none)) else ((diff_one.f (n : Int) x y).bind fun t170 => (some (t170, false, 0))))) res → Ev (fun k => diff_Bytes.f k a b) res := by
    intro res h
    have e0 : wrap64 ((a.size : Int) - m) = ((a.size - m : Nat) : Int) := by rw [wrap_id (by omega) (by omega)]; omega
    have e1 : wrap64 ((b.size : Int) - m) = ((b.size - m : Nat) : Int) := by rw [wrap_id (by omega) (by omega)]; omega
    have W := Aside0.mk (And.intro e0 e1)
    clear e0 e1
    have j0 : ∀ q, q = false → Ev (fun k => diff_Bytes.j0 k a b q) res := by
      rintro q rfl
      refine Ev.step (fun k => by rw [diff_Bytes.j0]) (Ev.neg (by simp) (Ev.bind p1 ?_))
      dsimp only
      rw [W.out.1, W.out.2]
      refine Ev.pos (by omega) (Ev.pos (by omega) (Ev.pos (by omega) (Ev.pos (by omega) (Ev.pos (by omega) ?_))))
      rw [Int.toNat_natCast, Int.toNat_natCast, Int.toNat_natCast, ← hx, ← hy]
      exact h
    unfold diff_Bytes.f
    exact Ev.neg (by omega) (j0 _ (by rw [decide_eq_false_iff_not]; omega))
  rcases c2 with ⟨r1, D, L, d1, d2, d3, d4, d5, d6⟩ | ⟨r1, r2, r3⟩
  · obtain ⟨rl, rb⟩ := r
    obtain rfl : rb = true := r1
    obtain rfl : rl = L.map toS := d3
    rw [zx, zy] at d5 d6
    have hpt := mk_puts (n := n) ly d5
    have hv := mk_val (n := n) (A := a.size) (by omega) ly d5
    have hl := mk_length (n := n) (y := y.data.toList) (L ++ [(N, M, 0)]) 0 0
    rw [List.length_append, List.length_singleton] at hl
    refine ⟨mk n y.data.toList 0 0 (L ++ [(N, M, 0)]), true, D, head _ (Ev.bind c1 (Ev.pos rfl (Ev.pos (by simp; omega) (Ev.bind (Ev.now_ _) ?_)))), ?_⟩
    · have e : L.map toS ++ [(⟨(x.size : Int), (y.size : Int), 0⟩ : S63)] = (L ++ [(N, M, 0)]).map toS := by rw [List.map_append, zx, zy]; rfl
      rw [e]
      have := bytes_loop n y N (by omega) (by omega) (L ++ [(N, M, 0)]) (by simp; omega) _ 0 (Nat.zero_add _) [] 0 0 (Nat.zero_le _) (Nat.zero_le _) (Nat.zero_le _) (by rw [List.drop_zero, zy]; exact asc_of d5)
      rw [List.drop_zero, List.nil_append] at this
      exact this
    · refine ⟨dist D d1, hv.mono (Nat.zero_le _), whole _ hv ?_, by omega, fun e he => ?_, ?_, fun _ => by omega, by omega, ⟨0, mk_tidy0 ly d5⟩⟩
      · have := mk_app (n := n) lx ly dx (fun i j hi hj h => (bt_eq (by omega) (by omega)).1 h) d5
        rw [List.drop_zero] at this
        exact this
      · have := mk_small _ _ _ e he
        omega
      · simpa using d2
  · obtain ⟨rl, rb⟩ := r
    obtain rfl : rb = false := r1
    obtain ⟨D, hD⟩ := Dist.exists (same x y) x.size y.size
    have hfar : 512 < D := Nat.lt_of_not_le fun h => r3 D h hD.1
    have hne : ¬ x.toList = y.toList := by
      intro h
      have e : x = y := by
        rw [Lib.toList_data, Lib.toList_data] at h
        exact ba_ext h
      have h0 : Diff.Reach (same x y) x.size y.size 0 x.size y.size := by
        subst e
        have := Reach.alongs (Reach.start (E := same x x) (N := x.size) (M := x.size)) x.size fun t ht => ⟨by omega, by omega, by show bt x _ = bt x _; rfl⟩
        simpa using this
      have := hD.2 0 h0
      omega
    have e1 : wrap64 ((n : Int) + (x.size : Int)) = ((n + N : Nat) : Int) := by rw [wrap_id (by omega) (by omega)]; omega
    have one : diff_one.f (n : Int) x y = some ([(⟨n, n + N, y.data.toList⟩ : E)].map ofE) := by
      unfold diff_one.f
      rw [if_neg hne, e1]
      rfl
    clear e1
    have hv : Val a.size n [(⟨n, n + N, y.data.toList⟩ : E)] := ⟨Nat.le_refl _, Nat.le_add_right _ _, by show n + N ≤ a.size; omega, by show n + N ≤ a.size; omega⟩
    refine ⟨[⟨n, n + N, y.data.toList⟩], false, D, head _ (Ev.bind c1 (Ev.neg (by simp) (Ev.bind (Ev.eq one) (Ev.now_ _)))), ?_⟩
    refine ⟨dist D hD, hv.mono (Nat.zero_le _), whole _ hv ?_, by simp, fun e he => ?_, ?_, fun h => (by cases h), ?_, ⟨0, .inr ⟨_, _, rfl, ?_, trivial⟩⟩⟩
    · simp only [Ed.app, Nat.sub_self, List.take_zero, List.nil_append]
      rw [hz]
    · simp only [List.mem_singleton] at he
      subst he
      show y.data.toList.length ≤ b.size
      omega
    · have : ¬ D ≤ 512 := by omega
      simp [this]
    · simp only [puts, takes]
      omega
    · have hb2 := hD.bounds
      show n < n + N ∨ 0 < y.data.toList.length
      omega
end Go.Proofs.Ytoljmjhmieaggaa.Pure
