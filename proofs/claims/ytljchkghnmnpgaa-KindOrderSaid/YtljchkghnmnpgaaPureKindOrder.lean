/- To have fewer marks is an order, as the statement KindOrder says; every input. -/
import Derived.Test.YtljchkghnmnpgaaX6
import Derived.Test.YtljchkghnmnpgaaPureKindSorts
import Derived.Test.YtljchkghnmnpgaaPureKindBytes
namespace Go.Proofs.Ytljchkghnmnpgaa.Pure
open Go.RowKit Go.Proofs.Ytljchkghnmnpgaa.X Go.Proofs.YtljchkghnmnpgaaW.PrintWords Go.Proofs.YtljchkghnmnpgaaW.PrintLast
theorem L_at {b1 : Int} {n1 : ByteArray} {d1 : Int} {m1 : ByteArray} {b2 : Int} {n2 : ByteArray} {d2 : Int} {m2 : ByteArray} : L b1 n1 d1 m1 b2 n2 d2 m2 = true ↔ (R b1 n1 d1 m1 = true ∧ R b2 n2 d2 m2 = true ∧ b1 = b2 ∧ n1 = n2 ∧ d1 = d2) ∧ ∀ j : Nat, j < m1.size → bt m1 (j : Int) = bt m2 (j : Int) ∨ bt m1 (j : Int) = 32 := by
  rw [L, Bool.and_eq_true, A_at, lessFrom_iff]
  constructor
  · exact fun h => ⟨⟨h.1.1, h.1.2.1, h.1.2.2.1, toList_inj h.1.2.2.2.1, h.1.2.2.2.2⟩, fun j hj => h.2 j (Nat.zero_le _) (by omega)⟩
  · exact fun h => ⟨⟨h.1.1, h.1.2.1, h.1.2.2.1, by rw [h.1.2.2.2.1], h.1.2.2.2.2⟩, fun j _ hj => h.2 j (by omega)⟩
theorem L_self (b : Int) (nm : ByteArray) (d : Int) (m : ByteArray) : L b nm d m b nm d m = R b nm d m := by
  rw [Bool.eq_iff_iff, L_at]
  exact ⟨fun h => h.1.1, fun h => ⟨⟨h, h, rfl, rfl, rfl⟩, fun j _ => .inl rfl⟩⟩
theorem L_anti {b1 : Int} {n1 : ByteArray} {d1 : Int} {m1 : ByteArray} {b2 : Int} {n2 : ByteArray} {d2 : Int} {m2 : ByteArray} (h1 : L b1 n1 d1 m1 b2 n2 d2 m2 = true) (h2 : L b2 n2 d2 m2 b1 n1 d1 m1 = true) : b1 = b2 ∧ n1 = n2 ∧ d1 = d2 ∧ m1 = m2 := by
  obtain ⟨⟨r1, r2, hb, hn, hd⟩, h1⟩ := L_at.1 h1
  obtain ⟨_, h2⟩ := L_at.1 h2
  have s1 := R_size r1
  have s2 := R_size r2
  refine ⟨hb, hn, hd, bt_ext (by omega) fun j hj => ?_⟩
  rcases h1 j hj with h | h
  · exact h
  · rcases h2 j (by omega) with h' | h'
    · exact h'.symm
    · rw [h, h']
theorem L_trans {b1 : Int} {n1 : ByteArray} {d1 : Int} {m1 : ByteArray} {b2 : Int} {n2 : ByteArray} {d2 : Int} {m2 : ByteArray} {b3 : Int} {n3 : ByteArray} {d3 : Int} {m3 : ByteArray} (h1 : L b1 n1 d1 m1 b2 n2 d2 m2 = true) (h2 : L b2 n2 d2 m2 b3 n3 d3 m3 = true) : L b1 n1 d1 m1 b3 n3 d3 m3 = true := by
  obtain ⟨⟨r1, r2, hb, hn, hd⟩, h1⟩ := L_at.1 h1
  obtain ⟨⟨_, r3, hb', hn', hd'⟩, h2⟩ := L_at.1 h2
  have s1 := R_size r1
  have s2 := R_size r2
  refine L_at.2 ⟨⟨r1, r3, hb.trans hb', hn.trans hn', hd.trans hd'⟩, fun j hj => ?_⟩
  rcases h1 j hj with h | h
  · rw [h]; exact h2 j (by omega)
  · exact .inr h
theorem L_bare {b1 : Int} {n1 : ByteArray} {d1 : Int} {m1 : ByteArray} {b3 : Int} {n3 : ByteArray} {d3 : Int} {m3 : ByteArray} (h : L b1 n1 d1 m1 b3 n3 d3 m3 = true) : L b1 n1 d1 (bareM b1 n1 d1 m1) b3 n3 d3 m3 = true := by
  unfold bareM
  by_cases ht : T b1 n1 d1 m1 = true
  · rw [if_pos ht]
    obtain ⟨⟨r1, r3, hb, hn, hd⟩, _⟩ := L_at.1 h
    have hb := blanks_T (T_at.1 ht).1
    refine L_at.2 ⟨⟨T_R hb, r3, by assumption, hn, hd⟩, fun j hj => .inr ?_⟩
    rw [blanks_size] at hj
    exact blanks_bt _ j hj
  · rw [if_neg ht]
    exact h
theorem bareM_size {b : Int} {nm : ByteArray} {d : Int} {m : ByteArray} (hm : m.size ≤ 1000000) : (bareM b nm d m).size ≤ 1000000 := by
  unfold bareM
  by_cases ht : T b nm d m = true
  · rw [if_pos ht, blanks_size]
    have := head_at (T_at.1 ht).1
    omega
  · rw [if_neg ht]
    exact hm
theorem KindOrder : caulkerlaw10_KindOrder.Pure := by
  intro b1 n1 d1 m1 b2 n2 d2 m2 b3 n3 d3 m3 _ _ _
  apply Ev.rounds
  unfold caulkerlaw10_KindOrder.f
  refine Ev.bind sorts_any (Ev.pos rfl (Ev.bind (small_ev _ (by simp)) (Ev.ite (fun hs => ?_) (fun _ => Ev.now_ _))))
  have ⟨hn1, hm1⟩ := small_sizes (b := b1) (nm := n1) (d := d1) (m := m1) hs (by simp)
  have ⟨hn2, hm2⟩ := small_sizes (b := b2) (nm := n2) (d := d2) (m := m2) hs (by simp)
  have ⟨hn3, hm3⟩ := small_sizes (b := b3) (nm := n3) (d := d3) (m := m3) hs (by simp)
  have go : ∀ x, x = false → Ev (fun k => caulkerlaw10_KindOrder.j0 k x b1 n1 d1 m1 b2 n2 d2 m2 b3 n3 d3 m3) true := by
    rintro x rfl
    refine Ev.step (fun k => by rw [caulkerlaw10_KindOrder.j0]) ?_
    refine Ev.neg (by simp) (Ev.bind (less_ev b1 n1 d1 m1 b2 n2 d2 m2 hn1 hm1 hn2 hm2) (Ev.ite (fun h1 => ?_) (fun _ => Ev.now_ _)))
    refine Ev.bind (less_ev b2 n2 d2 m2 b3 n3 d3 m3 hn2 hm2 hn3 hm3) (Ev.ite (fun h2 => ?_) (fun _ => Ev.now_ _))
    refine Ev.bind (less_ev b1 n1 d1 m1 b3 n3 d3 m3 hn1 hm1 hn3 hm3) (Ev.pos (L_trans h1 h2) ?_)
    refine Ev.bind (bare_ev b1 n1 d1 m1 hn1 hm1) (Ev.bind (less_ev b1 n1 d1 (bareM b1 n1 d1 m1) b3 n3 d3 m3 hn1 (bareM_size hm1) hn3 hm3) (Ev.cast (Ev.now_ _) ?_))
    exact L_bare (L_trans h1 h2)
  refine Ev.bind (less_ev b1 n1 d1 m1 b1 n1 d1 m1 hn1 hm1 hn1 hm1) (Ev.bind (rightL_ev b1 n1 d1 m1 hm1) ?_)
  rw [L_self]
  refine Ev.neg (by simp) ?_
  refine Ev.bind (less_ev b1 n1 d1 m1 b2 n2 d2 m2 hn1 hm1 hn2 hm2) (Ev.ite (fun h1 => ?_) (fun h1 => go _ rfl))
  refine Ev.bind (less_ev b2 n2 d2 m2 b1 n1 d1 m1 hn2 hm2 hn1 hm1) (Ev.ite (fun h2 => go _ ?_) (fun h1 => go _ rfl))
  obtain ⟨rfl, rfl, rfl, rfl⟩ := L_anti h1 h2
  simp
end Go.Proofs.Ytljchkghnmnpgaa.Pure
