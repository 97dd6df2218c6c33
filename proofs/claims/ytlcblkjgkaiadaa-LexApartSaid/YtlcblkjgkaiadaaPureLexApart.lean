/- Two texts with a line end between are cut as each of them is by itself, one behind the other, as the statement LexApart says; every input. -/
import Derived.Test.YtlcblkjgkaiadaaPureLexLib
import Derived.Test.YtlcblkjgkaiadaaPureLexCuts
import Derived.Test.YtlcblkjgkaiadaaX4
namespace Go.Proofs.Ytlcblkjgkaiadaa.Pure
open Go.RowKit Go.Proofs.Ytlcblkjgkaiadaa.X Go.Proofs.YtlcblkjgkaiadaaW.PrintWords Go.Proofs.YtlcblkjgkaiadaaW.PrintLast Go.Proofs.Ytlcblkjgkaiadaa.Lx
set_option linter.unusedVariables false
set_option linter.unusedSimpArgs false
theorem tokS_at (t : Nat × Nat × Nat) : (tokS t).f0 = (t.1 : Int) ∧ (tokS t).f1.f0 = (t.2.1 : Int) ∧ (tokS t).f1.f1 = (t.2.2 : Int) := ⟨rfl, rfl, rfl⟩
theorem rd32_get {T : List (Nat × Nat × Nat)} {i : Nat} {t : Nat × Nat × Nat} (h : T[i]? = some t) : rd_T32 (T.map tokS) (i : Int) = tokS t := by
  unfold rd_T32
  rw [Int.toNat_natCast, List.getD_eq_getElem?_getD, List.getElem?_map, h]
  rfl
theorem z_left {X Y : List (Nat × Nat × Nat)} {d i : Nat} (h : i < X.length - 1) : (X.dropLast ++ shiftT d Y)[i]? = X[i]? := by
  rw [List.getElem?_append_left (by rw [List.length_dropLast]; exact h), List.getElem?_dropLast, if_pos h]
theorem z_right {X Y : List (Nat × Nat × Nat)} {d i : Nat} (h : X.length - 1 ≤ i) : (X.dropLast ++ shiftT d Y)[i]? = (Y[i - (X.length - 1)]?).map fun t => (t.1, t.2.1 + d, t.2.2 + d) := by
  rw [List.getElem?_append_right (by rw [List.length_dropLast]; exact h), List.length_dropLast, shiftT, List.getElem?_map]
theorem apart_loop (a : ByteArray) (ha : a.size ≤ 1500) (X Y Z : List (Nat × Nat × Nat)) (hZ : X.dropLast ++ shiftT (a.size + 1) Y = Z) (hX : X.length ≤ 1501) (hY : Y.length ≤ 1501) (hX0 : 0 < X.length) (hb : ∀ t ∈ Y, t.2.1 ≤ 5000 ∧ t.2.2 ≤ 5000) (lz : (Z.map tokS).length = X.length - 1 + Y.length) : ∀ (d i : Nat), i + d = X.length - 1 + Y.length →
    Ev (fun k => caulkerlaw06_LexApart.l0 k a (X.map tokS) (Y.map tokS) (Z.map tokS) ((Z.map tokS).length : Int) (i : Int)) true
  | 0, i, h => Ev.step (fun k => by rw [caulkerlaw06_LexApart.l0]) (Ev.neg (by omega) (Ev.eq rfl))
  | d + 1, i, h => by
    have ih := apart_loop a ha X Y Z hZ hX hY hX0 hb lz d (i + 1) (by omega)
    have lx : (X.map tokS).length = X.length := List.length_map ..
    have ly : (Y.map tokS).length = Y.length := List.length_map ..
    refine Ev.step (fun k => by rw [caulkerlaw06_LexApart.l0]) ?_
    refine Ev.pos (by omega) (Ev.pos (by omega) (Ev.pos (by omega) ?_))
    by_cases h1 : i < X.length - 1
    · have hxx : i < X.length := by omega
      have hz := z_left (Y := Y) (d := a.size + 1) h1
      rw [hZ, List.getElem?_eq_getElem hxx] at hz
      have r1 := rd32_get hz
      have r2 := rd32_get (List.getElem?_eq_getElem hxx)
      have c1 : (i : Int) < (X.length : Int) - 1 := by omega
      have c2 : (i : Int) < ((X.map tokS).length : Int) := by omega
      have w1 : wrap64 (((X.map tokS).length : Int) - 1) = (X.length : Int) - 1 := by rw [lx]; exact wrap_id (by omega) (by omega)
      have w0 : wrap64 ((i : Int) + 1) = ((i + 1 : Nat) : Int) := wrap_succ (n := i + 1) (by omega) (by omega)
      rw [w1, w0, r1, r2]
      refine Ev.pos c1 (Ev.pos c2 (Ev.neg ?_ ih))
      simp
    · have hyy : i - (X.length - 1) < Y.length := by omega
      have hz := z_right (X := X) (Y := Y) (d := a.size + 1) (by omega : X.length - 1 ≤ i)
      rw [hZ, List.getElem?_eq_getElem hyy, Option.map_some] at hz
      obtain ⟨b1, b2⟩ := hb _ (List.getElem_mem hyy)
      have r1 := rd32_get hz
      have r2 := rd32_get (List.getElem?_eq_getElem hyy)
      have c1 : ¬ (i : Int) < (X.length : Int) - 1 := by omega
      have c2 : (0 : Int) ≤ ((i - (X.length - 1) : Nat) : Int) := by omega
      have c3 : ((i - (X.length - 1) : Nat) : Int) < ((Y.map tokS).length : Int) := by omega
      have w1 : wrap64 (((X.map tokS).length : Int) - 1) = (X.length : Int) - 1 := by rw [lx]; exact wrap_id (by omega) (by omega)
      have w0 : wrap64 ((i : Int) + 1) = ((i + 1 : Nat) : Int) := wrap_succ (n := i + 1) (by omega) (by omega)
      have w3 : wrap64 ((a.size : Int) + 1) = ((a.size + 1 : Nat) : Int) := wrap_succ (n := a.size + 1) (by omega) (by omega)
      have w2 : wrap64 (wrap64 ((i : Int) - ((X.map tokS).length : Int)) + 1) = ((i - (X.length - 1) : Nat) : Int) := by
        clear w1 w0 w3
        rw [lx, wrap_id (i := (i : Int) - (X.length : Int)) (by omega) (by omega), wrap_id (by omega) (by omega)]
        omega
      rw [w1, w0, w2, w3, r1, r2]
      refine Ev.neg c1 (Ev.pos c2 (Ev.pos c3 (Ev.neg ?_ ih)))
      clear w1 w0 w2 w3 r1 r2 hz ih c1 c2 c3
      generalize Y[i - (X.length - 1)] = y at b1 b2
      obtain ⟨y0, y1, y2⟩ := y
      dsimp only [tokS] at b1 b2 ⊢
      rw [wrap_id (i := (y1 : Int) + ((a.size + 1 : Nat) : Int)) (by omega) (by omega), wrap_id (i := (y2 : Int) + ((a.size + 1 : Nat) : Int)) (by omega) (by omega)]
      simp
theorem ch_bound : ∀ {ts : List (Nat × Nat × Nat)} {at_ : Nat} {l : List UInt8}, Ch at_ l ts → ∀ t ∈ ts, t.2.1 ≤ at_ + l.length ∧ t.2.2 ≤ at_ + l.length
  | [], _, _, h, _, _ => h.elim
  | [t], at_, l, h, x, hx => by
    rw [List.mem_singleton.1 hx, h.1]
    exact ⟨Nat.le_refl _, Nat.le_refl _⟩
  | t :: u :: ts, at_, l, h, x, hx => by
    obtain ⟨h1, h2, h3, h4⟩ := h
    have hl := oneN_le (l.drop (skipN false l))
    rw [List.length_drop] at hl
    rcases List.mem_cons.1 hx with rfl | hx
    · rw [h3]
      exact ⟨by show at_ + skipN false l ≤ _; omega, by show at_ + skipN false l + _ ≤ _; omega⟩
    · have := ch_bound h4 x hx
      rw [List.length_drop, List.length_drop] at this
      omega
theorem LexApart : caulkerlaw06_LexApart.Pure := by
  intro a b _ _
  apply Ev.rounds
  unfold caulkerlaw06_LexApart.f
  have yes : ∀ q, q = true → Ev (fun k => caulkerlaw06_LexApart.j0 k a b q) true := by
    rintro q rfl
    exact Ev.step (fun k => by rw [caulkerlaw06_LexApart.j0]) (Ev.pos rfl (Ev.eq rfl))
  refine Ev.bind cuts_any (Ev.pos rfl (Ev.ite (fun _ => yes _ rfl) (fun h1 => ?_)))
  by_cases h2 : (b.size : Int) > 1500
  · exact yes _ (decide_eq_true h2)
  rw [decide_eq_false h2]
  have hz : (a ++ (⟨#[10]⟩ : ByteArray) ++ b).data.toList = a.data.toList ++ 10 :: b.data.toList := by simp
  have hzs := sizen hz
  rw [List.length_append, List.length_cons, lenl, lenl] at hzs
  have hls : (a.data.toList ++ 10 :: b.data.toList).length = a.size + (b.size + 1) := by rw [List.length_append, List.length_cons, lenl, lenl]
  have q3 := lex_ev (a ++ (⟨#[10]⟩ : ByteArray) ++ b) (by omega)
  rw [hz] at q3
  have hz1 : (a ++ (⟨#[10]⟩ : ByteArray)).size + b.size ≤ 9223372036854775807 := by
    rw [ByteArray.size_append]
    show a.size + 1 + b.size ≤ _
    omega
  refine Ev.step (fun k => by rw [caulkerlaw06_LexApart.j0]) (Ev.neg Bool.false_ne_true ?_)
  refine Ev.bind (lex_ev a (by omega)) ?_
  refine Ev.bind (lex_ev b (by omega)) ?_
  refine Ev.pos (by omega) (Ev.pos hz1 ?_)
  refine Ev.bind q3 ?_
  obtain ⟨X, hX⟩ : ∃ X, lexN (a.size + 1) 0 0 a.data.toList = X := ⟨_, rfl⟩
  obtain ⟨Y, hY⟩ : ∃ Y, lexN (b.size + 1) 0 0 b.data.toList = Y := ⟨_, rfl⟩
  have hsh := lexN_shift (a.size + 1) (b.size + 1) 0 0 b.data.toList
  rw [Nat.zero_add, hY] at hsh
  rw [hX, hY]
  dsimp only
  by_cases hx : X.2.1 = 0
  · have hl := lexN_line b.data.toList (a.size + 1) ((a ++ (⟨#[10]⟩ : ByteArray) ++ b).size + 1) (b.size + 1) 0 0 a.data.toList (by rw [lenl]; omega) (by rw [hls, hzs]; omega) (by rw [lenl]; omega) (by rw [hls]; omega) (by rw [hX]; exact hx)
    rw [hX, lenl, show 0 + a.size + 1 = a.size + 1 by omega, hsh] at hl
    rw [hl]
    have hcx := lexN_ch (a.size + 1) 0 0 a.data.toList (by rw [lenl]; omega) (by rw [hX]; exact hx)
    rw [hX] at hcx
    have lx := hcx.length
    rw [lenl] at lx
    have lx0 : 0 < X.1.length := by
      cases hXl : X.1 with
      | nil => rw [hXl] at hcx; exact hcx.elim
      | cons t ts => exact Nat.succ_pos _
    refine Ev.pos (by omega) ?_
    by_cases hy : Y.2.1 = 0
    · have hcy := lexN_ch (b.size + 1) 0 0 b.data.toList (by rw [lenl]; omega) (by rw [hY]; exact hy)
      rw [hY] at hcy
      have ly := hcy.length
      rw [lenl] at ly
      rw [if_pos hy]
      refine Ev.pos (by omega) (Ev.pos rfl ?_)
      have lz : ((X.1.dropLast ++ shiftT (a.size + 1) Y.1).map tokS).length = X.1.length - 1 + Y.1.length := by simp [shiftT]
      rw [show ((((X.1.dropLast ++ shiftT (a.size + 1) Y.1).map tokS).length : Int) != wrap64 (wrap64 (((X.1.map tokS).length : Int) + ((Y.1.map tokS).length : Int)) - 1)) = false from by
        rw [lz, List.length_map, List.length_map, wrap_id (i := (X.1.length : Int) + (Y.1.length : Int)) (by omega) (by omega), wrap_id (by omega) (by omega), bne_eq_false_iff_eq]
        omega]
      refine Ev.step (fun k => by rw [caulkerlaw06_LexApart.j1]) (Ev.neg Bool.false_ne_true ?_)
      exact apart_loop a (by omega) X.1 Y.1 _ rfl (by omega) (by omega) lx0 (fun t ht => by
        have := ch_bound hcy t ht
        rw [lenl] at this
        omega) lz (X.1.length - 1 + Y.1.length) 0 (Nat.zero_add _)
    · rw [if_neg hy, if_neg hy]
      refine Ev.neg (by omega) (Ev.cast (Ev.eq rfl) ?_)
      have hat : Y.2.2 ≤ 1500 := by
        have : ∀ (f at_ n : Nat) (l : List UInt8), (lexN f at_ n l).2.2 ≤ at_ + l.length := by
          intro f
          induction f with
          | zero => intro at_ n l; exact Nat.zero_le _
          | succ f ih =>
            intro at_ n l
            have hk := skipN_le false l
            rcases Nat.lt_or_ge (skipN false l) l.length with hs | hs
            · by_cases hn : 16384 ≤ n
              · rw [lexN_long hs hn]; show at_ + skipN false l ≤ _; omega
              · by_cases hc : (oneN (l.drop (skipN false l))).2.2 = 0
                · have hl := oneN_le (l.drop (skipN false l))
                  rw [List.length_drop] at hl
                  rw [lexN_one rfl hs (by omega) rfl hc rfl rfl]
                  have := ih (at_ + skipN false l + (oneN (l.drop (skipN false l))).2.1) (n + 1) ((l.drop (skipN false l)).drop (oneN (l.drop (skipN false l))).2.1)
                  rw [List.length_drop, List.length_drop] at this
                  split
                  · exact Nat.zero_le _
                  · show (lexN f _ _ _).2.2 ≤ _; omega
                · rw [lexN_bad hs (by omega) hc]; show at_ + skipN false l ≤ _; omega
            · rw [lexN_end (by omega)]; exact Nat.zero_le _
        have := this (b.size + 1) 0 0 b.data.toList
        rw [hY, lenl] at this
        omega
      rw [wrap_id (i := (Y.2.2 : Int) + (a.size : Int)) (by omega) (by omega), wrap_id (by omega) (by omega)]
      rw [Bool.and_eq_true, beq_iff_eq, beq_iff_eq]
      exact ⟨rfl, by show ((Y.2.2 + (a.size + 1) : Nat) : Int) = _; omega⟩
  · have hx61 : X.2.1 = 61 ∨ X.2.1 ≠ 61 := Classical.em _
    refine Ev.neg (by omega) ?_
    rcases hx61 with h61 | h61
    · have e61 : ((X.2.1 : Nat) : Int) = 61 := by omega
      exact Ev.ite (fun _ => Ev.ite (fun _ => Ev.eq rfl) (fun _ => Ev.pos e61 (Ev.eq rfl))) (fun _ => Ev.pos e61 (Ev.eq rfl))
    · have hl := lexN_line_bad b.data.toList (a.size + 1) ((a ++ (⟨#[10]⟩ : ByteArray) ++ b).size + 1) 0 0 a.data.toList (by rw [lenl]; omega) (by rw [hls, hzs]; omega) (by rw [lenl]; omega) (by rw [hX]; exact hx) (by rw [hX]; exact h61)
      rw [hl, hX]
      exact Ev.pos rfl (Ev.pos rfl (Ev.eq rfl))
end Go.Proofs.Ytlcblkjgkaiadaa.Pure
