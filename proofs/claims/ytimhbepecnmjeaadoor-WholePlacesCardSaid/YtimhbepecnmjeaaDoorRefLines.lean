/- What the document's answers of layer 2 come to; texts and numbers as named. -/
import Derived.Test.YtimhbepecnmjeaaDoorLinesTheory3
import Derived.Test.YtimhbepecnmjeaaDoorEvKit
import Derived.Test.YtimhbepecnmjeaaDoorX22
import Derived.Test.YtimhbepecnmjeaaDoorX25
import Derived.Test.YtimhbepecnmjeaaDoorX26
import Derived.Test.YtimhbepecnmjeaaDoorX28
import Derived.Test.YtimhbepecnmjeaaDoorX29
import Derived.Lib.ItoaNum
namespace Go.Proofs.YtimhbepecnmjeaaDoor.LiR
open Go.RowKit Go.Proofs.YtimhbepecnmjeaaDoor.X Go.Proofs.YtimhbepecnmjeaaDoorW.PrintWords Go.Proofs.YtimhbepecnmjeaaDoorW.PrintLast Go.Proofs.YtimhbepecnmjeaaDoor.Li
set_option linter.unusedVariables false
set_option linter.unusedSimpArgs false
theorem btn {s : ByteArray} {i : Nat} (h : i < s.size) : bt s (i : Int) = (s[i].toNat : Int) := by
  unfold bt
  rw [dif_pos (by rw [Int.toNat_natCast]; exact h)]
  simp only [Int.toNat_natCast]
theorem get_data {s : ByteArray} {i : Nat} (h : i < s.size) (h2 : i < s.data.toList.length) : s.data.toList[i] = s[i] := rfl
theorem u8i (c : UInt8) (k : Nat) (hk : k < 256) : ((c.toNat : Int) = (k : Int)) ↔ c = UInt8.ofNat k := by
  rw [← UInt8.toNat_inj, UInt8.toNat_ofNat_of_lt' hk]
  omega
theorem ref_at (s : ByteArray) (n : Nat) (hn : n ≤ s.size) (hs : s.size ≤ 65536) : Ev (fun k => caulkerref02_At.f k s (n : Int)) (((plN s.data.toList n).1 : Int), ((plN s.data.toList n).2 : Int)) := by
  have hlen : s.data.toList.length = s.size := Array.length_toList
  have sm : ∀ i, i ≤ n → (plN s.data.toList i).1 ≤ 65537 ∧ (plN s.data.toList i).2 ≤ 65537 := by
    intro i hi
    rw [plN_eq (by omega)]
    have := ssN_len s.data.toList
    have := @cnN_le s.data.toList i
    dsimp only
    omega
  have key : ∀ (d i : Nat), n - i = d → i ≤ n → Ev (fun k => caulkerref02_At.l0 k s (n : Int) ((plN s.data.toList i).1 : Int) ((plN s.data.toList i).2 : Int) (i : Int)) (((plN s.data.toList n).1 : Int), ((plN s.data.toList n).2 : Int)) := by
    intro d
    induction d with
    | zero =>
      intro i h1 h2
      obtain rfl : i = n := by omega
      exact Ev.step (fun k => by rw [caulkerref02_At.l0]) (Ev.neg (by omega) (Ev.eq rfl))
    | succ d ih =>
      intro i h1 h2
      have hi : i < s.size := by omega
      have ih' := ih (i + 1) (by omega) (by omega)
      have h3 := sm i (by omega)
      have hp := plN_succ (l := s.data.toList) (i := i) (by omega)
      rw [get_data hi] at hp
      refine Ev.step (fun k => by rw [caulkerref02_At.l0]) (Ev.pos (by omega) (Ev.pos (by omega) (Ev.pos (by omega) ?_)))
      rw [btn hi, wrap_succ (i := i) (n := n) (by omega) (by omega), wrap_id (i := ((plN s.data.toList i).1 : Int) + 1) (by omega) (by omega), wrap_id (i := ((plN s.data.toList i).2 : Int) + 1) (by omega) (by omega)]
      by_cases hc : s[i] = 10
      · rw [if_pos hc] at hp
        rw [hp] at ih'
        refine Ev.pos ((u8i _ 10 (by decide)).2 hc) ?_
        simpa using ih'
      · rw [if_neg hc] at hp
        rw [hp] at ih'
        refine Ev.neg (fun e => hc ((u8i _ 10 (by decide)).1 e)) ?_
        simpa using ih'
  exact key n 0 (by omega) (by omega)
theorem bt_is {s : ByteArray} {i : Nat} (h : i < s.size) (k : Int) (u : UInt8) (hk : ((u.toNat : Nat) : Int) = k := by decide) : bt s (i : Int) = k ↔ s[i]'h = u := by
  rw [btn h, ← UInt8.toNat_inj, ← hk]
  omega
theorem ext_data (s : ByteArray) (i j : Nat) : (s.extract i j).data.toList = (s.data.toList.take j).drop i := by
  rw [ByteArray.data_extract, Array.toList_extract]
  simp [List.extract, List.drop_take]
theorem ba_ext {a b : ByteArray} (h : a.data.toList = b.data.toList) : a = b := ByteArray.ext (Array.toList_inj.1 h)
theorem ref_number : ∀ (n : Nat), n ≤ 70000 → Ev (fun k => caulkerref02_Number.f k (n : Int)) (⟨(Lib.itoa (n : Int)).toArray⟩ : ByteArray) := by
  intro n
  induction n using Nat.strongRecOn with
  | _ n ih =>
    intro hn
    have e0 : ∀ m : Nat, Lib.itoa (m : Int) = Lib.decDigits m := fun m => by unfold Lib.itoa; rw [if_neg (by omega), Int.toNat_natCast]
    by_cases h : n < 10
    · refine Ev.step (fun k => by rw [caulkerref02_Number.f]) (Ev.pos (by omega) (Ev.eq ?_))
      rw [e0, Lib.decDigits_one h]
      have : ∀ m : Fin 10, strOfNums ([(wrap64 (48 + (m.val : Int))) % 256] : List Int) = (⟨[UInt8.ofNat (48 + m.val)].toArray⟩ : ByteArray) := by decide +kernel
      rw [this ⟨n, h⟩]
    · have h1 := ih (n / 10) (by omega) (by omega)
      have h2 := ih (n % 10) (by omega) (by omega)
      have e1 : wrap64 (Int.tdiv (n : Int) 10) = ((n / 10 : Nat) : Int) := by
        rw [Int.tdiv_eq_ediv_of_nonneg (by omega), wrap_id (by omega) (by omega)]
        omega
      have e2 : Int.tmod (n : Int) 10 = ((n % 10 : Nat) : Int) := by
        rw [Int.tmod_eq_emod_of_nonneg (by omega)]
        omega
      refine Ev.step (fun k => by rw [caulkerref02_Number.f, e1, e2]) (Ev.neg (by omega) ?_)
      refine Ev.bind h1 ?_
      refine Ev.bind h2 ?_
      have hs : ∀ m : Nat, m ≤ 70000 → (⟨(Lib.itoa (m : Int)).toArray⟩ : ByteArray).size ≤ 70010 := by
        intro m hm
        show (Lib.itoa (m : Int)).toArray.size ≤ _
        rw [e0, List.size_toArray, Lib.decDigits_length]
        have : ∀ u : Nat, Lib.nDigits u ≤ u + 1 := by
          intro u
          induction u using Nat.strongRecOn with
          | _ u ih =>
            by_cases hu : u < 10
            · rw [Lib.nDigits_small hu]; omega
            · rw [Lib.nDigits_big hu]; have := ih (u / 10) (by omega); omega
        have := this m
        omega
      have s1 := hs (n / 10) (by omega)
      have s2 := hs (n % 10) (by omega)
      refine Ev.pos (by omega) (Ev.eq ?_)
      congr 1
      apply ba_ext
      rw [ByteArray.data_append, Array.toList_append]
      simp only [List.toList_toArray]
      rw [e0, e0, e0, Lib.decDigits_one (Nat.mod_lt n (by omega))]
      conv => rhs; rw [Lib.decDigits, dif_neg h]
/-- All lines, with their ends, as texts. -/
def rawsS (s : ByteArray) : List ByteArray := (List.range (ssN s.data.toList).length).map fun j => s.extract (sN s.data.toList j) (nxN s.data.toList j)
theorem ref_lines (s : ByteArray) (hs : s.size ≤ 65536) : Ev (fun k => caulkerref02_Lines.f k s) (rawsS s) := by
  have hlen : s.data.toList.length = s.size := Array.length_toList
  have hN := ssN_len s.data.toList
  have key : ∀ (d i : Nat), s.size - i = d → i ≤ s.size → Ev (fun k => caulkerref02_Lines.l0 k s ((List.range (cnN s.data.toList i - 1)).map fun j => s.extract (sN s.data.toList j) (nxN s.data.toList j)) (sN s.data.toList (cnN s.data.toList i - 1) : Int) (i : Int)) (rawsS s) := by
    intro d
    induction d with
    | zero =>
      intro i h1 h2
      obtain rfl : i = s.size := by omega
      have e := cnN_end s.data.toList
      rw [hlen] at e
      have hp := ssN_pos s.data.toList
      have hl := sN_le (l := s.data.toList) (cnN s.data.toList s.size - 1)
      refine Ev.step (fun k => by rw [caulkerref02_Lines.l0]) (Ev.neg (by omega) (Ev.pos (by omega) (Ev.pos (by omega) (Ev.pos ?_ (Ev.eq ?_)))))
      · rw [List.length_map, List.length_range]; omega
      · rw [rawsS]
        obtain ⟨m, hm⟩ : ∃ m, (ssN s.data.toList).length = m + 1 := ⟨(ssN s.data.toList).length - 1, by omega⟩
        rw [e, hm, Nat.add_sub_cancel, List.range_succ, List.map_append, Int.toNat_natCast]
        have : nxN s.data.toList m = s.size := by rw [nxN, if_neg (by omega), hlen]
        simp [this]
    | succ d ih =>
      intro i h1 h2
      have hi : i < s.size := by omega
      have ih' := ih (i + 1) (by omega) (by omega)
      have hp := cn_succ (l := s.data.toList) (i := i) (by omega)
      rw [get_data hi] at hp
      have hcp := @cnN_pos s.data.toList i
      have hcl := @cnN_le s.data.toList i
      have hle := (cn_line (l := s.data.toList) (k := i) (by omega))
      refine Ev.step (fun k => by rw [caulkerref02_Lines.l0]) (Ev.pos (by omega) (Ev.pos (by omega) ?_))
      rw [wrap_succ (i := i) (n := s.size) (by omega) (by omega)]
      by_cases hc : s[i] = 10
      · rw [if_pos hc] at hp
        have hnl := sN_newline (l := s.data.toList) (i := i) (by omega) (by rw [get_data hi]; exact hc)
        rw [hp, Nat.add_sub_cancel, hnl.1] at ih'
        refine Ev.pos ((bt_is hi 10 10).2 hc) (Ev.pos (by omega) (Ev.pos (by omega) (Ev.pos (by omega) (Ev.pos ?_ ?_))))
        · rw [List.length_map, List.length_range]; omega
        · rw [Int.toNat_natCast, Int.toNat_natCast]
          obtain ⟨m, hm⟩ : ∃ m, cnN s.data.toList i = m + 1 := ⟨cnN s.data.toList i - 1, by omega⟩
          rw [hm, List.range_succ, List.map_append] at ih'
          rw [hm, Nat.add_sub_cancel]
          have : nxN s.data.toList m = i + 1 := by rw [nxN, if_pos (by omega), ← hm, hnl.1]
          rw [List.map_singleton, this] at ih'
          exact ih'
      · rw [if_neg hc] at hp
        rw [hp] at ih'
        exact Ev.neg (fun e => hc ((bt_is hi 10 10).1 e)) ih'
  have h0 := key s.size 0 (by omega) (by omega)
  rw [cnN_zero] at h0
  exact h0
theorem ref_bare (x : ByteArray) (hx : x.size ≤ 70000) : Ev (fun k => caulkerref02_Bare.f k x) (⟨(bareL x.data.toList).toArray⟩ : ByteArray) := by
  have hlen : x.data.toList.length = x.size := Array.length_toList
  have hx2 : x = ⟨x.data.toList.toArray⟩ := ba_ext rfl
  have ht : ∀ n, x.extract 0 n = ⟨(x.data.toList.take n).toArray⟩ := fun n => ba_ext (by rw [ext_data, List.drop_zero])
  have jt : bareL x.data.toList = x.data.toList → Ev (fun k => caulkerref02_Bare.j0 k x (x.size : Int) true) (⟨(bareL x.data.toList).toArray⟩ : ByteArray) := fun e =>
    Ev.step (fun k => by rw [caulkerref02_Bare.j0]) (Ev.pos rfl (Ev.eq (by rw [e, ← hx2])))
  unfold caulkerref02_Bare.f
  by_cases h0 : x.size = 0
  · refine Ev.pos (by omega) (jt ?_)
    rw [bareL, if_pos (.inl (by omega))]
  · have g1 : x.size - 1 < x.size := by omega
    have w1 : wrap64 ((x.size : Int) - 1) = ((x.size - 1 : Nat) : Int) := by rw [wrap_id (by omega) (by omega)]; omega
    have w2 : 1 < x.size → wrap64 ((x.size : Int) - 2) = ((x.size - 2 : Nat) : Int) := fun h => by rw [wrap_id (by omega) (by omega)]; omega
    have d1 : x.data.toList.getD (x.data.toList.length - 1) 0 = x[x.size - 1] := by
      rw [List.getD_eq_getElem?_getD, hlen, List.getElem?_eq_getElem (by omega), Option.getD_some]
      rfl
    rw [w1]
    refine Ev.neg (by omega) (Ev.pos (by omega) (Ev.pos (by omega) ?_))
    by_cases hc : x[x.size - 1] = 10
    · have hb : (bt x ((x.size - 1 : Nat) : Int) != 10) = false := by
        rw [(bt_is g1 10 10).2 hc]; rfl
      rw [hb]
      refine Ev.step (fun k => by rw [caulkerref02_Bare.j0, w1]) (Ev.neg (by decide) ?_)
      have hn1 : ¬ (x.data.toList.length = 0 ∨ x.data.toList.getD (x.data.toList.length - 1) 0 ≠ 10) := by
        rw [d1]
        rintro (h | h)
        · omega
        · exact h hc
      by_cases h1 : 1 < x.size
      · have g2 : x.size - 2 < x.size := by omega
        have d2 : x.data.toList.getD (x.data.toList.length - 2) 0 = x[x.size - 2] := by
          rw [List.getD_eq_getElem?_getD, hlen, List.getElem?_eq_getElem (by omega), Option.getD_some]
          rfl
        rw [w2 h1]
        refine Ev.pos (by omega) (Ev.pos (by omega) (Ev.pos (by omega) ?_))
        by_cases hc2 : x[x.size - 2] = 13
        · refine Ev.pos ((bt_is g2 13 13).2 hc2) (Ev.pos (by omega) (Ev.eq ?_))
          rw [bareL, if_neg hn1, if_pos ⟨by omega, by rw [d2]; exact hc2⟩, Int.toNat_natCast, ht, hlen]
        · refine Ev.neg (fun e => hc2 ((bt_is g2 13 13).1 e)) (Ev.pos (by omega) (Ev.pos (by omega) (Ev.eq ?_)))
          rw [bareL, if_neg hn1, if_neg (fun h => hc2 (by rw [← d2]; exact h.2)), Int.toNat_natCast, ht, hlen]
      · refine Ev.neg (by omega) (Ev.pos (by omega) (Ev.pos (by omega) (Ev.eq ?_)))
        rw [bareL, if_neg hn1, if_neg (fun h => by omega), Int.toNat_natCast, ht, hlen]
    · have hb : (bt x ((x.size - 1 : Nat) : Int) != 10) = true := bne_iff_ne.2 (fun e => hc ((bt_is g1 10 10).1 e))
      rw [hb]
      refine jt ?_
      rw [bareL, if_pos (.inr (by rw [d1]; exact hc))]
/-- Blanks, and tabs where there are some. -/
def blankR (l : List UInt8) : List UInt8 := l.map fun c => if c = 9 then 9 else 32
theorem push_data (l : List UInt8) (c : UInt8) : (⟨l.toArray⟩ : ByteArray) ++ ⟨#[c]⟩ = ⟨(l ++ [c]).toArray⟩ := ba_ext (by rw [ByteArray.data_append, Array.toList_append])
theorem ref_under (x : ByteArray) (c n : Nat) (hx : x.size ≤ 70000) (hc : c ≤ x.size + 2) (hn : n ≤ 70000) : Ev (fun k => caulkerref02_Under.f k x ((c : Int) + 1) (n : Int)) (⟨(blankR (x.data.toList.take c) ++ List.replicate (max 1 (min n (x.size - c))) 94).toArray⟩ : ByteArray) := by
  have hlen : x.data.toList.length = x.size := Array.length_toList
  have wc : wrap64 ((c : Int) + 1 - 1) = (c : Int) := by rw [wrap_id (by omega) (by omega)]; omega
  have l1 : ∀ (d : Nat) (q i : Nat) (L : List UInt8), q - i = d → i ≤ q → q ≤ 70000 → L.length ≤ 70000 + i → Ev (fun k => caulkerref02_Under.l1 k (q : Int) ⟨L.toArray⟩ (i : Int)) (⟨(L ++ List.replicate d 94).toArray⟩ : ByteArray) := by
    intro d
    induction d with
    | zero =>
      intro q i L h1 h2 h3 h4
      refine Ev.step (fun k => by rw [caulkerref02_Under.l1]) (Ev.neg (by omega) (Ev.eq ?_))
      simp
    | succ d ih =>
      intro q i L h1 h2 h3 h4
      have ih' := ih q (i + 1) (L ++ [94]) (by omega) (by omega) h3 (by simp; omega)
      refine Ev.step (fun k => by rw [caulkerref02_Under.l1]) (Ev.pos (by omega) (Ev.pos ?_ ?_))
      · show L.toArray.size + 1 ≤ _
        simp; omega
      · rw [push_data, wrap_succ (i := i) (n := q) (by omega) (by omega)]
        rw [List.append_assoc, List.singleton_append, ← List.replicate_succ] at ih'
        exact ih'
  have j3 : ∀ (q : Nat) (L : List UInt8), q ≤ 70000 → L.length ≤ 70000 → Ev (fun k => caulkerref02_Under.j3 k (q : Int) ⟨L.toArray⟩) (⟨(L ++ List.replicate q 94).toArray⟩ : ByteArray) := fun q L h1 h2 =>
    Ev.step (fun k => by rw [caulkerref02_Under.j3]; rfl) (l1 q q 0 L (by omega) (by omega) h1 (by omega))
  have j2 : ∀ (z : Int) (q : Nat) (L : List UInt8), (if z < 1 then (q : Int) = 1 else (q : Int) = z) → q ≤ 70000 → L.length ≤ 70000 → Ev (fun k => caulkerref02_Under.j2 k z ⟨L.toArray⟩) (⟨(L ++ List.replicate q 94).toArray⟩ : ByteArray) := by
    intro z q L h1 h2 h3
    refine Ev.step (fun k => by rw [caulkerref02_Under.j2]) ?_
    by_cases hz : z < 1
    · rw [if_pos hz] at h1
      refine Ev.pos hz ?_
      have := j3 q L h2 h3
      rw [h1] at this
      exact this
    · rw [if_neg hz] at h1
      refine Ev.neg hz ?_
      have := j3 q L h2 h3
      rw [h1] at this
      exact this
  have jend : ∀ (L : List UInt8) (i : Int), L.length ≤ 70000 → Ev (fun k => caulkerref02_Under.j1 k x ((c : Int) + 1) (n : Int) ⟨L.toArray⟩ i false) (⟨(L ++ List.replicate (max 1 (min n (x.size - c))) 94).toArray⟩ : ByteArray) := by
    intro L i hL
    refine Ev.step (fun k => by rw [caulkerref02_Under.j1, wc]) (Ev.neg (by decide) ?_)
    rw [wrap_id (i := (x.size : Int) - (c : Int)) (by omega) (by omega)]
    by_cases h : (n : Int) > (x.size : Int) - (c : Int)
    · exact Ev.pos h (j2 _ _ L (by split <;> omega) (by omega) hL)
    · exact Ev.neg h (j2 _ _ L (by split <;> omega) (by omega) hL)
  have key : ∀ (d i : Nat), min c x.size - i = d → i ≤ min c x.size → Ev (fun k => caulkerref02_Under.l0 k x ((c : Int) + 1) (n : Int) ⟨(blankR (x.data.toList.take i)).toArray⟩ (i : Int)) (⟨(blankR (x.data.toList.take c) ++ List.replicate (max 1 (min n (x.size - c))) 94).toArray⟩ : ByteArray) := by
    intro d
    induction d with
    | zero =>
      intro i h1 h2
      have hi : i = min c x.size := by omega
      have e : x.data.toList.take i = x.data.toList.take c := by
        rcases Nat.le_total c x.size with h | h
        · rw [hi, Nat.min_eq_left h]
        · rw [List.take_of_length_le (by omega : x.data.toList.length ≤ c), List.take_of_length_le (by omega)]
      rw [e]
      have hbl : (blankR (x.data.toList.take c)).length ≤ 70000 := by
        rw [blankR, List.length_map, List.length_take]
        omega
      refine Ev.step (fun k => by rw [caulkerref02_Under.l0, wc]) ?_
      by_cases hic : (i : Int) < (c : Int)
      · refine Ev.pos hic ?_
        rw [decide_eq_false (by omega : ¬ (i : Int) < (x.size : Int))]
        exact jend _ _ hbl
      · exact Ev.neg hic (jend _ _ hbl)
    | succ d ih =>
      intro i h1 h2
      have hi : i < x.size := by omega
      have ih' := ih (i + 1) (by omega) (by omega)
      have hsz : (⟨(blankR (x.data.toList.take i)).toArray⟩ : ByteArray).size ≤ 70000 := by
        show (blankR (x.data.toList.take i)).toArray.size ≤ _
        rw [List.size_toArray, blankR, List.length_map, List.length_take]
        omega
      have et : x.data.toList.take (i + 1) = x.data.toList.take i ++ [x[i]] := by
        rw [List.take_succ_eq_append_getElem (by omega)]
        rfl
      rw [et, blankR, List.map_append] at ih'
      refine Ev.step (fun k => by rw [caulkerref02_Under.l0, wc]) (Ev.pos (by omega) ?_)
      rw [decide_eq_true (by omega : (i : Int) < (x.size : Int))]
      refine Ev.step (fun k => by rw [caulkerref02_Under.j1]) (Ev.pos rfl (Ev.pos (by omega) (Ev.pos (by omega) ?_)))
      rw [wrap_succ (i := i) (n := x.size) (by omega) (by omega), push_data, push_data]
      by_cases hc9 : x[i] = 9
      · rw [List.map_singleton, if_pos hc9] at ih'
        exact Ev.pos ((bt_is hi 9 9).2 hc9) (Ev.pos (by omega) ih')
      · rw [List.map_singleton, if_neg hc9] at ih'
        exact Ev.neg (fun e => hc9 ((bt_is hi 9 9).1 e)) (Ev.pos (by omega) ih')
  unfold caulkerref02_Under.f
  exact key (min c x.size) 0 (by omega) (by omega)
end Go.Proofs.YtimhbepecnmjeaaDoor.LiR
