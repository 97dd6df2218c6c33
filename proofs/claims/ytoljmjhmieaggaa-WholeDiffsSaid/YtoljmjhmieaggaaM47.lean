/- What edit.trim and edit.Tidy answer, as plain facts about lists; under the sizes named. -/
import Derived.Test.YtoljmjhmieaggaaM43
import Derived.Test.YtoljmjhmieaggaaEdTidy2
import Derived.Test.YtoljmjhmieaggaaX32
import Derived.Test.YtoljmjhmieaggaaX20
import Derived.Lib.Strings
section
namespace Go.Proofs.Ytoljmjhmieaggaa.Pure
open Go.RowKit Go.Proofs.Ytoljmjhmieaggaa.X Go.Proofs.YtoljmjhmieaggaaW.PrintWords Go.Proofs.YtoljmjhmieaggaaW.PrintLast Go.Proofs.Ytoljmjhmieaggaa.Ed
set_option linter.unusedVariables false
set_option linter.unusedSimpArgs false

def bal (l : List UInt8) : ByteArray := ⟨l.toArray⟩
theorem bal_size (l : List UInt8) : (bal l).size = l.length := by simp [bal, ByteArray.size]
theorem bal_list (l : List UInt8) : (bal l).toList = l := by rw [Lib.toList_data]; simp [bal]
theorem bal_tail (l : List UInt8) : (bal l).extract 1 (bal l).size = bal l.tail := by
  apply ba_ext
  rw [ba_extract, bal_size]
  simp [bal, List.take_of_length_le]
theorem bal_init (l : List UInt8) (n : Nat) (h : l.length = n + 1) : (bal l).extract 0 n = bal l.dropLast := by
  apply ba_ext
  rw [ba_extract]
  simp [bal, List.dropLast_eq_take, h]
theorem tbt_get (s : ByteArray) (i : Nat) (h : i < s.size) : bt s (i : Int) = ((s.data.toList[i]'(by rw [← ba_size]; exact h)).toNat : Int) := by
  unfold bt
  rw [dif_pos (by rw [Int.toNat_natCast]; exact h)]
  simp only [Int.toNat_natCast]
  rfl
theorem tbt_eq (s t : ByteArray) (i j : Nat) (hi : i < s.size) (hj : j < t.size) : bt s (i : Int) = bt t (j : Int) ↔ s.data.toList[i]? = t.data.toList[j]? := by
  rw [tbt_get s i hi, tbt_get t j hj, List.getElem?_eq_getElem (by rw [← ba_size]; exact hi), List.getElem?_eq_getElem (by rw [← ba_size]; exact hj)]
  constructor
  · intro h
    congr 1
    exact UInt8.toNat_inj.1 (by omega)
  · intro h
    rw [Option.some.inj h]
def outE (z : E) : Int × Int × ByteArray := ((z.a : Int), (z.b : Int), bal z.t)
theorem trim_l1 (s : ByteArray) (hs : s.size ≤ 9223372036854775807) : ∀ (n : Nat) (y : E), y.b - y.a ≤ n → y.a ≤ y.b → y.b ≤ s.size → y.t.length ≤ 9223372036854775807 → Ev (fun k => edit_trim.l1 k s (y.a : Int) (y.b : Int) (bal y.t)) (outE (tb s.data.toList n y)) := by
  intro n
  induction n with
  | zero =>
    intro y h1 h2 h3 h4
    refine Ev.step (fun k => by rw [edit_trim.l1]) ?_
    exact Ev.neg (by omega) (Ev.now_ _)
  | succ n ih =>
    intro y h1 h2 h3 h4
    refine Ev.step (fun k => by rw [edit_trim.l1]) ?_
    by_cases hab : y.a < y.b
    · refine Ev.pos (by omega) ?_
      by_cases ht : y.t = []
      · refine Ev.pos (by rw [bal_list, ht]) (Ev.cast (Ev.now_ _) ?_)
        rw [tb, if_neg (fun h => h.2.1 ht)]
        rfl
      · refine Ev.neg (by rw [bal_list]; exact ht) ?_
        have hl : 0 < y.t.length := List.length_pos_iff.2 ht
        rw [bal_size, show wrap64 ((y.b : Int) - 1) = ((y.b - 1 : Nat) : Int) by rw [wrap_id (by omega) (by omega)]; omega, show wrap64 ((y.t.length : Int) - 1) = ((y.t.length - 1 : Nat) : Int) by rw [wrap_id (by omega) (by omega)]; omega]
        refine Ev.pos (by omega) (Ev.pos (by omega) (Ev.pos (by omega) (Ev.pos (by omega) ?_)))
        have hb := tbt_eq s (bal y.t) (y.b - 1) (y.t.length - 1) (by omega) (by rw [bal_size]; omega)
        have hlast : (bal y.t).data.toList[y.t.length - 1]? = y.t.getLast? := by rw [List.getLast?_eq_getElem?]; rfl
        rw [hlast] at hb
        by_cases he : s.data.toList[y.b - 1]? = y.t.getLast?
        · refine Ev.pos (hb.2 he) (Ev.pos (by omega) ?_)
          rw [Int.toNat_natCast, bal_init _ _ (by omega), tb, if_pos ⟨hab, ht, he⟩]
          exact ih ⟨y.a, y.b - 1, y.t.dropLast⟩ (by show y.b - 1 - y.a ≤ n; omega) (by show y.a ≤ y.b - 1; omega) (by show y.b - 1 ≤ _; omega) (by show y.t.dropLast.length ≤ _; rw [List.length_dropLast]; omega)
        · refine Ev.neg (fun h => he (hb.1 h)) (Ev.cast (Ev.now_ _) ?_)
          rw [tb, if_neg (fun h => he h.2.2)]
          rfl
    · refine Ev.neg (by omega) (Ev.cast (Ev.now_ _) ?_)
      rw [tb, if_neg (fun h => hab h.1)]
      rfl
theorem trim_l0 (s : ByteArray) (hs : s.size ≤ 9223372036854775807) (N : Nat) : ∀ (n : Nat) (y : E), y.b - y.a ≤ n → y.b - y.a ≤ N → y.a ≤ y.b → y.b ≤ s.size → y.t.length ≤ 9223372036854775807 → Ev (fun k => edit_trim.l0 k s (y.a : Int) (y.b : Int) (bal y.t)) (outE (tb s.data.toList N (tf s.data.toList n y))) := by
  intro n
  induction n with
  | zero =>
    intro y h1 hN h2 h3 h4
    refine Ev.step (fun k => by rw [edit_trim.l0]) (Ev.neg (by omega) (Ev.step (fun k => by rw [edit_trim.j1]) ?_))
    exact trim_l1 s hs N y hN h2 h3 h4
  | succ n ih =>
    intro y h1 hN h2 h3 h4
    refine Ev.step (fun k => by rw [edit_trim.l0]) ?_
    have stop : tf s.data.toList (n + 1) y = y → Ev (fun k => edit_trim.j1 k s (y.a : Int) (y.b : Int) (bal y.t)) (outE (tb s.data.toList N (tf s.data.toList (n + 1) y))) := by
      intro h
      rw [h]
      refine Ev.step (fun k => by rw [edit_trim.j1]) ?_
      exact trim_l1 s hs N y hN h2 h3 h4
    by_cases hab : y.a < y.b
    · refine Ev.pos (by omega) ?_
      by_cases ht : y.t = []
      · exact Ev.pos (by rw [bal_list, ht]) (stop (by rw [tf, if_neg (fun h => h.2.1 ht)]))
      · refine Ev.neg (by rw [bal_list]; exact ht) ?_
        have hl : 0 < y.t.length := List.length_pos_iff.2 ht
        refine Ev.pos (by omega) (Ev.pos (by omega) (Ev.pos (by rw [bal_size]; omega) ?_))
        have hb := tbt_eq s (bal y.t) y.a 0 (by omega) (by rw [bal_size]; omega)
        have hhead : (bal y.t).data.toList[0]? = y.t.head? := by rw [List.head?_eq_getElem?]; rfl
        rw [hhead] at hb
        by_cases he : s.data.toList[y.a]? = y.t.head?
        · refine Ev.pos (hb.2 he) (Ev.pos (by rw [bal_size]; omega) ?_)
          rw [wrap_id (by omega) (by omega), bal_tail, tf, if_pos ⟨hab, ht, he⟩]
          exact ih ⟨y.a + 1, y.b, y.t.tail⟩ (by show y.b - (y.a + 1) ≤ n; omega) (by show y.b - (y.a + 1) ≤ N; omega) (by show y.a + 1 ≤ y.b; omega) h3 (by show y.t.tail.length ≤ _; rw [List.length_tail]; omega)
        · refine Ev.neg (fun h => he (hb.1 h)) (stop (by rw [tf, if_neg (fun h => he h.2.2)]))
    · exact Ev.neg (by omega) (stop (by rw [tf, if_neg (fun h => hab h.1)]))
theorem trim_any (s : ByteArray) (hs : s.size ≤ 9223372036854775807) (y : E) (h2 : y.a ≤ y.b) (h3 : y.b ≤ s.size) (h4 : y.t.length ≤ 9223372036854775807) : Ev (fun k => edit_trim.f k s (y.a : Int) (y.b : Int) (bal y.t)) (outE (trimE s.data.toList y)) := by
  unfold edit_trim.f
  exact trim_l0 s hs _ _ y (Nat.le_refl _) (Nat.le_refl _) h2 h3 h4

theorem rd41_map {l : List E} {i : Nat} (h : i < l.length) : rd_T41 (l.map ofE) (i : Int) = ofE l[i] := by
  rw [rd41_lt (by rw [List.length_map]; exact h), List.getElem_map]
theorem puts_mem : ∀ {l : List E} {x : E}, x ∈ l → x.t.length ≤ puts l
  | y :: l, x, h => by
    rw [puts]
    rcases List.mem_cons.1 h with rfl | h
    · omega
    · have := puts_mem h; omega
theorem getLast_take {l : List E} {o : E} (h : l.getLast? = some o) : ∃ hl : l.length - 1 < l.length, l[l.length - 1] = o ∧ l.dropLast = l.take (l.length - 1) := by
  rw [List.getLast?_eq_getElem?] at h
  obtain ⟨hi, he⟩ := List.getElem?_eq_some_iff.1 h
  exact ⟨hi, he, List.dropLast_eq_take⟩
theorem tidy_from (s : ByteArray) (hs : s.size ≤ 65536) (l : List S41) (hl : l.length ≤ 4096) (hall : ∀ x ∈ l, 0 ≤ x.f0.f0 ∧ x.f0.f0 ≤ x.f0.f1) : ∀ (d i : Nat) (os : List E), l.length - i = d → i ≤ l.length →
    Val s.data.toList.length 0 (os ++ (l.drop i).map toE) → Tid s.data.toList os → os.length ≤ i → puts os + puts ((l.drop i).map toE) ≤ 1000000000 →
    Ev (fun k => edit_Tidy.l0 k s (os.map ofE) l (l.length : Int) (i : Int)) ((tidy s.data.toList os ((l.drop i).map toE)).map ofE, 0) := by
  have esz : s.data.toList.length = s.size := (ba_size s).symm
  intro d
  induction d with
  | zero =>
    intro i os h1 h2 hV hT hlen hP
    refine Ev.step (fun k => by rw [edit_Tidy.l0]) (Ev.neg (by omega) (Ev.cast (Ev.now_ _) ?_))
    rw [List.drop_eq_nil_of_le (by omega)]
    rfl
  | succ d ih =>
    intro i os h1 h2 hV hT hlen hP
    have hi : i < l.length := by omega
    have hx := hall l[i] (List.getElem_mem hi)
    rw [List.drop_eq_getElem_cons hi, List.map_cons] at hV hP ⊢
    have hk := step_kept hV hT
    obtain ⟨v1, v2, v3, v4, v5⟩ := val_append.1 hV
    rw [puts] at hP
    -- the next round
    have next : Ev (fun k => edit_Tidy.l0 k s ((tstep s.data.toList os (toE l[i])).map ofE) l (l.length : Int) (wrap64 ((i : Int) + 1))) ((tidy s.data.toList os (toE l[i] :: (l.drop (i + 1)).map toE)).map ofE, 0) := by
      rw [wrap_succ hi (by omega)]
      have k4 := hk.len
      have k5 := hk.puts
      exact ih (i + 1) (tstep s.data.toList os (toE l[i])) (by omega) (by omega) hk.val hk.tid (by omega) (by omega)
    refine Ev.step (fun k => by rw [edit_Tidy.l0]) (Ev.pos (by omega) (Ev.pos (by omega) (Ev.pos (by omega) ?_)))
    rw [rd41_lt hi]
    have e1 : l[i].f0.f0 = ((toE l[i]).a : Int) := by simp only [toE]; omega
    have e2 : l[i].f0.f1 = ((toE l[i]).b : Int) := by simp only [toE]; omega
    have e3 : l[i].f1 = bal (toE l[i]).t := by apply ba_ext; simp [bal, toE]
    rw [e1, e2, e3]
    have htl : (toE l[i]).t.length ≤ 1000000000 := by omega
    refine Ev.bind (trim_any s (by omega) (toE l[i]) v3 (by rw [← esz]; exact v4) (by omega)) ?_
    generalize toE l[i] = x at *
    have hL := trim_like s.data.toList x v3
    have hLa := hL.a
    have hLab := hL.ab
    have hLb := hL.b
    have hLl := hL.len
    unfold tstep at next
    generalize hx' : trimE s.data.toList x = x' at *
    simp only [outE]
    -- the way on from j1
    have j1 : Ev (fun k => edit_Tidy.j1 k s (os.map ofE) l (l.length : Int) (i : Int) (decide (Empty' x')) (x'.a : Int) (x'.b : Int) (bal x'.t)) ((tidy s.data.toList os (x :: (l.drop (i + 1)).map toE)).map ofE, 0) := by
      refine Ev.step (fun k => by rw [edit_Tidy.j1]) ?_
      by_cases he : Empty' x'
      · rw [if_pos he] at next
        exact Ev.pos (by simpa using he) next
      · rw [if_neg he] at next
        refine Ev.neg (by simpa using he) ?_
        rw [List.length_map]
        -- where it is laid behind
        have plain : Ev (fun k => edit_Tidy.l0 k s ((os ++ [x']).map ofE) l (l.length : Int) (wrap64 ((i : Int) + 1))) ((tidy s.data.toList os (x :: (l.drop (i + 1)).map toE)).map ofE, 0) → Ev (fun k => edit_Tidy.j2 k s (os.map ofE) (os.length : Int) l (l.length : Int) (i : Int) false (x'.a : Int) (x'.b : Int) (bal x'.t)) ((tidy s.data.toList os (x :: (l.drop (i + 1)).map toE)).map ofE, 0) := by
          intro hn
          refine Ev.step (fun k => by rw [edit_Tidy.j2]) (Ev.neg (by decide) (Ev.pos (by rw [List.length_map]; omega) ?_))
          rw [List.map_append] at hn
          exact hn
        cases hlast : os.getLast? with
        | none =>
          rw [hlast] at next
          have : os = [] := by
            cases os with
            | nil => rfl
            | cons a b => simp at hlast
          subst this
          exact Ev.neg (by simp) (plain next)
        | some o =>
          rw [hlast] at next
          simp only at next
          obtain ⟨hol, hoe, hod⟩ := getLast_take hlast
          have epred : wrap64 ((os.length : Int) - 1) = ((os.length - 1 : Nat) : Int) := by rw [wrap_id (by omega) (by omega)]; omega
          refine Ev.pos (by omega) ?_
          rw [epred]
          refine Ev.pos (by omega) (Ev.pos (by omega) ?_)
          rw [rd41_map hol, hoe]
          by_cases hm : o.b = x'.a
          · rw [if_pos hm] at next
            have e4 : ((ofE o).f0.f1 == (x'.a : Int)) = true := by simp [ofE, hm]
            rw [e4]
            have hom : o ∈ os := by rw [← hoe]; exact List.getElem_mem hol
            have hop := puts_mem hom
            have hout : os = os.dropLast ++ [o] := by
              have hne : os ≠ [] := by rintro rfl; simp at hlast
              have := List.dropLast_concat_getLast hne
              rw [List.getLast?_eq_some_getLast hne] at hlast
              rw [← Option.some.inj hlast]
              exact this.symm
            have hoab : o.a ≤ o.b := by
              rw [hout] at v1
              exact (val_append.1 v1).2.2.1
            refine Ev.step (fun k => by rw [edit_Tidy.j2]) (Ev.pos rfl ?_)
            rw [epred]
            refine Ev.pos (by omega) (Ev.pos (by rw [List.length_map]; omega) ?_)
            rw [rd41_map hol, hoe]
            refine Ev.pos (by rw [bal_size]; simp only [ofE, ByteArray.size]; simp; omega) ?_
            have e5 : (ofE o).f1 ++ bal x'.t = bal (joinE o x').t := by
              apply ba_ext
              rw [ba_append]
              simp [ofE, bal, joinE]
            rw [e5]
            have e6 : (ofE o).f0.f0 = ((joinE o x').a : Int) := rfl
            have e7 : (x'.b : Int) = ((joinE o x').b : Int) := rfl
            rw [e6, e7]
            refine Ev.bind (trim_any s (by omega) (joinE o x') (by show o.a ≤ x'.b; omega) (by show x'.b ≤ s.size; omega) (by show (o.t ++ x'.t).length ≤ _; rw [List.length_append]; omega)) ?_
            generalize trimE s.data.toList (joinE o x') = y at *
            simp only [outE]
            refine Ev.pos (by rw [List.length_map]; omega) (Ev.bind (Ev.now_ _) ?_)
            have e8 : (os.map ofE).take (((os.length - 1 : Nat) : Int)).toNat = os.dropLast.map ofE := by rw [Int.toNat_natCast, hod, List.map_take]
            rw [e8]
            have hdl : os.dropLast.length ≤ 4096 := by rw [List.length_dropLast]; omega
            unfold tput at next
            have app1 : ¬ Empty' y → Ev (fun k => if (os.dropLast.map ofE).length < 4398046511104 then edit_Tidy.l0 k s (os.dropLast.map ofE ++ [(⟨(⟨(y.a : Int), (y.b : Int)⟩ : S39), bal y.t⟩ : S41)]) l (l.length : Int) (wrap64 ((i : Int) + 1)) else none) ((tidy s.data.toList os (x :: (l.drop (i + 1)).map toE)).map ofE, 0) := by
              intro hy
              rw [if_neg hy, List.map_append] at next
              exact Ev.pos (by rw [List.length_map]; omega) next
            by_cases hya : y.a = y.b
            · refine Ev.pos (by omega) ?_
              by_cases hyt : y.t = []
              · rw [if_pos ⟨hya, hyt⟩] at next
                exact Ev.pos (by rw [bal_list]; exact hyt) next
              · exact Ev.neg (by rw [bal_list]; exact hyt) (app1 (fun h => hyt h.2))
            · exact Ev.neg (by omega) (app1 (fun h => hya h.1))
          · rw [if_neg hm] at next
            have e4 : ((ofE o).f0.f1 == (x'.a : Int)) = false := by simp [ofE]; omega
            rw [e4]
            exact plain next
    by_cases ha : x'.a = x'.b
    · refine Ev.pos (by omega) ?_
      have : ((bal x'.t).toList == ([] : List UInt8)) = decide (Empty' x') := by
        rw [bal_list, Bool.eq_iff_iff]
        simp [Empty', ha]
      rw [this]
      exact j1
    · refine Ev.neg (by omega) ?_
      have : decide (Empty' x') = false := by simp [Empty', ha]
      rw [this] at j1
      exact j1
theorem takes_val {n : Nat} : ∀ {l : List E} {at_ : Nat}, Val n at_ l → takes l + at_ ≤ n
  | [], at_, h => by simp only [takes]; have : at_ ≤ n := h; omega
  | x :: l, at_, h => by
    obtain ⟨h1, h2, h3, h4⟩ := h
    have := takes_val h4
    rw [takes]
    omega
def tidyV (s : ByteArray) (l : List S41) : List S41 × Int := if (applyV s l).2 = 0 then ((tidy s.data.toList [] (l.map toE)).map ofE, 0) else ([], (applyV s l).2)
theorem tidy_any (s : ByteArray) (l : List S41) (hl : l.length ≤ 9223372036854775807) : Ev (fun k => edit_Tidy.f k s l) (tidyV s l) := by
  unfold edit_Tidy.f tidyV
  refine Ev.bind (apply_any s l hl) ?_
  by_cases h : (applyV s l).2 = 0
  · obtain ⟨h1, hP, h3, h4⟩ := applied h
    rw [if_pos h]
    refine Ev.pos h ?_
    have hpu := puts_le hP.ok
    have hll := hP.len
    have := tidy_from s h1 l hP.len (fun x hx => ⟨(hP.ok x hx).1, (hP.ok x hx).2.1⟩) _ 0 [] rfl (by omega) (by simpa [← ba_size] using hP.val) (Tid.nil _) (by simp) (by simp [puts]; omega)
    simpa using this
  · rw [if_neg h]
    exact Ev.neg h (Ev.now_ _)
end Go.Proofs.Ytoljmjhmieaggaa.Pure
end
section
namespace Go.Proofs.Ytoljmjhmieaggaa.Pure
open Go.RowKit Go.Proofs.Ytoljmjhmieaggaa.X Go.Proofs.YtoljmjhmieaggaaW.PrintWords Go.Proofs.YtoljmjhmieaggaaW.PrintLast Go.Proofs.Ytoljmjhmieaggaa.Ed
set_option linter.unusedVariables false
set_option linter.unusedSimpArgs false

/-- What is applied of tidy edits. -/
theorem tidied {s : ByteArray} {l : List S41} (h : (applyV s l).2 = 0) : applyV s ((tidy s.data.toList [] (l.map toE)).map ofE) = applyV s l ∧ Pass s.size ((tidy s.data.toList [] (l.map toE)).map ofE) ∧ Tid s.data.toList (tidy s.data.toList [] (l.map toE)) ∧ Val s.size 0 (tidy s.data.toList [] (l.map toE)) ∧
    (tidy s.data.toList [] (l.map toE)).length ≤ l.length ∧ puts (tidy s.data.toList [] (l.map toE)) ≤ puts (l.map toE) ∧ takes (tidy s.data.toList [] (l.map toE)) ≤ takes (l.map toE) ∧ ∀ x ∈ tidy s.data.toList [] (l.map toE), x.t.length ≤ 65536 := by
  obtain ⟨hs, hP, hgr, ha⟩ := applied h
  have esz : s.data.toList.length = s.size := (ba_size s).symm
  have hv : Val s.data.toList.length 0 (l.map toE) := by rw [esz]; exact hP.val
  obtain ⟨k1, k2, k3, k4, k5, k6⟩ := tidy_kept (s := s.data.toList) (l := l.map toE) (out := []) (by simpa using hv) (Tid.nil _)
  rw [List.nil_append] at k2
  rw [List.length_nil, List.length_map] at k4
  simp only [puts, takes, Nat.zero_add] at k4 k5 k6
  generalize tidy s.data.toList [] (l.map toE) = T at *
  have hgi := growI_eq hP.ok
  have al := app_length hv
  have aT := app_length k1
  rw [k2] at aT
  have tl := takes_val hv
  have ht : ∀ x ∈ T, x.t.length ≤ 65536 := fun x hx => by
    have := puts_mem hx
    omega
  have hV : Val s.size 0 T := by rw [← esz]; exact k1
  have hll := hP.len
  have hch : chkV (s.size : Int) (T.map ofE) = 0 := chkV_of_val hs (by omega) hV ht
  have hP2 := pass_of hch
  have hgi2 := growI_eq hP2.ok
  rw [map_toE_ofE] at hgi2
  refine ⟨?_, hP2, k3, hV, by omega, k5, k6, ht⟩
  have e2 : applyV s l = (⟨(app s.data.toList 0 (l.map toE)).toArray⟩, 0) := Prod.ext ha h
  rw [e2]
  unfold applyV
  rw [if_neg (by omega), if_pos hch, if_neg (by omega), map_toE_ofE, k2]
end Go.Proofs.Ytoljmjhmieaggaa.Pure
end
