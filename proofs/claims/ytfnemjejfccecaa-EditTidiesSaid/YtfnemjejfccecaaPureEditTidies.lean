/- Tidy edits do the same, cost no more, are apart, change something each, and keep none of their ends; tidied once more nothing changes: as the statement EditTidies says; every input. -/
import Derived.Test.YtfnemjejfccecaaPureTidyLib
import Derived.Test.YtfnemjejfccecaaX12
namespace Go.Proofs.Ytfnemjejfccecaa.Pure
open Go.RowKit Go.Proofs.Ytfnemjejfccecaa.X Go.Proofs.YtfnemjejfccecaaW.PrintWords Go.Proofs.YtfnemjejfccecaaW.PrintLast Go.Proofs.Ytfnemjejfccecaa.Ed
set_option linter.unusedVariables false
set_option linter.unusedSimpArgs false

theorem val_get {n : Nat} : ∀ {l : List E} {at_ : Nat}, Val n at_ l → ∀ (i : Nat) (h : i < l.length), l[i].a ≤ l[i].b ∧ l[i].b ≤ n
  | x :: l, at_, h, 0, hi => ⟨h.2.1, h.2.2.1⟩
  | x :: l, at_, h, i + 1, hi => by
    have := val_get h.2.2.2 i (by simpa using hi)
    simpa using this
theorem empty_iff (s : ByteArray) : s.toList = ([] : List UInt8) ↔ s.size = 0 := by
  rw [Lib.toList_data, ba_size, List.length_eq_zero_iff]
theorem tidies_j2 (s : ByteArray) (hs : s.size ≤ 65536) (TS : List S60) (L : List S60) (len i : Int) (x : E) (h1 : x.a ≤ x.b) (h2 : x.b ≤ s.size) (hl : x.t.length ≤ 65536) (hF : FrontOk s.data.toList x) (hB : BackOk s.data.toList x) (r : Bool)
    (hn : Ev (fun k => caulkerlaw03_EditTidies.l0 k s TS L len (wrap64 (i + 1))) r) (c d : Int) :
    Ev (fun k => caulkerlaw03_EditTidies.j2 k s TS (s.extract ((x.a : Int)).toNat ((x.b : Int)).toNat) L len i false c d (ofE x).f1) r := by
  have hsz : (s.extract ((x.a : Int)).toNat ((x.b : Int)).toNat).size = x.b - x.a := by rw [ByteArray.size_extract]; omega
  have hts : (ofE x).f1.size = x.t.length := by simp [ofE, ByteArray.size]
  have hdl : (s.extract ((x.a : Int)).toNat ((x.b : Int)).toNat).data.toList = (s.data.toList.drop x.a).take (x.b - x.a) := by rw [ba_extract, Int.toNat_natCast, Int.toNat_natCast]
  refine Ev.step (fun k => by rw [caulkerlaw03_EditTidies.j2]) (Ev.neg (by decide) ?_)
  by_cases ha : x.a = x.b
  · exact Ev.pos ((empty_iff _).2 (by omega)) hn
  · refine Ev.neg (fun h => by have := (empty_iff _).1 h; omega) ?_
    by_cases ht : x.t = []
    · exact Ev.pos ((empty_iff _).2 (by rw [hts, ht]; rfl)) hn
    · have hl0 : 0 < x.t.length := List.length_pos_iff.2 ht
      refine Ev.neg (fun h => by have := (empty_iff _).1 h; omega) (Ev.pos (by omega) (Ev.pos (by omega) ?_))
      have e1 := bt_eq (s.extract ((x.a : Int)).toNat ((x.b : Int)).toNat) (ofE x).f1 0 0 (by omega) (by omega)
      have e2 := bt_eq (s.extract ((x.a : Int)).toNat ((x.b : Int)).toNat) (ofE x).f1 (x.b - x.a - 1) (x.t.length - 1) (by omega) (by omega)
      have g1 : (s.extract ((x.a : Int)).toNat ((x.b : Int)).toNat).data.toList[0]? = s.data.toList[x.a]? := by
        rw [hdl, List.getElem?_take_of_lt (by omega), List.getElem?_drop]
        rfl
      have g2 : (ofE x).f1.data.toList[0]? = x.t.head? := by rw [List.head?_eq_getElem?]; rfl
      have g3 : (s.extract ((x.a : Int)).toNat ((x.b : Int)).toNat).data.toList[x.b - x.a - 1]? = s.data.toList[x.b - 1]? := by
        rw [hdl, List.getElem?_take_of_lt (by omega), List.getElem?_drop]
        congr 1
        omega
      have g4 : (ofE x).f1.data.toList[x.t.length - 1]? = x.t.getLast? := by rw [List.getLast?_eq_getElem?]; rfl
      rw [g1, g2] at e1
      rw [g3, g4] at e2
      refine Ev.neg (fun h => hF (by omega) ht (e1.1 h)) ?_
      rw [hsz, hts, show wrap64 (((x.b - x.a : Nat) : Int) - 1) = ((x.b - x.a - 1 : Nat) : Int) by rw [wrap_id (by omega) (by omega)]; omega, show wrap64 ((x.t.length : Int) - 1) = ((x.t.length - 1 : Nat) : Int) by rw [wrap_id (by omega) (by omega)]; omega]
      exact Ev.pos (by omega) (Ev.pos (by omega) (Ev.pos (by omega) (Ev.pos (by omega) (Ev.neg (fun h => hB (by omega) ht (e2.1 h)) hn))))
theorem tidies_l0 (s : ByteArray) (hs : s.size ≤ 65536) (T : List E) (hT : Tid s.data.toList T) (hV : Val s.size 0 T) (hlen : T.length ≤ 4096) (ht : ∀ x ∈ T, x.t.length ≤ 65536) (r : Bool)
    (hr : Ev (fun k => (edit_Tidy.f k s (T.map ofE)).bind fun bt424 => if bt424.2 = 0 then caulkerlaw03_EditTidies.j3 k (T.map ofE) bt424.1 ((bt424.1.length : Int) != ((T.map ofE).length : Int)) else caulkerlaw03_EditTidies.j3 k (T.map ofE) bt424.1 true) r) : ∀ (d i : Nat), T.length - i = d → i ≤ T.length →
    Ev (fun k => caulkerlaw03_EditTidies.l0 k s (T.map ofE) (T.map ofE) ((T.map ofE).length : Int) (i : Int)) r := by
  have eL : (T.map ofE).length = T.length := List.length_map _
  intro d
  induction d with
  | zero =>
    intro i h1 h2
    refine Ev.step (fun k => by rw [caulkerlaw03_EditTidies.l0]) (Ev.neg (by omega) hr)
  | succ d ih =>
    intro i h1 h2
    have hi : i < T.length := by omega
    have hx := hT.one T[i] (List.getElem_mem hi)
    have hv := val_get hV i hi
    have htl := ht T[i] (List.getElem_mem hi)
    have next := ih (i + 1) (by omega) (by omega)
    refine Ev.step (fun k => by rw [caulkerlaw03_EditTidies.l0]) (Ev.pos (by omega) (Ev.pos (by omega) (Ev.pos (by omega) ?_)))
    rw [rd60_map hi]
    have e1 : (ofE T[i]).f0.f0 = (T[i].a : Int) := rfl
    have e2 : (ofE T[i]).f0.f1 = (T[i].b : Int) := rfl
    have hsz : (s.extract ((T[i].a : Int)).toNat ((T[i].b : Int)).toNat).size = T[i].b - T[i].a := by rw [ByteArray.size_extract]; omega
    have hts : (ofE T[i]).f1.size = T[i].t.length := by simp [ofE, ByteArray.size]
    rw [← wrap_succ (n := T.length) hi (by omega)] at next
    have j2 := fun c d => tidies_j2 s hs (T.map ofE) (T.map ofE) ((T.map ofE).length : Int) (i : Int) T[i] hv.1 hv.2 htl hx.1 hx.2.1 r next c d
    have later : ∀ c d : Int, Ev (fun k => if (i : Int) > 0 then (if 0 ≤ wrap64 ((i : Int) - 1) then (if wrap64 ((i : Int) - 1) < ((T.map ofE).length : Int) then caulkerlaw03_EditTidies.j2 k s (T.map ofE) (s.extract ((T[i].a : Int)).toNat ((T[i].b : Int)).toNat) (T.map ofE) ((T.map ofE).length : Int) (i : Int) (decide ((rd_T60 (T.map ofE) (wrap64 ((i : Int) - 1))).f0.f1 ≥ (T[i].a : Int))) c d (ofE T[i]).f1 else none) else none) else caulkerlaw03_EditTidies.j2 k s (T.map ofE) (s.extract ((T[i].a : Int)).toNat ((T[i].b : Int)).toNat) (T.map ofE) ((T.map ofE).length : Int) (i : Int) false c d (ofE T[i]).f1) r := by
      intro c d
      by_cases h0 : i = 0
      · exact Ev.neg (by omega) (j2 c d)
      · obtain ⟨j, rfl⟩ : ∃ j, i = j + 1 := ⟨i - 1, by omega⟩
        rw [wrap_pred (n := T.length) (by omega) (by omega)]
        refine Ev.pos (by omega) (Ev.pos (by omega) (Ev.pos (by omega) ?_))
        rw [rd60_map (by omega)]
        have hf := hT.far j hi
        rw [show decide ((ofE T[j]).f0.f1 ≥ (T[j + 1].a : Int)) = false by simp [ofE]; omega]
        exact j2 c d
    rw [e1, e2]
    refine Ev.pos (by omega) (Ev.pos (by omega) (Ev.pos (by omega) ?_))
    by_cases ha : T[i].a = T[i].b
    · refine Ev.pos ((empty_iff _).2 (by omega)) (Ev.neg (fun h => hx.2.2 ⟨ha, ?_⟩) (later _ _))
      have := (empty_iff _).1 h
      exact List.eq_nil_of_length_eq_zero (by omega)
    · exact Ev.neg (fun h => by have := (empty_iff _).1 h; omega) (later _ _)
theorem same2_from (x7 l : List S60) (hlen : l.length ≤ 9223372036854775807) (heq : x7 = l) : ∀ (d i : Nat), l.length - i = d → i ≤ l.length →
    Ev (fun k => caulkerlaw03_EditTidies.l1 k x7 l (l.length : Int) (i : Int)) true := by
  subst heq
  intro d
  induction d with
  | zero =>
    intro i h1 h2
    refine Ev.step (fun k => by rw [caulkerlaw03_EditTidies.l1]) ?_
    exact Ev.neg (by omega) (Ev.now _)
  | succ d ih =>
    intro i h1 h2
    have hi : i < x7.length := by omega
    refine Ev.step (fun k => by rw [caulkerlaw03_EditTidies.l1]) (Ev.pos (by omega) (Ev.pos (by omega) (Ev.pos (by omega) (Ev.pos (by omega) ?_))))
    rw [wrap_succ hi hlen]
    exact Ev.neg (by simp) (ih (i + 1) (by omega) (by omega))
/-- What is applied of tidy edits. -/
theorem tidied {s : ByteArray} {l : List S60} (h : (applyV s l).2 = 0) : applyV s ((tidy s.data.toList [] (l.map toE)).map ofE) = applyV s l ∧ Pass s.size ((tidy s.data.toList [] (l.map toE)).map ofE) ∧ Tid s.data.toList (tidy s.data.toList [] (l.map toE)) ∧ Val s.size 0 (tidy s.data.toList [] (l.map toE)) ∧
    (tidy s.data.toList [] (l.map toE)).length ≤ l.length ∧ puts (tidy s.data.toList [] (l.map toE)) ≤ puts (l.map toE) ∧ takes (tidy s.data.toList [] (l.map toE)) ≤ takes (l.map toE) ∧ ∀ x ∈ tidy s.data.toList [] (l.map toE), x.t.length ≤ 65536 := by
  obtain ⟨hs, hP, hgr, ha⟩ := applied h
  have esz : s.data.toList.length = s.size := (ba_size s).symm
  have hv : Val s.data.toList.length 0 (l.map toE) := by rw [esz]; exact hP.val
  obtain ⟨k1, k2, k3, k4, k5, k6⟩ := tidy_kept (s := s.data.toList) (l := l.map toE) (out := []) (by simpa using hv) (Tid.nil _)
  rw [List.nil_append] at k2
  rw [List.length_nil, List.length_map] at k4
  simp only [puts, takes, Nat.zero_add] at k4 k5 k6
  generalize tidy s.data.toList [] (l.map toE) = T at *
  have hgi := growI_eq hP.ok
  have al := app_length hv
  have aT := app_length k1
  rw [k2] at aT
  have tl := takes_val hv
  have ht : ∀ x ∈ T, x.t.length ≤ 65536 := fun x hx => by
    have := puts_mem hx
    omega
  have hV : Val s.size 0 T := by rw [← esz]; exact k1
  have hll := hP.len
  have hch : chkV (s.size : Int) (T.map ofE) = 0 := chkV_of_val hs (by omega) hV ht
  have hP2 := pass_of hch
  have hgi2 := growI_eq hP2.ok
  rw [map_toE_ofE] at hgi2
  refine ⟨?_, hP2, k3, hV, by omega, k5, k6, ht⟩
  have e2 : applyV s l = (⟨(app s.data.toList 0 (l.map toE)).toArray⟩, 0) := Prod.ext ha h
  rw [e2]
  unfold applyV
  rw [if_neg (by omega), if_pos hch, if_neg (by omega), map_toE_ofE, k2]
theorem EditTidies : caulkerlaw03_EditTidies.Pure := by
  intro s l h1 h2 h3 hg
  apply Ev.rounds
  unfold caulkerlaw03_EditTidies.f
  refine Ev.bind edits_any (Ev.pos rfl (Ev.bind (small_any s l) ?_))
  refine Ev.ite (fun _ => ?_) (fun _ => Ev.now _)
  refine Ev.bind (ref_apply_any s l h2) (Ev.bind (tidy_any s l h2) ?_)
  by_cases h : (applyV s l).2 = 0
  · refine Ev.pos h ?_
    obtain ⟨hs, hP, hgr, ha⟩ := applied h
    obtain ⟨t1, hP2, k3, hV, k4, k5, k6, ht⟩ := tidied h
    have et : tidyV s l = ((tidy s.data.toList [] (l.map toE)).map ofE, 0) := by unfold tidyV; rw [if_pos h]
    have hid := tidy_id (s := s.data.toList) (l := tidy s.data.toList [] (l.map toE)) (out := []) (by simpa using k3)
    rw [List.nil_append] at hid
    rw [et]
    generalize tidy s.data.toList [] (l.map toE) = T at *
    have hL : (T.map ofE).length ≤ 9223372036854775807 := by rw [List.length_map]; omega
    have et2 : tidyV s (T.map ofE) = (T.map ofE, 0) := by unfold tidyV; rw [t1, if_pos h, map_toE_ofE, hid]
    refine Ev.bind (ref_apply_any s _ hL) ?_
    rw [t1]
    refine Ev.pos rfl (Ev.pos h (Ev.pos rfl (Ev.bind (cost_any hP2) (Ev.bind (cost_any hP) ?_))))
    rw [map_toE_ofE]
    refine Ev.neg (by omega) ?_
    have e3 : decide (((T.map ofE).length : Int) > (l.length : Int)) = false := by rw [List.length_map]; simp; omega
    rw [e3]
    refine Ev.step (fun k => by rw [caulkerlaw03_EditTidies.j0]) (Ev.neg (by decide) ?_)
    have hll := hP.len
    refine tidies_l0 s hs T k3 hV (by omega) ht true ?_ _ 0 rfl (by omega)
    refine Ev.bind (tidy_any s _ hL) ?_
    rw [et2]
    refine Ev.pos rfl ?_
    simp only [bne_self_eq_false]
    refine Ev.step (fun k => by rw [caulkerlaw03_EditTidies.j3]) (Ev.neg (by decide) ?_)
    exact same2_from _ _ hL rfl _ 0 rfl (by omega)
  · refine Ev.neg h ?_
    have et : tidyV s l = ([], (applyV s l).2) := by unfold tidyV; rw [if_neg h]
    rw [et]
    exact Ev.pos rfl (Ev.now _)
end Go.Proofs.Ytfnemjejfccecaa.Pure
