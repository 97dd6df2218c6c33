/- A type with another mark at any layer, or at its last one, is that type, or isn't there, and why, as the statement KindMarks says; every input. -/
import Derived.Test.YtljchkghnmnpgaaX4
import Derived.Test.YtljchkghnmnpgaaPureKindSorts
import Derived.Test.YtljchkghnmnpgaaPureKindBytes
namespace Go.Proofs.Ytljchkghnmnpgaa.Pure
open Go.RowKit Go.Proofs.Ytljchkghnmnpgaa.X Go.Proofs.YtljchkghnmnpgaaW.PrintWords Go.Proofs.YtljchkghnmnpgaaW.PrintLast
theorem marks_eq (m : ByteArray) (i x : Int) (h0 : 0 ≤ i) (hi : i.toNat < m.size) : ((m.extract 0 i.toNat) ++ (strOfNums [x])) ++ (m.extract (i + 1).toNat m.size) = markAt m i x := by
  refine ByteArray.ext (Array.toList_inj.1 ?_)
  have e2 : (i + 1).toNat = i.toNat + 1 := by omega
  have hl : m.data.toList.length = m.size := Array.length_toList
  have cut : ∀ a b, (m.extract a b).data.toList = (m.data.toList.take b).drop a := fun a b => by
    rw [ByteArray.data_extract, Array.toList_extract]
    rw [List.extract_eq_take_drop, List.drop_take]
  have app : ∀ s t : ByteArray, (s ++ t).data.toList = s.data.toList ++ t.data.toList := fun s t => by rw [ByteArray.data_append, Array.toList_append]
  rw [app, app, cut, cut, e2]
  show _ = List.map _ ((bytesOf m).set i.toNat x)
  have e3 : (strOfNums [x]).data.toList = [UInt8.ofNat x.toNat] := rfl
  have e4 : List.map (fun n : Int => UInt8.ofNat n.toNat) ((bytesOf m).set i.toNat x) = m.data.toList.set i.toNat (UInt8.ofNat x.toNat) := by
    rw [List.map_set, bytesOf, List.map_map]
    have : ((fun n : Int => UInt8.ofNat n.toNat) ∘ fun b : UInt8 => (b.toNat : Int)) = id := by funext b; simp
    rw [this, List.map_id]
  rw [e3, e4, List.set_eq_take_append_cons_drop, if_pos (by omega), ← hl, List.take_length, List.drop_zero, List.append_assoc]
  rfl
def withT (b : Int) (nm : ByteArray) (d : Int) (m : ByteArray) (x : Int) : Int × ByteArray × Int × ByteArray × Int := if d > 0 ∨ b = 5 then (if T b nm d (m.extract 0 d.toNat ++ strOfNums [x]) = true then (b, nm, d, m.extract 0 d.toNat ++ strOfNums [x], 0) else zeroT 81) else zeroT 130
theorem zero_is (e : Int) : ((zeroT e).1 == 0 && ((zeroT e).2.1.toList == ([] : List UInt8) && ((zeroT e).2.2.1 == 0 && ((zeroT e).2.2.2.1.toList == ([] : List UInt8))))) = true := by
  simp only [zeroT, toList_empty]; rfl
theorem zero_isnt (e : Int) : (!((zeroT e).1 == 0) || (!((zeroT e).2.1.toList == ([] : List UInt8)) || (!((zeroT e).2.2.1 == 0) || (!((zeroT e).2.2.2.1.toList == ([] : List UInt8)))))) = false := by
  simp only [zeroT, toList_empty]; rfl
theorem marks_tail (b : Int) (nm : ByteArray) (d : Int) (m : ByteArray) (x : Int) (hm : m.size ≤ 1000000) (ht : T b nm d m = true) :
    Ev (fun k => caulkerlaw10_KindMarks.j1 k x (withT b nm d m x).2.2.2.2 b nm d m (withT b nm d m x).1 (withT b nm d m x).2.1 (withT b nm d m x).2.2.1 (withT b nm d m x).2.2.2.1) true := by
  have hs := R_size (T_R ht)
  have z1 : (m.extract 0 d.toNat).size ≤ 10 := by rw [ByteArray.size_extract]; omega
  have z2 : (strOfNums [x]).size = 1 := rfl
  have z3 : (m.extract 0 d.toNat ++ strOfNums [x]).size ≤ 1000000 := by rw [ByteArray.size_append, z2]; omega
  have yes : d > 0 ∨ b = 5 → ∀ y, y = false → Ev (fun k => caulkerlaw10_KindMarks.j2 k x (withT b nm d m x).2.2.2.2 y b nm d m (withT b nm d m x).1 (withT b nm d m x).2.1 (withT b nm d m x).2.2.1 (withT b nm d m x).2.2.2.1) true := by
    rintro h y rfl
    rw [withT, if_pos h]
    refine Ev.step (fun k => by rw [caulkerlaw10_KindMarks.j2]) ?_
    refine Ev.neg (by simp) (Ev.pos (by omega) (Ev.pos (by omega) (Ev.bind (Ev.now_ _) (Ev.pos (by omega) (Ev.bind (ref_ev b nm d _ (by omega)) ?_)))))
    refine Ev.ite (fun h2 => ?_) (fun h2 => ?_)
    · rw [if_pos h2]
      exact Ev.pos rfl (Ev.cast (Ev.now_ _) (by simp))
    · rw [if_neg h2]
      exact Ev.pos rfl (Ev.cast (Ev.now_ _) (zero_is 81))
  refine Ev.step (fun k => by rw [caulkerlaw10_KindMarks.j1]) ?_
  refine Ev.ite (fun h0 => ?_) (fun h0 => yes (by omega) _ rfl)
  by_cases h5 : b = 5
  · exact yes (.inr h5) _ (by simpa using h5)
  · have e5 : (b != 5) = true := by simpa using h5
    rw [e5, withT, if_neg (by omega)]
    refine Ev.step (fun k => by rw [caulkerlaw10_KindMarks.j2]) ?_
    exact Ev.pos rfl (Ev.pos rfl (Ev.cast (Ev.now_ _) (zero_is 130)))
theorem KindMarks : caulkerlaw10_KindMarks.Pure := by
  intro b nm d m i x _ hi _
  have wi := wf_range hi
  apply Ev.rounds
  unfold caulkerlaw10_KindMarks.f
  refine Ev.bind sorts_any (Ev.pos rfl (Ev.bind (small_ev _ (by simp)) (Ev.ite (fun hs => ?_) (fun _ => Ev.now_ _))))
  have ⟨hn, hm⟩ := small_sizes (b := b) (nm := nm) (d := d) (m := m) hs (by simp)
  have ma := mark_ev b nm d m hn hm i x
  have wi_ := with_ev b nm d m hn hm x
  by_cases ht : T b nm d m = true
  · rw [if_pos ht] at ma
    have hs := R_size (T_R ht)
    have we : (if T b nm d m = true ∧ (d > 0 ∨ b = 5) then (if T b nm d (m.extract 0 d.toNat ++ strOfNums [x]) = true then (b, nm, d, m.extract 0 d.toNat ++ strOfNums [x], 0) else zeroT 81) else zeroT 130) = withT b nm d m x := by
      unfold withT
      by_cases h : d > 0 ∨ b = 5
      · rw [if_pos ⟨ht, h⟩, if_pos h]
      · rw [if_neg (fun k => h k.2), if_neg h]
    rw [we] at wi_
    have tail := marks_tail b nm d m x hm ht
    have out : i < 0 ∨ i > d → ∀ y, y = true → Ev (fun k => caulkerlaw10_KindMarks.j0 k i x (zeroT 1).2.2.2.2 (withT b nm d m x).2.2.2.2 y b nm d m (zeroT 1).1 (zeroT 1).2.1 (zeroT 1).2.2.1 (zeroT 1).2.2.2.1 (withT b nm d m x).1 (withT b nm d m x).2.1 (withT b nm d m x).2.2.1 (withT b nm d m x).2.2.2.1) true := by
      rintro _ y rfl
      refine Ev.step (fun k => by rw [caulkerlaw10_KindMarks.j0]) ?_
      exact Ev.pos rfl (Ev.pos rfl (Ev.neg (by rw [zero_isnt]; simp) tail))
    by_cases h0 : i < 0
    · rw [if_pos (.inl h0)] at ma
      exact Ev.bind ma (Ev.bind wi_ (Ev.bind (plain_ev b nm d m hm) (Ev.pos ht (Ev.pos h0 (out (.inl h0) _ rfl)))))
    · by_cases hd : i > d
      · rw [if_pos (.inr hd)] at ma
        exact Ev.bind ma (Ev.bind wi_ (Ev.bind (plain_ev b nm d m hm) (Ev.pos ht (Ev.neg h0 (out (.inr hd) _ (decide_eq_true hd))))))
      · rw [if_neg (by omega)] at ma
        refine Ev.bind ma (Ev.bind wi_ (Ev.bind (plain_ev b nm d m hm) (Ev.pos ht (Ev.neg h0 ?_))))
        rw [decide_eq_false hd]
        have z0 := markAt_size m i x
        have z1 : (m.extract 0 i.toNat).size ≤ 10 := by rw [ByteArray.size_extract]; omega
        have z2 : (strOfNums [x]).size = 1 := rfl
        have z3 : (m.extract (i + 1).toNat m.size).size ≤ 10 := by rw [ByteArray.size_extract]; omega
        refine Ev.step (fun k => by rw [caulkerlaw10_KindMarks.j0]) ?_
        rw [wrap_id (i := i + 1) (by omega) (by omega)]
        refine Ev.neg (by simp) (Ev.pos (by omega) (Ev.pos (by omega) (Ev.bind (Ev.now_ _) (Ev.pos (by omega) (Ev.pos (by omega) (Ev.pos (by omega) (Ev.pos (by rw [ByteArray.size_append]; omega) ?_)))))))
        rw [marks_eq m i x (by omega) (by omega)]
        refine Ev.bind (ref_ev b nm d (markAt m i x) (by omega)) ?_
        by_cases h2 : T b nm d (markAt m i x) = true
        · rw [if_pos h2, h2]
          exact Ev.neg (by simp) (Ev.pos rfl (Ev.neg (by simp) tail))
        · rw [if_neg h2, Bool.eq_false_iff.mpr h2]
          exact Ev.neg (by simp [zeroT]) (Ev.neg (by simp [zeroT]) (Ev.pos rfl (Ev.neg (by rw [zero_isnt]; simp) tail)))
  · rw [if_neg ht] at ma
    rw [if_neg (fun h => ht h.1)] at wi_
    exact Ev.bind ma (Ev.bind wi_ (Ev.bind (plain_ev b nm d m hm) (Ev.neg ht (Ev.pos rfl (Ev.pos rfl (Ev.pos (zero_is 130) (Ev.cast (Ev.now_ _) (zero_is 130))))))))
end Go.Proofs.Ytljchkghnmnpgaa.Pure
