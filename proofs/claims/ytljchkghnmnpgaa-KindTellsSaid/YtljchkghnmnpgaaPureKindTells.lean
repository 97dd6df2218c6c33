/- Of any type what it is: whether it may be, refers to something, its last mark, the layers that may have marks, and how it is written, as the statement KindTells says; every input. -/
import Derived.Test.YtljchkghnmnpgaaX8
import Derived.Test.YtljchkghnmnpgaaPureKindSorts
import Derived.Test.YtljchkghnmnpgaaPureKindBytes
namespace Go.Proofs.Ytljchkghnmnpgaa.Pure
open Go.RowKit Go.Proofs.Ytljchkghnmnpgaa.X Go.Proofs.YtljchkghnmnpgaaW.PrintWords Go.Proofs.YtljchkghnmnpgaaW.PrintLast
theorem five_cuts (d : Int) (h0 : 0 ≤ d) (h4 : d ≤ 4) : (⟨#[32, 32, 32, 32, 32]⟩ : ByteArray).extract 0 (d + 1).toNat = blanks (d + 1).toNat := by
  have h : d = 0 ∨ d = 1 ∨ d = 2 ∨ d = 3 ∨ d = 4 := by omega
  rcases h with rfl | rfl | rfl | rfl | rfl <;> exact toList_inj (by decide +kernel)
def tailL (b : Int) : Nat → Nat → List Int
 | 0, _ => []
 | n + 1, i => if (i : Int) > 0 ∨ b = 5 then (i : Int) :: tailL b n (i + 1) else tailL b n (i + 1)
theorem tailL_length (b : Int) : ∀ n i : Nat, (i : Int) > 0 ∨ b = 5 → (tailL b n i).length = n
  | 0, i, _ => rfl
  | n + 1, i, h => by rw [tailL, if_pos h, List.length_cons, tailL_length b n (i + 1) (by omega)]
theorem tailL_at (b : Int) : ∀ (n i j : Nat), (i : Int) > 0 ∨ b = 5 → j < n → rd (tailL b n i) (j : Int) = ((i + j : Nat) : Int)
  | n + 1, i, 0, h, _ => by rw [tailL, if_pos h]; rfl
  | n + 1, i, j + 1, h, hj => by
    rw [tailL, if_pos h]
    have := tailL_at b n (i + 1) j (by omega) (by omega)
    rw [show i + (j + 1) = i + 1 + j by omega, ← this]
    simp [rd, List.getD_eq_getElem?_getD]
theorem layers_loop (b : Int) (nm : ByteArray) (d : Int) (m : ByteArray) (N : Nat) (hN : N ≤ 1000) : ∀ (n i : Nat) (acc : List Int), i + n = N → acc.length ≤ i → Ev (fun k => kind_Layers.l0 k acc (N : Int) (i : Int) b nm d m) (acc ++ tailL b n i)
  | 0, i, acc, h, ha => by
    refine Ev.step (fun k => by rw [kind_Layers.l0]) ?_
    exact Ev.neg (by omega) (Ev.cast (Ev.now_ _) (by rw [tailL, List.append_nil]))
  | n + 1, i, acc, h, ha => by
    have hw : wrap64 ((i : Int) + 1) = ((i + 1 : Nat) : Int) := wrap_succ (n := N) (by omega) (by omega)
    have ih := fun acc => layers_loop b nm d m N hN n (i + 1) acc (by omega)
    rw [← hw] at ih
    refine Ev.step (fun k => by rw [kind_Layers.l0]) (Ev.pos (by omega) ?_)
    rw [tailL]
    refine Ev.ite (fun h1 => Ev.pos (by omega) ?_) (fun h1 => Ev.ite (fun h2 => Ev.pos (by omega) ?_) (fun h2 => ?_))
    · rw [if_pos (.inl h1)]
      exact Ev.cast (ih _ (by rw [List.length_append]; simp; omega)) (by simp)
    · rw [if_pos (.inr h2)]
      exact Ev.cast (ih _ (by rw [List.length_append]; simp; omega)) (by simp)
    · rw [if_neg (by omega)]
      exact ih _ (by omega)
section
variable (b : Int) (nm : ByteArray) (d : Int) (m : ByteArray) (hn : nm.size ≤ 1000000) (hm : m.size ≤ 1000000)
include hn hm
theorem layers_ev : Ev (fun k => kind_Layers.f k b nm d m) (if T b nm d m = true then tailL b (d + 1).toNat 0 else []) := by
  have none_ : ∀ x, x = true → Ev (fun k => kind_Layers.j0 k ([] : List Int) x b nm d m) [] := by
    rintro x rfl
    refine Ev.step (fun k => by rw [kind_Layers.j0]) ?_
    exact Ev.pos rfl (Ev.now_ _)
  unfold kind_Layers.f
  refine Ev.bind (right_ev b nm d m hn hm) (Ev.ite (fun h => ?_) (fun h => by rw [if_neg (fun ht => h (T_R ht))]; exact none_ _ rfl))
  refine Ev.ite (fun h7 => by rw [notT (.inl h7)]; exact none_ _ rfl) (fun h7 => ?_)
  by_cases h8 : b = 8
  · rw [notT (.inr h8)]
    exact none_ _ (by simpa using h8)
  · have ht := R_T h h7 h8
    have hs := R_size h
    have e8 : (b == 8) = false := by simpa using h8
    rw [if_pos ht, e8]
    refine Ev.step (fun k => by rw [kind_Layers.j0]) (Ev.neg (by simp) ?_)
    have l := layers_loop b nm d m (d + 1).toNat (by omega) (d + 1).toNat 0 [] (by omega) (by simp)
    rw [show (((d + 1).toNat : Nat) : Int) = d + 1 by omega, show ((0 : Nat) : Int) = 0 from rfl] at l
    rw [wrap_id (i := d + 1) (by omega) (by omega)]
    exact l
theorem show_ev : Ev (fun k => kind_Show.f k b nm d m) (if isNull b nm d m = true then (⟨#[110, 117, 108, 108]⟩ : ByteArray) else if isNone b nm d m = true then (⟨#[110, 111, 110, 101]⟩ : ByteArray) else if T b nm d m = true then ttFrom m m.size 0 (baseText b nm) else (⟨#[]⟩ : ByteArray)) := by
  unfold kind_Show.f kind_Null.f kind_None.f
  refine Ev.bind (Ev.now_ _) ?_
  simp only [toList_empty, toList_q, toList_o]
  refine Ev.ite (fun h => ?_) (fun h => ?_)
  · have h' : isNull b nm d m = true := h
    rw [if_pos h']
    exact Ev.now_ _
  have h' : ¬ isNull b nm d m = true := h
  rw [if_neg h']
  refine Ev.bind (Ev.now_ _) ?_
  simp only [toList_empty, toList_q, toList_o]
  refine Ev.ite (fun h => ?_) (fun h => ?_)
  · have h' : isNone b nm d m = true := h
    rw [if_pos h']
    exact Ev.now_ _
  have h' : ¬ isNone b nm d m = true := h
  rw [if_neg h']
  exact Ev.bind (text_ev b nm d m hn hm) (Ev.now_ _)
end
theorem type_loop (b : Int) (nm : ByteArray) (d : Int) (m : ByteArray) (hd : (m.size : Int) = d + 1) (h4 : d ≤ 4) : ∀ (n i : Nat) (s : ByteArray), i + n = m.size → s.size + 10 * n ≤ 1000000000 → Ev (fun k => caulkerref07_Type.l0 k s (i : Int) b nm d m) (ttFrom m n i s)
  | 0, i, s, h, hs => by
    refine Ev.step (fun k => by rw [caulkerref07_Type.l0]) ?_
    exact Ev.neg (by omega) (Ev.now_ _)
  | n + 1, i, s, h, hs => by
    have hw : wrap64 ((i : Int) + 1) = ((i + 1 : Nat) : Int) := wrap_succ (n := m.size) (by omega) (by omega)
    have e1 : (⟨#[91, 93]⟩ : ByteArray).size = 2 := rfl
    have e2 : (⟨#[79, 112, 116, 105, 111, 110, 60]⟩ : ByteArray).size = 7 := rfl
    have j2 : ∀ s : ByteArray, s.size + 10 * n + 8 ≤ 1000000000 → Ev (fun k => caulkerref07_Type.j2 k s (i : Int) b nm d m) (ttFrom m n (i + 1) (ttMark (bt m (i : Int)) s)) := by
      intro s hs
      have z := ttMark_size (bt m (i : Int)) s
      have ih := type_loop b nm d m hd h4 n (i + 1) (ttMark (bt m (i : Int)) s) (by omega) (by omega)
      rw [← hw] at ih
      refine Ev.step (fun k => by rw [caulkerref07_Type.j2]) (Ev.pos (by omega) (Ev.pos (by omega) ?_))
      unfold ttMark at ih ⊢
      refine Ev.ite (fun h => ?_) (fun h => ?_)
      · rw [if_pos h] at ih ⊢
        exact Ev.pos (by omega) (Ev.neg (by omega) ih)
      · rw [if_neg h] at ih ⊢
        refine Ev.ite (fun h2 => ?_) (fun h2 => ?_)
        · rw [if_pos h2] at ih ⊢
          exact Ev.pos (by omega) (Ev.pos (by rw [ByteArray.size_append, e2]; omega) ih)
        · rw [if_neg h2] at ih ⊢
          exact ih
    refine Ev.step (fun k => by rw [caulkerref07_Type.l0]) (Ev.pos (by omega) ?_)
    rw [ttFrom]
    refine Ev.ite (fun hi => Ev.pos (by omega) ?_) (fun hi => ?_)
    · rw [if_pos hi]
      exact j2 _ (by rw [ByteArray.size_append, e1]; omega)
    · rw [if_neg hi]
      exact j2 _ (by omega)
theorem type_ev (b : Int) (nm : ByteArray) (d : Int) (m : ByteArray) (hn : nm.size ≤ 1000000) (ht : T b nm d m = true) : Ev (fun k => caulkerref07_Type.f k b nm d m) (ttFrom m m.size 0 (baseText b nm)) := by
  have hs := R_size (T_R ht)
  have hb := T_base ht
  have go : ∀ s : ByteArray, s.size ≤ 1000000 → Ev (fun k => caulkerref07_Type.j0 k s b nm d m) (ttFrom m m.size 0 s) := by
    intro s hs'
    have l := type_loop b nm d m hs.2.2 hs.2.1 m.size 0 s (by omega) (by omega)
    rw [show ((0 : Nat) : Int) = 0 from rfl] at l
    exact Ev.step (fun k => by rw [caulkerref07_Type.j0]) l
  unfold caulkerref07_Type.f
  refine Ev.ite (fun h5 => ?_) (fun h5 => Ev.bind (Ev.now_ _) (Ev.pos (by omega) (Ev.pos (by simp; omega) ?_)))
  · have : baseText b nm = nm := by rw [h5]; rfl
    rw [this]
    exact go nm hn
  · have h : b = 1 ∨ b = 2 ∨ b = 3 ∨ b = 4 ∨ b = 6 := by omega
    rcases h with h | h | h | h | h
    · have e : baseText b nm = (⟨#[105, 110, 116]⟩ : ByteArray) := by rw [h]; rfl
      rw [e]; refine Ev.cast (go (rdOf ByteArray.empty _ b) ?_) ?_ <;> (subst h; first | rfl | decide)
    · have e : baseText b nm = (⟨#[98, 111, 111, 108]⟩ : ByteArray) := by rw [h]; rfl
      rw [e]; refine Ev.cast (go (rdOf ByteArray.empty _ b) ?_) ?_ <;> (subst h; first | rfl | decide)
    · have e : baseText b nm = (⟨#[100, 111, 117, 98, 108, 101]⟩ : ByteArray) := by rw [h]; rfl
      rw [e]; refine Ev.cast (go (rdOf ByteArray.empty _ b) ?_) ?_ <;> (subst h; first | rfl | decide)
    · have e : baseText b nm = (⟨#[115, 116, 114]⟩ : ByteArray) := by rw [h]; rfl
      rw [e]; refine Ev.cast (go (rdOf ByteArray.empty _ b) ?_) ?_ <;> (subst h; first | rfl | decide)
    · have e : baseText b nm = (⟨#[118, 111, 105, 100]⟩ : ByteArray) := by rw [h]; rfl
      rw [e]; refine Ev.cast (go (rdOf ByteArray.empty _ b) ?_) ?_ <;> (subst h; first | rfl | decide)
section
variable (b : Int) (nm : ByteArray) (d : Int) (m : ByteArray) (hn : nm.size ≤ 1000000) (hm : m.size ≤ 1000000) (ht : T b nm d m = true)
include hn hm ht
theorem tells_loop (f : Nat) (hf : f ≤ 1) (l : List Int) (hl : l.length ≤ 10) (hat : ∀ j : Nat, j < l.length → rd l (j : Int) = ((f + j : Nat) : Int)) : ∀ n i : Nat, i + n = l.length → Ev (fun k => caulkerlaw10_KindTells.l0 k (f : Int) l (l.length : Int) (i : Int) b nm d m) true
  | 0, i, h => by
    have hs := R_size (T_R ht)
    have hb := T_base ht
    have re := ref__ev b nm d m hn hm
    have ou := outer_ev b nm d m hn hm
    have sh := show_ev b nm d m hn hm
    have ty := type_ev b nm d m hn ht
    have ba := bare_ev b nm d m hn hm
    have n0 : ¬ isNull b nm d m = true := fun k => by have := (null_at k).1; omega
    have n1 : ¬ isNone b nm d m = true := fun k => by have := (none_at k).1; omega
    rw [T_R ht, Bool.true_and] at re
    rw [if_pos (T_R ht)] at ou
    rw [if_neg n0, if_neg n1, if_pos ht] at sh
    rw [bareM, if_pos ht] at ba
    have e7 : (b == 7) = false := by simpa using (by omega : ¬ b = 7)
    have e8 : (b == 8) = false := by simpa using (by omega : ¬ b = 8)
    rw [e7, e8, Bool.or_false, Bool.or_false] at re
    have rb : Ev (fun _ => caulkerref07_Bare.f b nm d m) (b, nm, d, blanks (d + 1).toNat) := by
      unfold caulkerref07_Bare.f
      refine Ev.pos (by omega) (Ev.pos (by omega) ?_)
      rw [show (m.size : Int) = d + 1 by omega, five_cuts d hs.1 hs.2.1]
      exact Ev.now_ _
    have last : Ev (fun k => (kind_Bare.f k b nm d m).bind fun bt403 => ((caulkerref07_Bare.f b nm d m).bind fun bt407 => (some (bt403.1 == bt407.1 && (bt403.2.1.toList == bt407.2.1.toList && (bt403.2.2.1 == bt407.2.2.1 && (bt403.2.2.2.toList == bt407.2.2.2.toList))))))) true :=
      Ev.bind ba (Ev.bind rb (Ev.cast (Ev.now_ _) (by simp)))
    refine Ev.step (fun k => by rw [caulkerlaw10_KindTells.l0]) (Ev.neg (by omega) (Ev.bind re ?_))
    refine Ev.ite (fun h0 => Ev.pos ?_ (Ev.bind ou (Ev.pos (by omega) (Ev.pos (by omega) (Ev.pos rfl (Ev.bind sh (Ev.bind ty (Ev.pos rfl last)))))))) (fun h0 => Ev.pos ?_ (Ev.bind ou (Ev.pos (by omega) (Ev.pos (by omega) (Ev.pos rfl (Ev.bind sh (Ev.bind ty (Ev.pos rfl last))))))))
    · rw [decide_eq_true h0]; rfl
    · rw [decide_eq_false h0, Bool.false_or, beq_self_eq_true]
  | n + 1, i, h => by
    have hw : wrap64 ((i : Int) + 1) = ((i + 1 : Nat) : Int) := wrap_succ (n := l.length) (by omega) (by omega)
    refine Ev.step (fun k => by rw [caulkerlaw10_KindTells.l0]) (Ev.pos (by omega) (Ev.pos (by omega) (Ev.pos (by omega) (Ev.pos ?_ ?_))))
    · rw [hat i (by omega), wrap_id (by omega) (by omega)]
      omega
    · rw [hw]
      exact tells_loop f hf l hl hat n (i + 1) (by omega)
theorem tells_any (f : Nat) (hf : f ≤ 1) (h5 : b = 5 → f = 0) (h5' : b ≠ 5 → f = 1) : Ev (fun k => caulkerlaw10_KindTells.j0 k (tailL b (d + 1).toNat 0) (f : Int) b nm d m) true := by
  have hs := R_size (T_R ht)
  have hl : (tailL b (d + 1).toNat 0).length = d.toNat + 1 - f ∧ ∀ j : Nat, j < (tailL b (d + 1).toNat 0).length → rd (tailL b (d + 1).toNat 0) (j : Int) = ((f + j : Nat) : Int) := by
    by_cases hb : b = 5
    · have e := tailL_length b (d + 1).toNat 0 (.inr hb)
      have := h5 hb
      refine ⟨by omega, fun j hj => ?_⟩
      rw [tailL_at b (d + 1).toNat 0 j (.inr hb) (by omega), this]
    · have := h5' hb
      have e : tailL b (d + 1).toNat 0 = tailL b d.toNat 1 := by
        rw [show (d + 1).toNat = d.toNat + 1 by omega, tailL, if_neg (by omega)]
      have e1 := tailL_length b d.toNat 1 (.inl (by omega))
      rw [e]
      refine ⟨by omega, fun j hj => ?_⟩
      rw [tailL_at b d.toNat 1 j (.inl (by omega)) (by omega), this]
  have lp := tells_loop b nm d m hn hm ht f hf (tailL b (d + 1).toNat 0) (by omega) hl.2 _ 0 (Nat.zero_add _)
  rw [show ((0 : Nat) : Int) = 0 from rfl] at lp
  refine Ev.step (fun k => by rw [caulkerlaw10_KindTells.j0]) (Ev.pos ?_ lp)
  have hd0 : f = 1 → b ≠ 5 := fun h hb => by have := h5 hb; omega
  rw [wrap_id (i := d + 1) (by omega) (by omega), wrap_id (by omega) (by omega)]
  omega
end
theorem KindTells : caulkerlaw10_KindTells.Pure := by
  intro b nm d m _
  apply Ev.rounds
  unfold caulkerlaw10_KindTells.f
  refine Ev.bind sorts_any (Ev.pos rfl (Ev.bind (small_ev _ (by simp)) (Ev.ite (fun hs => ?_) (fun _ => Ev.now_ _))))
  have ⟨hn, hm⟩ := small_sizes (b := b) (nm := nm) (d := d) (m := m) hs (by simp)
  have ri := rightL_ev b nm d m hm
  refine Ev.bind (right_ev b nm d m hn hm) (Ev.bind ri (Ev.neg (by simp) (Ev.bind ri ?_)))
  have re := ref__ev b nm d m hn hm
  have ou := outer_ev b nm d m hn hm
  have la := layers_ev b nm d m hn hm
  have sh := show_ev b nm d m hn hm
  have ba := bare_ev b nm d m hn hm
  have nu := number_ev b nm d m hn hm
  have is := is_ev b nm d m hn hm b
  refine Ev.ite (fun hR => Ev.bind (plain_ev b nm d m hm) (Ev.ite (fun ht => ?_) (fun ht => ?_))) (fun hR => ?_)
  · rw [if_pos ht] at la
    refine Ev.bind la (Ev.ite (fun h5 => ?_) (fun h5 => ?_))
    · exact tells_any b nm d m hn hm ht 0 (by omega) (fun _ => rfl) (fun h => absurd h5 h)
    · exact tells_any b nm d m hn hm ht 1 (by omega) (fun h => absurd h h5) (fun _ => rfl)
  · have hs := R_size hR
    rw [if_neg ht] at la
    rw [hR, Bool.true_and] at re
    rw [if_pos hR] at ou
    rw [bareM, if_neg ht] at ba
    have two : (b = 7 ∧ isNull b nm d m = true) ∨ (b = 8 ∧ isNone b nm d m = true) := by
      rcases R_cases hR with k | k | k
      · exact .inl ⟨(null_at k).1, k⟩
      · exact .inr ⟨(none_at k).1, k⟩
      · exact absurd k ht
    have hd : d = 0 := by
      rcases two with ⟨_, k⟩ | ⟨_, k⟩
      · exact (null_at k).2.2.1
      · exact (none_at k).2.2.1
    have l1 : (⟨#[110, 117, 108, 108]⟩ : ByteArray).toList = [110, 117, 108, 108] := by decide +kernel
    have l2 : (⟨#[110, 111, 110, 101]⟩ : ByteArray).toList = [110, 111, 110, 101] := by decide +kernel
    rcases two with ⟨hb, k⟩ | ⟨hb, k⟩
    · rw [if_pos k] at sh
      refine Ev.bind re (Ev.pos (by simp [hb]) (Ev.bind ou (Ev.pos (by omega) (Ev.pos (by rw [hd]) (Ev.bind la (Ev.pos rfl (Ev.bind sh (Ev.pos ?_ (Ev.pos l1 (Ev.bind ba (Ev.cast (Ev.now_ _) (by simp))))))))))))
      rw [hb]; decide +kernel
    · have k0 : ¬ isNull b nm d m = true := fun h => by have := (null_at h).1; omega
      rw [if_neg k0, if_pos k] at sh
      refine Ev.bind re (Ev.pos (by simp [hb]) (Ev.bind ou (Ev.pos (by omega) (Ev.pos (by rw [hd]) (Ev.bind la (Ev.pos rfl (Ev.bind sh (Ev.neg ?_ (Ev.pos ?_ (Ev.pos l2 (Ev.bind ba (Ev.cast (Ev.now_ _) (by simp)))))))))))))
      · rw [hb]; decide +kernel
      · rw [hb]; decide +kernel
  · have hT : ¬ T b nm d m = true := fun h => hR (T_R h)
    have k0 : ¬ isNull b nm d m = true := fun h => hR (by simp [R, h])
    have k1 : ¬ isNone b nm d m = true := fun h => hR (by simp [R, h])
    rw [if_neg hT] at la
    rw [Bool.eq_false_iff.mpr hR, Bool.false_and] at re nu is
    rw [if_neg hR] at ou
    rw [if_neg k0, if_neg k1, if_neg hT] at sh
    rw [bareM, if_neg hT] at ba
    exact Ev.bind re (Ev.neg (by simp) (Ev.bind ou (Ev.pos rfl (Ev.bind la (Ev.pos rfl (Ev.bind sh (Ev.pos toList_empty (Ev.bind ba (Ev.pos (by simp) (Ev.bind nu (Ev.neg (by simp) (Ev.bind is (Ev.now_ _)))))))))))))
end Go.Proofs.Ytljchkghnmnpgaa.Pure
