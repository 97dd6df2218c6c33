/- What Far answers, and the head that each law asks; any texts that aren't too long. -/
import Derived.Test.YtoljmjhmieaggaaX11
import Derived.Test.YtoljmjhmieaggaaX15
import Derived.Test.YtoljmjhmieaggaaPureDiffBytes
namespace Go.Proofs.Ytoljmjhmieaggaa.Pure
open Go.RowKit Go.Proofs.Ytoljmjhmieaggaa.X Go.Proofs.YtoljmjhmieaggaaW.PrintWords Go.Proofs.YtoljmjhmieaggaaW.PrintLast Go.Diff Go.Proofs.Ytoljmjhmieaggaa.Ed
theorem Made.check {a b : ByteArray} {l : List E} {ok : Bool} {D : Nat} (h : Made a b l ok D) (ha : a.size ≤ 65536) (hb : b.size ≤ 65536) : chkV (a.size : Int) (l.map ofE) = 0 :=
  chkV_of_val ha (by have := h.len; omega) h.val (fun x hx => by have := h.small x hx; omega)
theorem Made.cost_ev {a b : ByteArray} {l : List E} {ok : Bool} {D : Nat} (h : Made a b l ok D) (ha : a.size ≤ 65536) (hb : b.size ≤ 65536) : Ev (fun k => edit_Cost.f k (l.map ofE)) ((puts l + takes l : Nat) : Int) := by
  have := cost_any (pass_of (h.check ha hb))
  rwa [map_toE_ofE] at this
theorem Made.apply {a b : ByteArray} {l : List E} {ok : Bool} {D : Nat} (h : Made a b l ok D) (ha : a.size ≤ 65536) (hb : b.size ≤ 65536) : applyV a (l.map ofE) = (b, 0) := by
  have hc := h.check ha hb
  have hP := pass_of hc
  have hg := growI_eq hP.ok
  have hv := h.val
  have la : a.data.toList.length = a.size := Array.length_toList
  have lb : b.data.toList.length = b.size := Array.length_toList
  rw [← la] at hv
  have hL := app_length hv
  rw [h.app, la, lb] at hL
  unfold applyV
  rw [if_neg (by omega), if_pos hc, hg, map_toE_ofE, if_neg (by omega), h.app]
theorem far_ev (a b : ByteArray) (ha : a.size ≤ 16384) (hb : b.size ≤ 16384) {D : Nat} (hD : Dist (same a b) a.size b.size D) : Ev (fun k => diff_Far.f k a b) (if D ≤ 512 then ((D : Int), true) else (0, false)) := by
  obtain ⟨l, ok, D', h1, h2⟩ := bytes_ev a b ha hb
  obtain rfl := h2.dist.uniq hD
  unfold diff_Far.f
  refine Ev.bind h1 (Ev.pos rfl ?_)
  have hf := h2.far
  by_cases h : D' ≤ 512
  · rw [if_pos h]
    rw [decide_eq_true h] at hf
    subst hf
    refine Ev.pos rfl (Ev.bind (h2.cost_ev (by omega) (by omega)) (Ev.cast (Ev.now_ _) ?_))
    rw [h2.cost rfl]
  · rw [if_neg h]
    rw [decide_eq_false h] at hf
    subst hf
    exact Ev.neg (by simp) (Ev.now_ _)
theorem dist_flip {a b : ByteArray} {D : Nat} (h : Dist (same a b) a.size b.size D) : Dist (same b a) b.size a.size D := h.flip.congr fun i j _ _ => ⟨fun e => e.symm, fun e => e.symm⟩
theorem dist_then {a b c : ByteArray} {D1 D2 D3 : Nat} (h1 : Dist (same a b) a.size b.size D1) (h2 : Dist (same b c) b.size c.size D2) (h3 : Dist (same a c) a.size c.size D3) : D3 ≤ D1 + D2 := Dist.then (fun _ _ _ e1 e2 => e1.trans e2) h1 h2 h3
theorem dist_zero {a b : ByteArray} {D : Nat} (h : Dist (same a b) a.size b.size D) : D = 0 ↔ a = b := by
  constructor
  · intro h0
    obtain ⟨h1, h2⟩ := h.1.zero h0
    refine ByteArray.ext (Array.ext h1 fun i q1 q2 => ?_)
    have h3 : bt a (i : Int) = bt b (i : Int) := h2 i q1
    rw [bt_some a i q1, bt_some b i q2] at h3
    exact UInt8.toNat_inj.1 (by exact_mod_cast h3)
  · intro e
    subst e
    have h0 : Diff.Reach (same a a) a.size a.size 0 a.size a.size := by
      have := Reach.alongs (Reach.start (E := same a a) (N := a.size) (M := a.size)) a.size fun t ht => ⟨by omega, by omega, by show bt a _ = bt a _; rfl⟩
      simpa using this
    have := h.2 0 h0
    omega
theorem toList_iff {a b : ByteArray} : a.toList = b.toList ↔ a = b := by
  constructor
  · intro h
    rw [Lib.toList_data, Lib.toList_data] at h
    exact ba_ext h
  · intro h
    rw [h]
set_option maxRecDepth 100000 in
theorem finds_any : Ev (fun k => caulkerlaw04_finds.f k) true := Ev.of (fun k => caulkerlaw04_finds.mono k) (k := 40) (by decide +kernel)
end Go.Proofs.Ytoljmjhmieaggaa.Pure
