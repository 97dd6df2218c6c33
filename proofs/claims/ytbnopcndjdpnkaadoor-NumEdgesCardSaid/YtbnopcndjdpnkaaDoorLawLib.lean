/- What the laid variables tell: the library's tables as num.Float and num.Int read them (GV). -/
import Derived.Test.YtbnopcndjdpnkaaDoorRows
import Derived.Test.YtbnopcndjdpnkaaDoorLexW
import Derived.ProofKit
import Derived.LaidMore
import Derived.Lib.LaidTab
import Derived.Lib.LaidU8
import Derived.Stop.LaidErr
import Derived.Lay
namespace Go.Proofs.YtbnopcndjdpnkaaDoor.LawLib
open Go Go.RowKit Go.Lib Go.Proofs.YtbnopcndjdpnkaaDoorW.PrintWords
set_option linter.unusedVariables false
set_option linter.unusedSimpArgs false
def laidL : List (String × DataW Unit) := [("math/bits.deBruijn32tab", Rows.laid_math_bits_deBruijn32tab), ("math/bits.deBruijn64tab", Rows.laid_math_bits_deBruijn64tab), ("internal/strconv.float32info", Rows.laid_internal_strconv_float32info), ("internal/strconv.float64info", Rows.laid_internal_strconv_float64info), ("internal/strconv.optimize", Rows.laid_internal_strconv_optimize), ("internal/strconv.powtab", Rows.laid_internal_strconv_powtab), ("internal/strconv.float64pow10", Rows.laid_internal_strconv_float64pow10), ("internal/strconv.float32pow10", Rows.laid_internal_strconv_float32pow10), ("internal/strconv.uint64pow10", Rows.laid_internal_strconv_uint64pow10), ("strconv.ErrRange", Rows.laid_strconv_ErrRange), ("strconv.ErrSyntax", Rows.laid_strconv_ErrSyntax), ("internal/strconv.leftcheats", Rows.laid_internal_strconv_leftcheats), ("internal/strconv.pow10Tab", Rows.laid_internal_strconv_pow10Tab)]
section
variable {P : Program} {w : World}
theorem trod_float {fuel : Nat} {t : TypeId} {k : FloatKind} {cs : List Value} {x : DataW Unit × List MemPlace} (ht : P.underlying t = some (.float k)) (h : DataW.trod (fun _ => ()) P w 0 (fun _ => true) false fuel t cs = some x) : ∃ n, cs = [.float k n] ∧ x = (.lit (.float k n), []) := by
  cases fuel with
  | zero => simp [DataW.trod] at h
  | succ n =>
    unfold DataW.trod at h
    rw [ht] at h
    split at h <;> simp_all
theorem trod_iface {fuel : Nat} {t : TypeId} {ms : Array (String × TypeId)} {nm : String} {d : DataW Unit} {p : List MemPlace} {cs : List Value} (ht : P.underlying t = some (.interface ms)) (h : DataW.trod (fun _ => ()) P w 0 (fun _ => true) false fuel t cs = some (.iface nm d, p)) : ∃ u v, cs = [.iface u v] := by
  cases fuel with
  | zero => simp [DataW.trod] at h
  | succ n =>
    unfold DataW.trod at h
    rw [ht] at h
    split at h <;> simp_all
theorem cell_of {n : String} {g : Nat} {cs : Array Value} {v : Value} (hg : P.globalNamed n = some g) (h : w.var? P n = some cs) (e : cs.toList = [v]) : w.cell? ⟨g, 0, none⟩ = some v := by
  rw [World.var?_cell hg h 0]
  obtain ⟨l⟩ := cs
  subst e
  rfl
theorem slice_of {n : String} {g : Nat} {t e : TypeId} {k : FloatKind} {l : List Nat} (hg : P.globalNamed n = some g) (hty : (P.globals[g]?).map (·.type) = some t) (ht : P.underlying t = some (.slice e)) (he : P.underlying e = some (.float k)) (hc : P.cellsOf e = 1)
    (h : VarReads P w n (.slice (l.map fun b => .lit (.float k b)) [])) :
    ∃ A c, w.cell? ⟨g, 0, none⟩ = some (.slice (some A) l.length c) ∧ ∀ i, i < l.length → w.cell? (A.add i) = some (.float k (l.getD i 0)) := by
  obtain ⟨g', t', cs, fuel, p, hg', ht', hvar, hd⟩ := h
  obtain rfl := Option.some.inj (hg.symm.trans hg')
  obtain rfl := Option.some.inj (hty.symm.trans ht')
  rcases DataW.trod_slice ht hd with ⟨hcs, hx'⟩ | ⟨a', len, cap, el, rs, m, rfl, hc0, hx', _, hlc, _, hel, helem, hsp, _⟩
  · cases hx'
  · simp only [Prod.mk.injEq, DataW.slice.injEq] at hx'
    obtain ⟨⟨eE, _⟩, _⟩ := hx'
    have hlen : len = l.length := by
      have := congrArg List.length eE
      simp at this
      omega
    subst hlen
    refine ⟨a', cap, cell_of hg hvar hc0, fun i hi => ?_⟩
    have h1 := helem i hi
    rw [hc, Nat.mul_one] at h1
    obtain ⟨b, hb⟩ : ∃ b, el[i]? = some b := ⟨el[i]'(by omega), List.getElem?_eq_getElem (by omega)⟩
    rw [hb] at h1
    obtain ⟨ce, hce, hte⟩ := Option.bind_eq_some_iff.1 h1
    obtain ⟨z, rfl, rfl⟩ := trod_float he hte
    obtain ⟨_, _, hcc⟩ := World.cells?_some hce
    have h2 : w.cell? (a'.add i) = some (.float k z) := by simpa [Addr.add] using hcc 0 (by omega)
    have h3 : (el.map (·.1))[i]? = some (DataW.lit (.float k z) : DataW Unit) := by simp [hb]
    rw [← eE] at h3
    simp only [List.getElem?_map, Option.map_eq_some_iff, DataW.lit.injEq, Lit.float.injEq, true_and] at h3
    obtain ⟨z', hz', rfl⟩ := h3
    rw [h2]
    simp [hz']
theorem struct_of {n : String} {g : Nat} {t : TypeId} {fs : Array Field} {f : Field} {k : IntKind} {z : Int} {r : List (DataW Unit)} (hg : P.globalNamed n = some g) (hty : (P.globals[g]?).map (·.type) = some t) (ht : P.underlying t = some (.struct fs)) (hf : fs[0]? = some f) (ho : f.offset = 0) (hu : P.underlying f.type = some (.int k)) (hc : P.cellsOf f.type = 1)
    (h : VarReads P w n (.agg (.lit (.int k z) :: r))) : w.cell? ⟨g, 0, none⟩ = some (.int k z) := by
  obtain ⟨g', t', cs, fuel, p, hg', ht', hvar, hd⟩ := h
  obtain rfl := Option.some.inj (hg.symm.trans hg')
  obtain rfl := Option.some.inj (hty.symm.trans ht')
  obtain ⟨xs, m, rfl, hx, hl, hxl, hall⟩ := DataW.trod_struct ht hd
  have hxs : xs.map (·.1) = .lit (.int k z) :: r := by
    have := congrArg Prod.fst hx
    simpa using this.symm
  have h1 := hall 0 f hf
  rw [ho, hc] at h1
  cases xs with
  | nil => simp at hxs
  | cons b xs =>
    simp only [List.getElem?_cons_zero, List.drop_zero] at h1
    obtain ⟨z', hcz, rfl, _⟩ := DataW.trod_int hu h1
    simp only [List.map_cons, List.cons.injEq, DataW.lit.injEq, Lit.int.injEq, true_and] at hxs
    obtain ⟨rfl, _⟩ := hxs
    rw [World.var?_cell hg hvar 0]
    obtain ⟨l⟩ := cs
    have := congrArg (·[0]?) hcz
    simpa [List.getElem?_take] using this
theorem bool_of {n : String} {g : Nat} {t : TypeId} {b : Bool} (hg : P.globalNamed n = some g) (hty : (P.globals[g]?).map (·.type) = some t) (ht : P.underlying t = some .bool) (h : VarReads P w n (.lit (.bool b))) : w.cell? ⟨g, 0, none⟩ = some (.bool b) := by
  obtain ⟨g', t', cs, fuel, p, hg', ht', hvar, hd⟩ := h
  obtain rfl := Option.some.inj (hg.symm.trans hg')
  obtain rfl := Option.some.inj (hty.symm.trans ht')
  obtain ⟨b', hcs, e⟩ := DataW.trod_bool ht hd
  cases e
  exact cell_of hg hvar hcs
theorem iface_of {n : String} {g : Nat} {t : TypeId} {ms : Array (String × TypeId)} {nm : String} {d : DataW Unit} (hg : P.globalNamed n = some g) (hty : (P.globals[g]?).map (·.type) = some t) (ht : P.underlying t = some (.interface ms)) (h : VarReads P w n (.iface nm d)) : ∃ te pe, w.cell? ⟨g, 0, none⟩ = some (.iface te pe) := by
  obtain ⟨g', t', cs, fuel, p, hg', ht', hvar, hd⟩ := h
  obtain rfl := Option.some.inj (hg.symm.trans hg')
  obtain rfl := Option.some.inj (hty.symm.trans ht')
  obtain ⟨u, v, e⟩ := trod_iface ht hd
  exact ⟨u, v, cell_of hg hvar e⟩
end
theorem tt_of_laid {W : World} (h : laidMetH Tryd.prog laidL W) : LexW.GV W := by
  rw [MakeChecks.laidMetH_plain _ _ _ (by kernel_rfl)] at h
  have r1 : VarReads Tryd.prog W "internal/strconv.float64info" Rows.laid_internal_strconv_float64info := laidMet.reads h (.tail _ (.tail _ (.tail _ (.head _))))
  have r2 : VarReads Tryd.prog W "internal/strconv.optimize" Rows.laid_internal_strconv_optimize := laidMet.reads h (.tail _ (.tail _ (.tail _ (.tail _ (.head _)))))
  have r3 : VarReads Tryd.prog W "internal/strconv.float64pow10" (.slice (NuW.powL.map fun b => .lit (.float .f64 b)) []) := laidMet.reads h (.tail _ (.tail _ (.tail _ (.tail _ (.tail _ (.tail _ (.head _)))))))
  have r4 : VarReads Tryd.prog W "strconv.ErrRange" Rows.laid_strconv_ErrRange := laidMet.reads h (.tail _ (.tail _ (.tail _ (.tail _ (.tail _ (.tail _ (.tail _ (.tail _ (.tail _ (.head _))))))))))
  exact ⟨struct_of (g := 5) (by kernel_rfl) (by kernel_rfl) Tryd.underlying97 rfl rfl (by kernel_rfl) (by kernel_rfl) r1, bool_of (g := 4) (by kernel_rfl) (by kernel_rfl) Tryd.underlying4 r2,
    slice_of (g := 8) (by kernel_rfl) (by kernel_rfl) Tryd.underlying134 Tryd.underlying53 (by kernel_rfl) r3, iface_of (g := 2) (by kernel_rfl) (by kernel_rfl) Tryd.underlying57 r4⟩
end Go.Proofs.YtbnopcndjdpnkaaDoor.LawLib
