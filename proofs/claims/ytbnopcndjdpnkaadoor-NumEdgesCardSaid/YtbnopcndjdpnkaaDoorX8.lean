/- What the program's functions answer, as Lean functions, and that each call does just that; no condition. Written by a program (px.py) out of the translation. -/
import Derived.Test.YtbnopcndjdpnkaaDoorX0
import Derived.Test.YtbnopcndjdpnkaaDoorX27
import Derived.Test.YtbnopcndjdpnkaaDoorX10
import Derived.Test.YtbnopcndjdpnkaaDoorX29
import Derived.Test.YtbnopcndjdpnkaaDoorX20
import Derived.Test.YtbnopcndjdpnkaaDoorX28
import Derived.Test.YtbnopcndjdpnkaaDoorX30
import Derived.Test.YtbnopcndjdpnkaaDoorX31
import Derived.Test.YtbnopcndjdpnkaaDoorLexW
namespace Go.Proofs.YtbnopcndjdpnkaaDoor.X
open Go.RowKit Go.Proofs.YtbnopcndjdpnkaaDoorW.PrintWords Go.Proofs.YtbnopcndjdpnkaaDoorW.PrintLast Go.Proofs.YtbnopcndjdpnkaaDoorW.PrintMore
attribute [local go_sem] max2_int min2_int max_two min_two max_three min_three max_four min_four   -- for this text's walks alone
set_option linter.unusedVariables false
set_option linter.unusedSimpArgs false

/-! ### caulkerlaw05_NumEdges: function 8 -/
mutual
def caulkerlaw05_NumEdges.j0 : Nat → Int → Int → Int → Bool → Option (Bool)
 | 0, _, _, _, _ => none
 | k + 1, x0, x1, x10, x48 => if x48 = true then (none) else ((num_FloatOp.f (⟨#[45]⟩ : ByteArray) x0 x1).bind fun bt167 => (if bt167.2 = 0 then ((caulkerref05_None.f bt167.1).bind fun t169 => (if t169 = true then (caulkerlaw05_NumEdges.j1 k x0 x1 x10 bt167.1 (bt167.1 != 9221120237041090561)) else (caulkerlaw05_NumEdges.j1 k x0 x1 x10 bt167.1 false))) else (caulkerlaw05_NumEdges.j1 k x0 x1 x10 bt167.1 true)))
def caulkerlaw05_NumEdges.j1 : Nat → Int → Int → Int → Int → Bool → Option (Bool)
 | 0, _, _, _, _, _ => none
 | k + 1, x0, x1, x10, x11, x48 => if x48 = true then (none) else ((num_FloatOp.f (⟨#[42]⟩ : ByteArray) x0 x1).bind fun bt170 => (if bt170.2 = 0 then ((caulkerref05_None.f bt170.1).bind fun t172 => (if t172 = true then (caulkerlaw05_NumEdges.j2 k x0 x1 x10 x11 bt170.1 (bt170.1 != 9221120237041090561)) else (caulkerlaw05_NumEdges.j2 k x0 x1 x10 x11 bt170.1 false))) else (caulkerlaw05_NumEdges.j2 k x0 x1 x10 x11 bt170.1 true)))
def caulkerlaw05_NumEdges.j2 : Nat → Int → Int → Int → Int → Int → Bool → Option (Bool)
 | 0, _, _, _, _, _, _ => none
 | k + 1, x0, x1, x10, x11, x12, x48 => if x48 = true then (none) else ((num_FloatOp.f (⟨#[47]⟩ : ByteArray) x0 x1).bind fun bt173 => (if bt173.2 = 0 then ((caulkerref05_None.f bt173.1).bind fun t175 => (if t175 = true then (caulkerlaw05_NumEdges.j3 k x0 x1 x10 x11 x12 bt173.1 (bt173.1 != 9221120237041090561)) else (caulkerlaw05_NumEdges.j3 k x0 x1 x10 x11 x12 bt173.1 false))) else (caulkerlaw05_NumEdges.j3 k x0 x1 x10 x11 x12 bt173.1 true)))
def caulkerlaw05_NumEdges.j3 : Nat → Int → Int → Int → Int → Int → Int → Bool → Option (Bool)
 | 0, _, _, _, _, _, _, _ => none
 | k + 1, x0, x1, x10, x11, x12, x13, x48 => if x48 = true then (none) else ((caulkerref05_None.f x0).bind fun t176 => (if t176 = true then (caulkerlaw05_NumEdges.j4 k x0 x1 x10 x11 x12 x13 true) else ((caulkerref05_None.f x1).bind fun t177 => (caulkerlaw05_NumEdges.j4 k x0 x1 x10 x11 x12 x13 t177))))
def caulkerlaw05_NumEdges.j4 : Nat → Int → Int → Int → Int → Int → Int → Bool → Option (Bool)
 | 0, _, _, _, _, _, _, _ => none
 | k + 1, x0, x1, x10, x11, x12, x13, x66 => if x66 = true then (if x10 = 9221120237041090561 then (if x11 = 9221120237041090561 then (if x12 = 9221120237041090561 then (if x13 = 9221120237041090561 then ((num_FloatNeg.f 9221120237041090561).bind fun t178 => (some (t178 == 9221120237041090561))) else (none)) else (none)) else (none)) else (none)) else ((caulkerref05_Parts.f x0).bind fun bt179 => ((caulkerref05_Parts.f x1).bind fun bt182 => (if (bt179.1 != bt182.1) = true then (caulkerlaw05_NumEdges.j5 k x0 x1 x10 x11 x12 x13 bt179.1 bt182.1 9223372036854775808) else (caulkerlaw05_NumEdges.j5 k x0 x1 x10 x11 x12 x13 bt179.1 bt182.1 0))))
def caulkerlaw05_NumEdges.j5 : Nat → Int → Int → Int → Int → Int → Int → Bool → Bool → Int → Option (Bool)
 | 0, _, _, _, _, _, _, _, _, _ => none
 | k + 1, x0, x1, x10, x11, x12, x13, x14, x17, x20 => (caulkerref05_Inf.f x0).bind fun t185 => ((caulkerref05_Inf.f x1).bind fun t186 => ((caulkerref05_Zero.f x0).bind fun t187 => ((caulkerref05_Zero.f x1).bind fun t188 => (if t185 = true then (if t186 = true then (if ((x10 == 9221120237041090561) != (x14 != x17)) = true then (caulkerlaw05_NumEdges.j6 k x0 x1 x10 x11 x12 x13 x20 t185 t186 t187 t188 true) else (caulkerlaw05_NumEdges.j6 k x0 x1 x10 x11 x12 x13 x20 t185 t186 t187 t188 ((x11 == 9221120237041090561) != (x14 == x17)))) else (caulkerlaw05_NumEdges.j6 k x0 x1 x10 x11 x12 x13 x20 t185 t186 t187 t188 false)) else (caulkerlaw05_NumEdges.j6 k x0 x1 x10 x11 x12 x13 x20 t185 t186 t187 t188 false)))))
def caulkerlaw05_NumEdges.j6 : Nat → Int → Int → Int → Int → Int → Int → Int → Bool → Bool → Bool → Bool → Bool → Option (Bool)
 | 0, _, _, _, _, _, _, _, _, _, _, _, _ => none
 | k + 1, x0, x1, x10, x11, x12, x13, x20, x21, x22, x23, x24, x133 => if x133 = true then (none) else (if x21 = true then (if x22 = true then (caulkerlaw05_NumEdges.j7 k x0 x1 x10 x11 x12 x13 x20 x21 x22 x23 x24 false) else (if x10 = x0 then (if x11 = x0 then (caulkerlaw05_NumEdges.j7 k x0 x1 x10 x11 x12 x13 x20 x21 x22 x23 x24 false) else (caulkerlaw05_NumEdges.j7 k x0 x1 x10 x11 x12 x13 x20 x21 x22 x23 x24 true)) else (caulkerlaw05_NumEdges.j7 k x0 x1 x10 x11 x12 x13 x20 x21 x22 x23 x24 true))) else (if x22 = true then (if x10 = x1 then ((num_FloatNeg.f x1).bind fun t189 => (caulkerlaw05_NumEdges.j7 k x0 x1 x10 x11 x12 x13 x20 x21 x22 x23 x24 (x11 != t189))) else (caulkerlaw05_NumEdges.j7 k x0 x1 x10 x11 x12 x13 x20 x21 x22 x23 x24 true)) else (caulkerlaw05_NumEdges.j7 k x0 x1 x10 x11 x12 x13 x20 x21 x22 x23 x24 false)))
def caulkerlaw05_NumEdges.j7 : Nat → Int → Int → Int → Int → Int → Int → Int → Bool → Bool → Bool → Bool → Bool → Option (Bool)
 | 0, _, _, _, _, _, _, _, _, _, _, _, _ => none
 | k + 1, x0, x1, x10, x11, x12, x13, x20, x21, x22, x23, x24, x166 => if x166 = true then (none) else (if x0 = x1 then (if x21 = true then (if x23 = true then (if x24 = true then (caulkerlaw05_NumEdges.j8 k x0 x12 x13 x20 x21 x22 x23 x24 (x10 != (Go.bits .and .u64 x0 x1))) else (caulkerlaw05_NumEdges.j8 k x0 x12 x13 x20 x21 x22 x23 x24 false)) else (caulkerlaw05_NumEdges.j8 k x0 x12 x13 x20 x21 x22 x23 x24 false)) else (if x11 = 0 then (if x23 = true then (if x24 = true then (caulkerlaw05_NumEdges.j8 k x0 x12 x13 x20 x21 x22 x23 x24 (x10 != (Go.bits .and .u64 x0 x1))) else (caulkerlaw05_NumEdges.j8 k x0 x12 x13 x20 x21 x22 x23 x24 false)) else (caulkerlaw05_NumEdges.j8 k x0 x12 x13 x20 x21 x22 x23 x24 false)) else (caulkerlaw05_NumEdges.j8 k x0 x12 x13 x20 x21 x22 x23 x24 true))) else (if x23 = true then (if x24 = true then (caulkerlaw05_NumEdges.j8 k x0 x12 x13 x20 x21 x22 x23 x24 (x10 != (Go.bits .and .u64 x0 x1))) else (caulkerlaw05_NumEdges.j8 k x0 x12 x13 x20 x21 x22 x23 x24 false)) else (caulkerlaw05_NumEdges.j8 k x0 x12 x13 x20 x21 x22 x23 x24 false)))
def caulkerlaw05_NumEdges.j8 : Nat → Int → Int → Int → Int → Bool → Bool → Bool → Bool → Bool → Option (Bool)
 | 0, _, _, _, _, _, _, _, _, _ => none
 | k + 1, x0, x12, x13, x20, x21, x22, x23, x24, x190 => if x190 = true then (none) else (if x21 = true then (if x24 = true then (caulkerlaw05_NumEdges.j9 k x0 x12 x13 x20 x21 x22 x23 x24 true) else (if x23 = true then (caulkerlaw05_NumEdges.j9 k x0 x12 x13 x20 x21 x22 x23 x24 x22) else (caulkerlaw05_NumEdges.j9 k x0 x12 x13 x20 x21 x22 x23 x24 false))) else (if x23 = true then (caulkerlaw05_NumEdges.j9 k x0 x12 x13 x20 x21 x22 x23 x24 x22) else (caulkerlaw05_NumEdges.j9 k x0 x12 x13 x20 x21 x22 x23 x24 false)))
def caulkerlaw05_NumEdges.j12 : Nat → Int → Int → Int → Bool → Bool → Bool → Bool → Option (Bool)
 | 0, _, _, _, _, _, _, _ => none
 | k + 1, x0, x13, x20, x21, x22, x23, x24 => if x21 = true then (if x22 = true then (caulkerlaw05_NumEdges.j13 k x0 x13 x20 x21 x22 x23 x24 true) else (if x23 = true then (caulkerlaw05_NumEdges.j13 k x0 x13 x20 x21 x22 x23 x24 x24) else (caulkerlaw05_NumEdges.j13 k x0 x13 x20 x21 x22 x23 x24 false))) else (if x23 = true then (caulkerlaw05_NumEdges.j13 k x0 x13 x20 x21 x22 x23 x24 x24) else (caulkerlaw05_NumEdges.j13 k x0 x13 x20 x21 x22 x23 x24 false))
def caulkerlaw05_NumEdges.j13 : Nat → Int → Int → Int → Bool → Bool → Bool → Bool → Bool → Option (Bool)
 | 0, _, _, _, _, _, _, _, _ => none
 | k + 1, x0, x13, x20, x21, x22, x23, x24, x221 => if x221 = true then (some (x13 == 9221120237041090561)) else (if x21 = true then (caulkerlaw05_NumEdges.j14 k x0 x13 x20 x22 x23 true) else (caulkerlaw05_NumEdges.j14 k x0 x13 x20 x22 x23 x24))
def caulkerlaw05_NumEdges.j14 : Nat → Int → Int → Int → Bool → Bool → Bool → Option (Bool)
 | 0, _, _, _, _, _, _ => none
 | k + 1, x0, x13, x20, x22, x23, x234 => if x234 = true then (some (x13 == (IntKind.u64.wrap (x20 + 9218868437227405312)))) else (if x22 = true then (caulkerlaw05_NumEdges.j15 k x0 x13 x20 true) else (caulkerlaw05_NumEdges.j15 k x0 x13 x20 x23))
def caulkerlaw05_NumEdges.j15 : Nat → Int → Int → Int → Bool → Option (Bool)
 | 0, _, _, _, _ => none
 | k + 1, x0, x13, x20, x243 => if x243 = true then (some (x13 == x20)) else ((num_FloatNeg.f x0).bind fun t190 => ((num_FloatNeg.f t190).bind fun t191 => (some (t191 == x0))))
def caulkerlaw05_NumEdges.j9 : Nat → Int → Int → Int → Int → Bool → Bool → Bool → Bool → Bool → Option (Bool)
 | 0, _, _, _, _, _, _, _, _, _ => none
 | k + 1, x0, x12, x13, x20, x21, x22, x23, x24, x191 => if x191 = true then (if x12 = 9221120237041090561 then (caulkerlaw05_NumEdges.j12 k x0 x13 x20 x21 x22 x23 x24) else (none)) else (if x21 = true then (caulkerlaw05_NumEdges.j10 k x0 x12 x13 x20 x21 x22 x23 x24 true) else (caulkerlaw05_NumEdges.j10 k x0 x12 x13 x20 x21 x22 x23 x24 x22))
def caulkerlaw05_NumEdges.j10 : Nat → Int → Int → Int → Int → Bool → Bool → Bool → Bool → Bool → Option (Bool)
 | 0, _, _, _, _, _, _, _, _, _ => none
 | k + 1, x0, x12, x13, x20, x21, x22, x23, x24, x204 => if x204 = true then (if x12 = (IntKind.u64.wrap (x20 + 9218868437227405312)) then (caulkerlaw05_NumEdges.j12 k x0 x13 x20 x21 x22 x23 x24) else (none)) else (if x23 = true then (caulkerlaw05_NumEdges.j11 k x0 x12 x13 x20 x21 x22 x23 x24 true) else (caulkerlaw05_NumEdges.j11 k x0 x12 x13 x20 x21 x22 x23 x24 x24))
def caulkerlaw05_NumEdges.j11 : Nat → Int → Int → Int → Int → Bool → Bool → Bool → Bool → Bool → Option (Bool)
 | 0, _, _, _, _, _, _, _, _, _ => none
 | k + 1, x0, x12, x13, x20, x21, x22, x23, x24, x213 => if x213 = true then (if x12 = x20 then (caulkerlaw05_NumEdges.j12 k x0 x13 x20 x21 x22 x23 x24) else (none)) else (caulkerlaw05_NumEdges.j12 k x0 x13 x20 x21 x22 x23 x24)
end
def caulkerlaw05_NumEdges.f (k : Nat) (a0 : Int) (a1 : Int) : Option (Bool) := (caulkerlaw05_reckons.f k).bind fun t163 => (if t163 = true then ((num_FloatOp.f (⟨#[43]⟩ : ByteArray) a0 a1).bind fun bt164 => (if bt164.2 = 0 then ((caulkerref05_None.f bt164.1).bind fun t166 => (if t166 = true then (caulkerlaw05_NumEdges.j0 k a0 a1 bt164.1 (bt164.1 != 9221120237041090561)) else (caulkerlaw05_NumEdges.j0 k a0 a1 bt164.1 false))) else (caulkerlaw05_NumEdges.j0 k a0 a1 bt164.1 true))) else (none))
/-- An answer that is no number is the one that stands for it. -/
def Edge (x : Int) : Prop := ∃ b, caulkerref05_None.f x = some b ∧ (b = true → x = 9221120237041090561)
set_option maxHeartbeats 8000000 in
set_option maxRecDepth 100000 in
theorem caulkerlaw05_NumEdges.calls (k q : Nat) (a0 a1 x1 x2 x3 x4 : Int) (r : Bool) (w : World) (hq : caulkerlaw05_reckons.f q = some true)
  (o1 : num_FloatOp.f (⟨#[43]⟩ : ByteArray) a0 a1 = some (x1, 0)) (n1 : Edge x1) (o2 : num_FloatOp.f (⟨#[45]⟩ : ByteArray) a0 a1 = some (x2, 0)) (n2 : Edge x2) (o3 : num_FloatOp.f (⟨#[42]⟩ : ByteArray) a0 a1 = some (x3, 0)) (n3 : Edge x3) (o4 : num_FloatOp.f (⟨#[47]⟩ : ByteArray) a0 a1 = some (x4, 0)) (n4 : Edge x4)
  (h : caulkerlaw05_NumEdges.j3 (k + 1) a0 a1 x1 x2 x3 x4 false = some r) (hgv : LexW.GV w) :
  Calls Tryd.prog 8 #[.int .u64 a0, .int .u64 a1] w fun e w' => e = .returned (.bool r) ∧ Below w.heap.size w w' := by
 have HGV := Aside0.mk hgv
 have HB := Aside0.mk (Below.refl w.heap.size w)
 have HQ := Aside0.mk hq
 have HO1 := Aside0.mk o1
 have HO2 := Aside0.mk o2
 have HO3 := Aside0.mk o3
 have HO4 := Aside0.mk o4
 have HN1 := Aside0.mk n1
 have HN2 := Aside0.mk n2
 have HN3 := Aside0.mk n3
 have HN4 := Aside0.mk n4
 have HA := Aside0.mk h
 clear hgv hq h o1 n1 o2 n2 o3 n3 o4 n4
 have ix0 : ∀ w_ : World, (Instr.index 48 (.agg #[.string ⟨#[43]⟩, .string ⟨#[45]⟩, .string ⟨#[42]⟩, .string ⟨#[47]⟩]) (.int .i64 0)).run Tryd.prog w_ = .ok (.string ⟨#[43]⟩) w_ := by
  intro w_
  have hu : Tryd.prog.underlying 48 = some (.array 4 9) := by kernel_rfl
  simp [Instr.index, run_underlying hu, asIntOf, go_sem, part]
 have ix1 : ∀ w_ : World, (Instr.index 48 (.agg #[.string ⟨#[43]⟩, .string ⟨#[45]⟩, .string ⟨#[42]⟩, .string ⟨#[47]⟩]) (.int .i64 1)).run Tryd.prog w_ = .ok (.string ⟨#[45]⟩) w_ := by
  intro w_
  have hu : Tryd.prog.underlying 48 = some (.array 4 9) := by kernel_rfl
  simp [Instr.index, run_underlying hu, asIntOf, go_sem, part]
 have ix2 : ∀ w_ : World, (Instr.index 48 (.agg #[.string ⟨#[43]⟩, .string ⟨#[45]⟩, .string ⟨#[42]⟩, .string ⟨#[47]⟩]) (.int .i64 2)).run Tryd.prog w_ = .ok (.string ⟨#[42]⟩) w_ := by
  intro w_
  have hu : Tryd.prog.underlying 48 = some (.array 4 9) := by kernel_rfl
  simp [Instr.index, run_underlying hu, asIntOf, go_sem, part]
 have ix3 : ∀ w_ : World, (Instr.index 48 (.agg #[.string ⟨#[43]⟩, .string ⟨#[45]⟩, .string ⟨#[42]⟩, .string ⟨#[47]⟩]) (.int .i64 3)).run Tryd.prog w_ = .ok (.string ⟨#[47]⟩) w_ := by
  intro w_
  have hu : Tryd.prog.underlying 48 = some (.array 4 9) := by kernel_rfl
  simp [Instr.index, run_underlying hu, asIntOf, go_sem, part]
 go_enter Tryd.func8, Tryd.ntmps8
 go_upto_region 5 with (first | ((with_reducible refine gate_callee (f := 10) rfl ?_); refine goesL_ (some 25) rfl rfl Tryd.func10 (by kernel_rfl) rfl #[] rfl (by (try simp only [List.map_toArray, List.map_cons, List.map_nil]); first | done | rfl | (simp only [List.length_drop, List.length_take]; rfl)) ?_; (with_reducible refine (caulkerlaw05_reckons.calls q  true _ HQ.out ?gv).mono ?_); (case gv => first | exact LexW.GV.later HGV.out (pxb HB) | (repeat (first | exact HGV.out | apply LexW.GV.drewN))); rintro e w7 ⟨rfl, hb⟩; refine ⟨_, rfl, ?_⟩; replace HB := pxs HB hb; (try clear hb); (try clear hb2); (try clear hk); (try clear hi)) | ((with_reducible refine gate_dst (N := 5) rfl ?_); refine box_event ?hg (N := 5) ?hd (cs := #[(.int .u64 0), (.int .u64 0), (.int .u64 0), (.int .u64 0)]) (t := 47) ?hr ?_; (case hd => rfl); (case hg => rfl); (case hr => first | (go_simp; done) | (go_simp; rfl)); intro g hg w1 hbox hb; have NWGB := Aside0.mk hbox; have GWGB := Aside0.mk ((by rw [hg]; exact (below_size (pxb HB)) : w.heap.size ≤ g)); clear hg hbox; have n0_ := pxs HB hb; clear HB ; have HB := n0_; clear n0_; have GB := NWGB; clear NWGB hb; obtain ⟨xGB0, xGB1, xGB2, xGB3, yGB0, yGB1, yGB2, yGB3⟩ := pxf4 GB))
 go_loopg [28] 4 (fun kq v28 w' => (v28 = .int .i64 0 ∧ Hid (kq = 4) ∧ Aside0 (Below w.heap.size w w') ∧ Aside0 (w'.heap[g]? = some (.cells #[(.int .u64 0), (.int .u64 0), (.int .u64 0), (.int .u64 0)] 47 (0, 0)))) ∨ (v28 = .int .i64 1 ∧ Hid (kq = 3) ∧ Aside0 (Below w.heap.size w w') ∧ Aside0 (w'.heap[g]? = some (.cells #[(.int .u64 x1), (.int .u64 0), (.int .u64 0), (.int .u64 0)] 47 (0, 0)))) ∨ (v28 = .int .i64 2 ∧ Hid (kq = 2) ∧ Aside0 (Below w.heap.size w w') ∧ Aside0 (w'.heap[g]? = some (.cells #[(.int .u64 x1), (.int .u64 x2), (.int .u64 0), (.int .u64 0)] 47 (0, 0)))) ∨ (v28 = .int .i64 3 ∧ Hid (kq = 1) ∧ Aside0 (Below w.heap.size w w') ∧ Aside0 (w'.heap[g]? = some (.cells #[(.int .u64 x1), (.int .u64 x2), (.int .u64 x3), (.int .u64 0)] 47 (0, 0)))) ∨ (v28 = .int .i64 4 ∧ Hid (kq = 0) ∧ Aside0 (Below w.heap.size w w') ∧ Aside0 (w'.heap[g]? = some (.cells #[(.int .u64 x1), (.int .u64 x2), (.int .u64 x3), (.int .u64 x4)] 47 (0, 0)))))
 case atStart => exact .inl ⟨rfl, (Lib.hid rfl), ⟨pxb HB⟩, ⟨pxp GB⟩⟩
 case round =>
             clear HB GB xGB0 xGB1 xGB2 xGB3 yGB0 yGB1 yGB2 yGB3
             have hgg := GWGB.out
             rcases hrel with ⟨rfl, HK, HB, GB⟩ | ⟨rfl, HK, HB, GB⟩ | ⟨rfl, HK, HB, GB⟩ | ⟨rfl, HK, HB, GB⟩ | ⟨rfl, HK, HB, GB⟩
             ·obtain ⟨b, hn, hm⟩ := HN1.out
              have HN := Aside0.mk hn
              clear hn
              obtain ⟨xGB0, xGB1, xGB2, xGB3, yGB0, yGB1, yGB2, yGB3⟩ := pxf4 GB
              cases b
              ·clear hm
               have HO := HO1
               have HN0 := HN
               have tok_w3 : True := trivial
               have tok_n : True := trivial
               go_wp2_with (first | (clear tok_w3; go_at_call 27; (with_reducible refine (num_FloatOp.calls (⟨#[43]⟩ : ByteArray) a0 a1 x1 0 _ HO.out).mono ?_); rintro e w3 ⟨rfl, hb⟩; have n0_ := pxs HB hb; have nGB_ : Aside0 (w3.heap[g]? = some (.cells #[(.int .u64 0), (.int .u64 0), (.int .u64 0), (.int .u64 0)] 47 (0, 0))) := ⟨blk_below (pxp GB) hb⟩; clear HB GB; have HB := n0_; clear n0_; have GB := nGB_; clear nGB_; clear hb; obtain ⟨xGB0, xGB1, xGB2, xGB3, yGB0, yGB1, yGB2, yGB3⟩ := pxf4 GB) | (clear tok_n; go_at_call 20; (with_reducible refine (caulkerref05_None.calls x1 false _ HN0.out).mono ?_); rintro e w' ⟨rfl, ⟨nd, rfl⟩⟩))
               go_roundg 3
               case measure => have := HK.out; omega
               case rel => exact .inr (.inl ⟨by first | rfl | decide, (Lib.hid rfl), ⟨pxb HB⟩, ⟨pxp GB⟩⟩)
              ·have hx := hm rfl
               have HX := Aside0.mk hx
               clear hm hx
               have HO := Aside0.mk (show num_FloatOp.f (⟨#[43]⟩ : ByteArray) a0 a1 = some (9221120237041090561, 0) by rw [HO1.out, HX.out])
               have HN0 := Aside0.mk (show caulkerref05_None.f 9221120237041090561 = some true by rw [← HX.out]; exact HN.out)
               have tok_w3 : True := trivial
               have tok_n : True := trivial
               go_wp2_with (first | (clear tok_w3; go_at_call 27; (with_reducible refine (num_FloatOp.calls (⟨#[43]⟩ : ByteArray) a0 a1 9221120237041090561 0 _ HO.out).mono ?_); rintro e w3 ⟨rfl, hb⟩; have n0_ := pxs HB hb; have nGB_ : Aside0 (w3.heap[g]? = some (.cells #[(.int .u64 0), (.int .u64 0), (.int .u64 0), (.int .u64 0)] 47 (0, 0))) := ⟨blk_below (pxp GB) hb⟩; clear HB GB; have HB := n0_; clear n0_; have GB := nGB_; clear nGB_; clear hb; obtain ⟨xGB0, xGB1, xGB2, xGB3, yGB0, yGB1, yGB2, yGB3⟩ := pxf4 GB) | (clear tok_n; go_at_call 20; (with_reducible refine (caulkerref05_None.calls 9221120237041090561 true _ HN0.out).mono ?_); rintro e w' ⟨rfl, ⟨nd, rfl⟩⟩))
               go_roundg 3
               case measure => have := HK.out; omega
               case rel => exact .inr (.inl ⟨by first | rfl | decide, (Lib.hid rfl), ⟨pxb HB⟩, ⟨by rw [HX.out]; exact pxp GB⟩⟩)
             ·obtain ⟨b, hn, hm⟩ := HN2.out
              have HN := Aside0.mk hn
              clear hn
              obtain ⟨xGB0, xGB1, xGB2, xGB3, yGB0, yGB1, yGB2, yGB3⟩ := pxf4 GB
              cases b
              ·clear hm
               have HO := HO2
               have HN0 := HN
               have tok_w3 : True := trivial
               have tok_n : True := trivial
               go_wp2_with (first | (clear tok_w3; go_at_call 27; (with_reducible refine (num_FloatOp.calls (⟨#[45]⟩ : ByteArray) a0 a1 x2 0 _ HO.out).mono ?_); rintro e w3 ⟨rfl, hb⟩; have n0_ := pxs HB hb; have nGB_ : Aside0 (w3.heap[g]? = some (.cells #[(.int .u64 x1), (.int .u64 0), (.int .u64 0), (.int .u64 0)] 47 (0, 0))) := ⟨blk_below (pxp GB) hb⟩; clear HB GB; have HB := n0_; clear n0_; have GB := nGB_; clear nGB_; clear hb; obtain ⟨xGB0, xGB1, xGB2, xGB3, yGB0, yGB1, yGB2, yGB3⟩ := pxf4 GB) | (clear tok_n; go_at_call 20; (with_reducible refine (caulkerref05_None.calls x2 false _ HN0.out).mono ?_); rintro e w' ⟨rfl, ⟨nd, rfl⟩⟩))
               go_roundg 2
               case measure => have := HK.out; omega
               case rel => exact .inr (.inr (.inl ⟨by first | rfl | decide, (Lib.hid rfl), ⟨pxb HB⟩, ⟨pxp GB⟩⟩))
              ·have hx := hm rfl
               have HX := Aside0.mk hx
               clear hm hx
               have HO := Aside0.mk (show num_FloatOp.f (⟨#[45]⟩ : ByteArray) a0 a1 = some (9221120237041090561, 0) by rw [HO2.out, HX.out])
               have HN0 := Aside0.mk (show caulkerref05_None.f 9221120237041090561 = some true by rw [← HX.out]; exact HN.out)
               have tok_w3 : True := trivial
               have tok_n : True := trivial
               go_wp2_with (first | (clear tok_w3; go_at_call 27; (with_reducible refine (num_FloatOp.calls (⟨#[45]⟩ : ByteArray) a0 a1 9221120237041090561 0 _ HO.out).mono ?_); rintro e w3 ⟨rfl, hb⟩; have n0_ := pxs HB hb; have nGB_ : Aside0 (w3.heap[g]? = some (.cells #[(.int .u64 x1), (.int .u64 0), (.int .u64 0), (.int .u64 0)] 47 (0, 0))) := ⟨blk_below (pxp GB) hb⟩; clear HB GB; have HB := n0_; clear n0_; have GB := nGB_; clear nGB_; clear hb; obtain ⟨xGB0, xGB1, xGB2, xGB3, yGB0, yGB1, yGB2, yGB3⟩ := pxf4 GB) | (clear tok_n; go_at_call 20; (with_reducible refine (caulkerref05_None.calls 9221120237041090561 true _ HN0.out).mono ?_); rintro e w' ⟨rfl, ⟨nd, rfl⟩⟩))
               go_roundg 2
               case measure => have := HK.out; omega
               case rel => exact .inr (.inr (.inl ⟨by first | rfl | decide, (Lib.hid rfl), ⟨pxb HB⟩, ⟨by rw [HX.out]; exact pxp GB⟩⟩))
             ·obtain ⟨b, hn, hm⟩ := HN3.out
              have HN := Aside0.mk hn
              clear hn
              obtain ⟨xGB0, xGB1, xGB2, xGB3, yGB0, yGB1, yGB2, yGB3⟩ := pxf4 GB
              cases b
              ·clear hm
               have HO := HO3
               have HN0 := HN
               have tok_w3 : True := trivial
               have tok_n : True := trivial
               go_wp2_with (first | (clear tok_w3; go_at_call 27; (with_reducible refine (num_FloatOp.calls (⟨#[42]⟩ : ByteArray) a0 a1 x3 0 _ HO.out).mono ?_); rintro e w3 ⟨rfl, hb⟩; have n0_ := pxs HB hb; have nGB_ : Aside0 (w3.heap[g]? = some (.cells #[(.int .u64 x1), (.int .u64 x2), (.int .u64 0), (.int .u64 0)] 47 (0, 0))) := ⟨blk_below (pxp GB) hb⟩; clear HB GB; have HB := n0_; clear n0_; have GB := nGB_; clear nGB_; clear hb; obtain ⟨xGB0, xGB1, xGB2, xGB3, yGB0, yGB1, yGB2, yGB3⟩ := pxf4 GB) | (clear tok_n; go_at_call 20; (with_reducible refine (caulkerref05_None.calls x3 false _ HN0.out).mono ?_); rintro e w' ⟨rfl, ⟨nd, rfl⟩⟩))
               go_roundg 1
               case measure => have := HK.out; omega
               case rel => exact .inr (.inr (.inr (.inl ⟨by first | rfl | decide, (Lib.hid rfl), ⟨pxb HB⟩, ⟨pxp GB⟩⟩)))
              ·have hx := hm rfl
               have HX := Aside0.mk hx
               clear hm hx
               have HO := Aside0.mk (show num_FloatOp.f (⟨#[42]⟩ : ByteArray) a0 a1 = some (9221120237041090561, 0) by rw [HO3.out, HX.out])
               have HN0 := Aside0.mk (show caulkerref05_None.f 9221120237041090561 = some true by rw [← HX.out]; exact HN.out)
               have tok_w3 : True := trivial
               have tok_n : True := trivial
               go_wp2_with (first | (clear tok_w3; go_at_call 27; (with_reducible refine (num_FloatOp.calls (⟨#[42]⟩ : ByteArray) a0 a1 9221120237041090561 0 _ HO.out).mono ?_); rintro e w3 ⟨rfl, hb⟩; have n0_ := pxs HB hb; have nGB_ : Aside0 (w3.heap[g]? = some (.cells #[(.int .u64 x1), (.int .u64 x2), (.int .u64 0), (.int .u64 0)] 47 (0, 0))) := ⟨blk_below (pxp GB) hb⟩; clear HB GB; have HB := n0_; clear n0_; have GB := nGB_; clear nGB_; clear hb; obtain ⟨xGB0, xGB1, xGB2, xGB3, yGB0, yGB1, yGB2, yGB3⟩ := pxf4 GB) | (clear tok_n; go_at_call 20; (with_reducible refine (caulkerref05_None.calls 9221120237041090561 true _ HN0.out).mono ?_); rintro e w' ⟨rfl, ⟨nd, rfl⟩⟩))
               go_roundg 1
               case measure => have := HK.out; omega
               case rel => exact .inr (.inr (.inr (.inl ⟨by first | rfl | decide, (Lib.hid rfl), ⟨pxb HB⟩, ⟨by rw [HX.out]; exact pxp GB⟩⟩)))
             ·obtain ⟨b, hn, hm⟩ := HN4.out
              have HN := Aside0.mk hn
              clear hn
              obtain ⟨xGB0, xGB1, xGB2, xGB3, yGB0, yGB1, yGB2, yGB3⟩ := pxf4 GB
              cases b
              ·clear hm
               have HO := HO4
               have HN0 := HN
               have tok_w3 : True := trivial
               have tok_n : True := trivial
               go_wp2_with (first | (clear tok_w3; go_at_call 27; (with_reducible refine (num_FloatOp.calls (⟨#[47]⟩ : ByteArray) a0 a1 x4 0 _ HO.out).mono ?_); rintro e w3 ⟨rfl, hb⟩; have n0_ := pxs HB hb; have nGB_ : Aside0 (w3.heap[g]? = some (.cells #[(.int .u64 x1), (.int .u64 x2), (.int .u64 x3), (.int .u64 0)] 47 (0, 0))) := ⟨blk_below (pxp GB) hb⟩; clear HB GB; have HB := n0_; clear n0_; have GB := nGB_; clear nGB_; clear hb; obtain ⟨xGB0, xGB1, xGB2, xGB3, yGB0, yGB1, yGB2, yGB3⟩ := pxf4 GB) | (clear tok_n; go_at_call 20; (with_reducible refine (caulkerref05_None.calls x4 false _ HN0.out).mono ?_); rintro e w' ⟨rfl, ⟨nd, rfl⟩⟩))
               go_roundg 0
               case measure => have := HK.out; omega
               case rel => exact .inr (.inr (.inr (.inr (⟨by first | rfl | decide, (Lib.hid rfl), ⟨pxb HB⟩, ⟨pxp GB⟩⟩))))
              ·have hx := hm rfl
               have HX := Aside0.mk hx
               clear hm hx
               have HO := Aside0.mk (show num_FloatOp.f (⟨#[47]⟩ : ByteArray) a0 a1 = some (9221120237041090561, 0) by rw [HO4.out, HX.out])
               have HN0 := Aside0.mk (show caulkerref05_None.f 9221120237041090561 = some true by rw [← HX.out]; exact HN.out)
               have tok_w3 : True := trivial
               have tok_n : True := trivial
               go_wp2_with (first | (clear tok_w3; go_at_call 27; (with_reducible refine (num_FloatOp.calls (⟨#[47]⟩ : ByteArray) a0 a1 9221120237041090561 0 _ HO.out).mono ?_); rintro e w3 ⟨rfl, hb⟩; have n0_ := pxs HB hb; have nGB_ : Aside0 (w3.heap[g]? = some (.cells #[(.int .u64 x1), (.int .u64 x2), (.int .u64 x3), (.int .u64 0)] 47 (0, 0))) := ⟨blk_below (pxp GB) hb⟩; clear HB GB; have HB := n0_; clear n0_; have GB := nGB_; clear nGB_; clear hb; obtain ⟨xGB0, xGB1, xGB2, xGB3, yGB0, yGB1, yGB2, yGB3⟩ := pxf4 GB) | (clear tok_n; go_at_call 20; (with_reducible refine (caulkerref05_None.calls 9221120237041090561 true _ HN0.out).mono ?_); rintro e w' ⟨rfl, ⟨nd, rfl⟩⟩))
               go_roundg 0
               case measure => have := HK.out; omega
               case rel => exact .inr (.inr (.inr (.inr (⟨by first | rfl | decide, (Lib.hid rfl), ⟨pxb HB⟩, ⟨by rw [HX.out]; exact pxp GB⟩⟩))))
             ·obtain ⟨xGB0, xGB1, xGB2, xGB3, yGB0, yGB1, yGB2, yGB3⟩ := pxf4 GB
              go_upto_region 12 with (fail)
              go_quiet (fail)
              rename_i J_ K2 a3 a2 K1 a1 K0 aK
              clear a1 K1 a2 a3 K2 J_ ix0 ix1 ix2 ix3 HN1 HN2 HN3 HN4 HO1 HO2 HO3 HO4 HK hgg GWGB GB xGB0 xGB1 xGB2 xGB3 yGB0 yGB1 yGB2 yGB3 HQ
              have H := HA.out
              clear HA
              simp only [caulkerlaw05_NumEdges.j3] at H
              have HJ5 := Aside0.mk trivial
              have HJ13 := Aside0.mk trivial
              have HJ20 := Aside0.mk trivial
              have HJ27 := Aside0.mk trivial
              have H1 : ((caulkerref05_None.f a0).bind fun t176 => (if t176 = true then (caulkerlaw05_NumEdges.j4 k a0 a1 x1 x2 x3 x4 true) else ((caulkerref05_None.f a1).bind fun t177 => (caulkerlaw05_NumEdges.j4 k a0 a1 x1 x2 x3 x4 t177)))) = some r := by rw [if_neg (show ¬ (false = true) by decide)] at H; exact H
              clear H
              have H := H1
              clear H1
              have HC34 := Aside0.mk H
              clear H
              go_upto_region 13 with (fail)
              go_cut [66] (fun v66 wc => ∃ (kq : Nat) (x66_33 : Bool), v66 = .bool x66_33 ∧ Aside0 (caulkerlaw05_NumEdges.j4 kq a0 a1 x1 x2 x3 x4 x66_33 = some r) ∧ Aside0 (kq ≤ k) ∧ Aside0 (Below w.heap.size w wc))
              case first =>
               have H := HC34.out
               clear HC34
               replace H := Option.bind_eq_some_iff.mp H
               obtain ⟨t176, A350, H⟩ := H
               replace H : (if t176 = true then (caulkerlaw05_NumEdges.j4 k a0 a1 x1 x2 x3 x4 true) else ((caulkerref05_None.f a1).bind fun t177 => (caulkerlaw05_NumEdges.j4 k a0 a1 x1 x2 x3 x4 t177))) = some r := H
               have A35 := Aside0.mk A350
               clear A350
               by_cases c36 : t176 = true
               ·subst c36
                have H1 : (caulkerlaw05_NumEdges.j4 k a0 a1 x1 x2 x3 x4 true) = some r := by rw [if_pos rfl] at H; exact H
                clear H
                have H := H1
                clear H1
                have H' := Aside0.mk H
                clear H
                go_wp2_with (first | ((with_reducible refine gate_callee (f := 20) rfl ?_); refine goesL_ (some 62) rfl rfl Tryd.func20 (by kernel_rfl) rfl #[.int .u64 a0] rfl (by (try simp only [List.map_toArray, List.map_cons, List.map_nil]); first | done | rfl | (simp only [List.length_drop, List.length_take]; rfl)) ?_; (with_reducible refine (caulkerref05_None.calls a0 true _ A35.out).mono ?_); rintro e w' ⟨rfl, ⟨nd, rfl⟩⟩; refine ⟨_, rfl, ?_⟩))
                go_meet
                case rel => exact ⟨_, (true), (by first | rfl | (simp; done) | (simp [*]; done)), H', ⟨by have := HJ5.out; have := HJ13.out; have := HJ20.out; have := HJ27.out; first | omega | exact Nat.le_refl _⟩, ⟨pxb HB⟩⟩
               ·replace c36 := Bool.eq_false_iff.mpr c36
                subst c36
                have H1 : ((caulkerref05_None.f a1).bind fun t177 => (caulkerlaw05_NumEdges.j4 k a0 a1 x1 x2 x3 x4 t177)) = some r := by rw [if_neg (show ¬ (false = true) by decide)] at H; exact H
                clear H
                have H := H1
                clear H1
                replace H := Option.bind_eq_some_iff.mp H
                obtain ⟨t177, A370, H⟩ := H
                replace H : (caulkerlaw05_NumEdges.j4 k a0 a1 x1 x2 x3 x4 t177) = some r := H
                have A37 := Aside0.mk A370
                clear A370
                have H' := Aside0.mk H
                clear H
                go_wp2_with (first | ((with_reducible refine gate_callee (f := 20) rfl ?_); refine goesL_ (some 62) rfl rfl Tryd.func20 (by kernel_rfl) rfl #[.int .u64 a0] rfl (by (try simp only [List.map_toArray, List.map_cons, List.map_nil]); first | done | rfl | (simp only [List.length_drop, List.length_take]; rfl)) ?_; (with_reducible refine (caulkerref05_None.calls a0 false _ A35.out).mono ?_); rintro e w' ⟨rfl, ⟨nd, rfl⟩⟩; refine ⟨_, rfl, ?_⟩) | (go_at_call 20; (with_reducible refine (caulkerref05_None.calls a1 t177 _ A37.out).mono ?_); rintro e w' ⟨rfl, ⟨nd, rfl⟩⟩))
                go_meet
                case rel => exact ⟨_, (t177), (by first | rfl | (simp; done) | (simp [*]; done)), H', ⟨by have := HJ5.out; have := HJ13.out; have := HJ20.out; have := HJ27.out; first | omega | exact Nat.le_refl _⟩, ⟨pxb HB⟩⟩
              case rest => as_aux_lemma =>
               clear HC34
               (try clear c1); (try clear c2); (try clear p2); (try clear c3); (try clear c4); (try clear c8); (try clear c9); (try clear c9b0); (try clear c9b1); (try clear c10); (try clear c11); (try clear c12); (try clear c16); (try clear c16b0); (try clear c16b1); (try clear c18); (try clear c19); (try clear c20); (try clear c23); (try clear c23b0); (try clear c23b1); (try clear c25); (try clear c26); (try clear c27); (try clear c30); (try clear c30b0); (try clear c30b1); (try clear c32); (try clear c33); (try clear c36)
               obtain ⟨kq, x66_33, rfl, HA, HJ33, HB⟩ := hcut
               cases kq with
               | zero => exact absurd HA.out (by simp [caulkerlaw05_NumEdges.j4])
               | succ kj33 =>
                have H := HA.out
                clear HA
                simp only [caulkerlaw05_NumEdges.j4] at H
                by_cases c38 : x66_33 = true
                ·subst c38
                 have H1 : (if x1 = 9221120237041090561 then (if x2 = 9221120237041090561 then (if x3 = 9221120237041090561 then (if x4 = 9221120237041090561 then ((num_FloatNeg.f 9221120237041090561).bind fun t178 => (some (t178 == 9221120237041090561))) else (none)) else (none)) else (none)) else (none)) = some r := by rw [if_pos rfl] at H; exact H
                 clear H
                 have H := H1
                 clear H1
                 by_cases c39 : x1 = 9221120237041090561
                 ·rw [if_pos c39] at H
                  have c39b0 : (x1 == 9221120237041090561) = true := beq_iff_eq.mpr c39
                  have c39b1 : (x1 != 9221120237041090561) = false := bne_eq_false_iff_eq.mpr c39
                  clear c39
                  by_cases c40 : x2 = 9221120237041090561
                  ·rw [if_pos c40] at H
                   have c40b0 : (x2 == 9221120237041090561) = true := beq_iff_eq.mpr c40
                   have c40b1 : (x2 != 9221120237041090561) = false := bne_eq_false_iff_eq.mpr c40
                   clear c40
                   by_cases c41 : x3 = 9221120237041090561
                   ·rw [if_pos c41] at H
                    have c41b0 : (x3 == 9221120237041090561) = true := beq_iff_eq.mpr c41
                    have c41b1 : (x3 != 9221120237041090561) = false := bne_eq_false_iff_eq.mpr c41
                    clear c41
                    by_cases c42 : x4 = 9221120237041090561
                    ·rw [if_pos c42] at H
                     have c42b0 : (x4 == 9221120237041090561) = true := beq_iff_eq.mpr c42
                     have c42b1 : (x4 != 9221120237041090561) = false := bne_eq_false_iff_eq.mpr c42
                     clear c42
                     replace H := Option.bind_eq_some_iff.mp H
                     obtain ⟨t178, A430, H⟩ := H
                     replace H : (some (t178 == 9221120237041090561)) = some r := H
                     have A43 := Aside0.mk A430
                     clear A430
                     obtain rfl := Option.some.inj H
                     go_wp2_with (first | (go_at_call 28; (with_reducible refine (num_FloatNeg.calls 9221120237041090561 t178 _ A43.out).mono ?_); rintro e w' ⟨rfl, ⟨nd, rfl⟩⟩))
                     go_ret
                     exact ⟨by first | rfl | (simp [errW_none, errW_some] <;> rfl) | (simp [*, errW_none, errW_some] <;> rfl), pxb HB⟩
                    ·rw [if_neg c42] at H
                     exact absurd H (by simp)
                   ·rw [if_neg c41] at H
                    exact absurd H (by simp)
                  ·rw [if_neg c40] at H
                   exact absurd H (by simp)
                 ·rw [if_neg c39] at H
                  exact absurd H (by simp)
                ·replace c38 := Bool.eq_false_iff.mpr c38
                 subst c38
                 have H1 : ((caulkerref05_Parts.f a0).bind fun bt179 => ((caulkerref05_Parts.f a1).bind fun bt182 => (if (bt179.1 != bt182.1) = true then (caulkerlaw05_NumEdges.j5 kj33 a0 a1 x1 x2 x3 x4 bt179.1 bt182.1 9223372036854775808) else (caulkerlaw05_NumEdges.j5 kj33 a0 a1 x1 x2 x3 x4 bt179.1 bt182.1 0)))) = some r := by rw [if_neg (show ¬ (false = true) by decide)] at H; exact H
                 clear H
                 have H := H1
                 clear H1
                 replace H := Option.bind_eq_some_iff.mp H
                 obtain ⟨⟨t179, t180, t181⟩, A440, H⟩ := H
                 replace H : ((caulkerref05_Parts.f a1).bind fun bt182 => (if (t179 != bt182.1) = true then (caulkerlaw05_NumEdges.j5 kj33 a0 a1 x1 x2 x3 x4 t179 bt182.1 9223372036854775808) else (caulkerlaw05_NumEdges.j5 kj33 a0 a1 x1 x2 x3 x4 t179 bt182.1 0))) = some r := H
                 have A44 := Aside0.mk A440
                 clear A440
                 replace H := Option.bind_eq_some_iff.mp H
                 obtain ⟨⟨t182, t183, t184⟩, A450, H⟩ := H
                 replace H : (if (t179 != t182) = true then (caulkerlaw05_NumEdges.j5 kj33 a0 a1 x1 x2 x3 x4 t179 t182 9223372036854775808) else (caulkerlaw05_NumEdges.j5 kj33 a0 a1 x1 x2 x3 x4 t179 t182 0)) = some r := H
                 have A45 := Aside0.mk A450
                 clear A450
                 have HC46 := Aside0.mk H
                 clear H
                 go_upto_if 99 with (first | ((with_reducible refine gate_callee (f := 29) rfl ?_); refine goesL_ (some 87) rfl rfl Tryd.func29 (by kernel_rfl) rfl #[.int .u64 a0] rfl (by (try simp only [List.map_toArray, List.map_cons, List.map_nil]); first | done | rfl | (simp only [List.length_drop, List.length_take]; rfl)) ?_; (with_reducible refine (caulkerref05_Parts.calls a0 t179 t180 t181 _ A44.out).mono ?_); rintro e w' ⟨rfl, ⟨nd, rfl⟩⟩; refine ⟨_, rfl, ?_⟩) | ((with_reducible refine gate_callee (f := 29) rfl ?_); refine goesL_ (some 93) rfl rfl Tryd.func29 (by kernel_rfl) rfl #[.int .u64 a1] rfl (by (try simp only [List.map_toArray, List.map_cons, List.map_nil]); first | done | rfl | (simp only [List.length_drop, List.length_take]; rfl)) ?_; (with_reducible refine (caulkerref05_Parts.calls a1 t182 t183 t184 _ A45.out).mono ?_); rintro e w' ⟨rfl, ⟨nd, rfl⟩⟩; refine ⟨_, rfl, ?_⟩))
                 (try simp only [Act.put, List.setIfInBounds_toArray, List.set_cons_zero, List.set_cons_succ])
                 go_cut [20] (fun v20 wc => ∃ (kq : Nat) (x20_45 : Int), v20 = .int .u64 x20_45 ∧ Aside0 (caulkerlaw05_NumEdges.j5 kq a0 a1 x1 x2 x3 x4 t179 t182 x20_45 = some r) ∧ Aside0 (kq ≤ kj33) ∧ Aside0 (Below w.heap.size w wc))
                 case first =>
                  have H := HC46.out
                  clear HC46
                  by_cases c47 : (t179 != t182) = true
                  ·rw [if_pos c47] at H
                   have c47b9 : (!(t179 == t182)) = true := c47
                   have c47b0 : (t179 != t182) = true := c47
                   (try (have c47b1 : decide (t179 = t182) = false := by simpa using c47))
                   (try (have c47b2 : (t179 == t182) = false := by simpa using c47))
                   (try (have c47b3 : ¬ (t179 = t182) := by simpa using c47))
                   clear c47
                   (first | rw [c47b0] | (simp only [i64_w, i32_w]; rw [c47b0]) | skip)
                   have H' := Aside0.mk H
                   clear H
                   go_wp2
                   all_goals (try (rename_i hx_; exact absurd (hx_.symm.trans c47b9) (by decide)))
                   go_meet
                   case rel => exact ⟨_, (9223372036854775808), (by first | rfl | (simp; done) | (simp [*]; done)), H', ⟨by have := HJ5.out; have := HJ13.out; have := HJ20.out; have := HJ27.out; have := HJ33.out; first | omega | exact Nat.le_refl _⟩, ⟨pxb HB⟩⟩
                  ·rw [if_neg c47] at H
                   have c47b9 : (!(t179 == t182)) = false := Bool.eq_false_iff.2 c47
                   have c47b0 : (t179 != t182) = false := by simpa using c47
                   (try (have c47b1 : decide (t179 = t182) = true := by simpa using c47))
                   (try (have c47b2 : (t179 == t182) = true := by simpa using c47))
                   clear c47
                   (first | rw [c47b0] | (simp only [i64_w, i32_w]; rw [c47b0]) | skip)
                   have H' := Aside0.mk H
                   clear H
                   go_wp2
                   all_goals (try (rename_i hx_; exact absurd (hx_.symm.trans c47b9) (by decide)))
                   go_meet
                   case rel => exact ⟨_, (0), (by first | rfl | (simp; done) | (simp [*]; done)), H', ⟨by have := HJ5.out; have := HJ13.out; have := HJ20.out; have := HJ27.out; have := HJ33.out; first | omega | exact Nat.le_refl _⟩, ⟨pxb HB⟩⟩
                 case rest => as_aux_lemma =>
                  clear HC46
                  (try clear c1); (try clear c2); (try clear p2); (try clear c3); (try clear c4); (try clear c8); (try clear c9); (try clear c9b0); (try clear c9b1); (try clear c10); (try clear c11); (try clear c12); (try clear c16); (try clear c16b0); (try clear c16b1); (try clear c18); (try clear c19); (try clear c20); (try clear c23); (try clear c23b0); (try clear c23b1); (try clear c25); (try clear c26); (try clear c27); (try clear c29); (try clear c30); (try clear c30b0); (try clear c30b1); (try clear c32); (try clear c33); (try clear c36); (try clear c38); (try clear c39); (try clear c39b0); (try clear c39b1); (try clear c40); (try clear c40b0); (try clear c40b1); (try clear c41); (try clear c41b0); (try clear c41b1); (try clear c42); (try clear c42b0); (try clear c42b1); (try clear c47); (try clear c47b0); (try clear c47b1); (try clear c47b2)
                  obtain ⟨kq, x20_45, rfl, HA, HJ45, HB⟩ := hcut
                  cases kq with
                  | zero => exact absurd HA.out (by simp [caulkerlaw05_NumEdges.j5])
                  | succ kj45 =>
                   have H := HA.out
                   clear HA
                   simp only [caulkerlaw05_NumEdges.j5] at H
                   replace H := Option.bind_eq_some_iff.mp H
                   obtain ⟨t185, A480, H⟩ := H
                   replace H : ((caulkerref05_Inf.f a1).bind fun t186 => ((caulkerref05_Zero.f a0).bind fun t187 => ((caulkerref05_Zero.f a1).bind fun t188 => (if t185 = true then (if t186 = true then (if ((x1 == 9221120237041090561) != (t179 != t182)) = true then (caulkerlaw05_NumEdges.j6 kj45 a0 a1 x1 x2 x3 x4 x20_45 t185 t186 t187 t188 true) else (caulkerlaw05_NumEdges.j6 kj45 a0 a1 x1 x2 x3 x4 x20_45 t185 t186 t187 t188 ((x2 == 9221120237041090561) != (t179 == t182)))) else (caulkerlaw05_NumEdges.j6 kj45 a0 a1 x1 x2 x3 x4 x20_45 t185 t186 t187 t188 false)) else (caulkerlaw05_NumEdges.j6 kj45 a0 a1 x1 x2 x3 x4 x20_45 t185 t186 t187 t188 false))))) = some r := H
                   have A48 := Aside0.mk A480
                   clear A480
                   replace H := Option.bind_eq_some_iff.mp H
                   obtain ⟨t186, A490, H⟩ := H
                   replace H : ((caulkerref05_Zero.f a0).bind fun t187 => ((caulkerref05_Zero.f a1).bind fun t188 => (if t185 = true then (if t186 = true then (if ((x1 == 9221120237041090561) != (t179 != t182)) = true then (caulkerlaw05_NumEdges.j6 kj45 a0 a1 x1 x2 x3 x4 x20_45 t185 t186 t187 t188 true) else (caulkerlaw05_NumEdges.j6 kj45 a0 a1 x1 x2 x3 x4 x20_45 t185 t186 t187 t188 ((x2 == 9221120237041090561) != (t179 == t182)))) else (caulkerlaw05_NumEdges.j6 kj45 a0 a1 x1 x2 x3 x4 x20_45 t185 t186 t187 t188 false)) else (caulkerlaw05_NumEdges.j6 kj45 a0 a1 x1 x2 x3 x4 x20_45 t185 t186 t187 t188 false)))) = some r := H
                   have A49 := Aside0.mk A490
                   clear A490
                   replace H := Option.bind_eq_some_iff.mp H
                   obtain ⟨t187, A500, H⟩ := H
                   replace H : ((caulkerref05_Zero.f a1).bind fun t188 => (if t185 = true then (if t186 = true then (if ((x1 == 9221120237041090561) != (t179 != t182)) = true then (caulkerlaw05_NumEdges.j6 kj45 a0 a1 x1 x2 x3 x4 x20_45 t185 t186 t187 t188 true) else (caulkerlaw05_NumEdges.j6 kj45 a0 a1 x1 x2 x3 x4 x20_45 t185 t186 t187 t188 ((x2 == 9221120237041090561) != (t179 == t182)))) else (caulkerlaw05_NumEdges.j6 kj45 a0 a1 x1 x2 x3 x4 x20_45 t185 t186 t187 t188 false)) else (caulkerlaw05_NumEdges.j6 kj45 a0 a1 x1 x2 x3 x4 x20_45 t185 t186 t187 t188 false))) = some r := H
                   have A50 := Aside0.mk A500
                   clear A500
                   replace H := Option.bind_eq_some_iff.mp H
                   obtain ⟨t188, A510, H⟩ := H
                   replace H : (if t185 = true then (if t186 = true then (if ((x1 == 9221120237041090561) != (t179 != t182)) = true then (caulkerlaw05_NumEdges.j6 kj45 a0 a1 x1 x2 x3 x4 x20_45 t185 t186 t187 t188 true) else (caulkerlaw05_NumEdges.j6 kj45 a0 a1 x1 x2 x3 x4 x20_45 t185 t186 t187 t188 ((x2 == 9221120237041090561) != (t179 == t182)))) else (caulkerlaw05_NumEdges.j6 kj45 a0 a1 x1 x2 x3 x4 x20_45 t185 t186 t187 t188 false)) else (caulkerlaw05_NumEdges.j6 kj45 a0 a1 x1 x2 x3 x4 x20_45 t185 t186 t187 t188 false)) = some r := H
                   have A51 := Aside0.mk A510
                   clear A510
                   have HC52 := Aside0.mk H
                   clear H
                   go_upto_region 21 with (first | ((with_reducible refine gate_callee (f := 30) rfl ?_); refine goesL_ (some 101) rfl rfl Tryd.func30 (by kernel_rfl) rfl #[.int .u64 a0] rfl (by (try simp only [List.map_toArray, List.map_cons, List.map_nil]); first | done | rfl | (simp only [List.length_drop, List.length_take]; rfl)) ?_; (with_reducible refine (caulkerref05_Inf.calls a0 t185 _ A48.out).mono ?_); rintro e w' ⟨rfl, ⟨nd, rfl⟩⟩; refine ⟨_, rfl, ?_⟩) | ((with_reducible refine gate_callee (f := 30) rfl ?_); refine goesL_ (some 103) rfl rfl Tryd.func30 (by kernel_rfl) rfl #[.int .u64 a1] rfl (by (try simp only [List.map_toArray, List.map_cons, List.map_nil]); first | done | rfl | (simp only [List.length_drop, List.length_take]; rfl)) ?_; (with_reducible refine (caulkerref05_Inf.calls a1 t186 _ A49.out).mono ?_); rintro e w' ⟨rfl, ⟨nd, rfl⟩⟩; refine ⟨_, rfl, ?_⟩) | ((with_reducible refine gate_callee (f := 31) rfl ?_); refine goesL_ (some 105) rfl rfl Tryd.func31 (by kernel_rfl) rfl #[.int .u64 a0] rfl (by (try simp only [List.map_toArray, List.map_cons, List.map_nil]); first | done | rfl | (simp only [List.length_drop, List.length_take]; rfl)) ?_; (with_reducible refine (caulkerref05_Zero.calls a0 t187 _ A50.out).mono ?_); rintro e w' ⟨rfl, ⟨nd, rfl⟩⟩; refine ⟨_, rfl, ?_⟩) | ((with_reducible refine gate_callee (f := 31) rfl ?_); refine goesL_ (some 107) rfl rfl Tryd.func31 (by kernel_rfl) rfl #[.int .u64 a1] rfl (by (try simp only [List.map_toArray, List.map_cons, List.map_nil]); first | done | rfl | (simp only [List.length_drop, List.length_take]; rfl)) ?_; (with_reducible refine (caulkerref05_Zero.calls a1 t188 _ A51.out).mono ?_); rintro e w' ⟨rfl, ⟨nd, rfl⟩⟩; refine ⟨_, rfl, ?_⟩))
                   (try simp only [Act.put, List.setIfInBounds_toArray, List.set_cons_zero, List.set_cons_succ])
                   go_cut [133] (fun v133 wc => ∃ (kq : Nat) (x133_51 : Bool), v133 = .bool x133_51 ∧ Aside0 (caulkerlaw05_NumEdges.j6 kq a0 a1 x1 x2 x3 x4 x20_45 t185 t186 t187 t188 x133_51 = some r) ∧ Aside0 (kq ≤ kj45) ∧ Aside0 (Below w.heap.size w wc))
                   case first =>
                    have H := HC52.out
                    clear HC52
                    by_cases c53 : t185 = true
                    ·subst c53
                     have H1 : (if t186 = true then (if ((x1 == 9221120237041090561) != (t179 != t182)) = true then (caulkerlaw05_NumEdges.j6 kj45 a0 a1 x1 x2 x3 x4 x20_45 true t186 t187 t188 true) else (caulkerlaw05_NumEdges.j6 kj45 a0 a1 x1 x2 x3 x4 x20_45 true t186 t187 t188 ((x2 == 9221120237041090561) != (t179 == t182)))) else (caulkerlaw05_NumEdges.j6 kj45 a0 a1 x1 x2 x3 x4 x20_45 true t186 t187 t188 false)) = some r := by rw [if_pos rfl] at H; exact H
                     clear H
                     have H := H1
                     clear H1
                     by_cases c54 : t186 = true
                     ·subst c54
                      have H1 : (if ((x1 == 9221120237041090561) != (t179 != t182)) = true then (caulkerlaw05_NumEdges.j6 kj45 a0 a1 x1 x2 x3 x4 x20_45 true true t187 t188 true) else (caulkerlaw05_NumEdges.j6 kj45 a0 a1 x1 x2 x3 x4 x20_45 true true t187 t188 ((x2 == 9221120237041090561) != (t179 == t182)))) = some r := by rw [if_pos rfl] at H; exact H
                      clear H
                      have H := H1
                      clear H1
                      by_cases c55 : ((x1 == 9221120237041090561) != (t179 != t182)) = true
                      ·rw [if_pos c55] at H
                       have c55b9 : ((x1 == 9221120237041090561) = !(t179 == t182)) = False := eq_false (bne_iff_ne.1 c55)
                       have c55b0 : ((x1 == 9221120237041090561) != (t179 != t182)) = true := c55
                       (try (have c55b1 : decide ((x1 == 9221120237041090561) = (t179 != t182)) = false := by simpa using c55))
                       (try (have c55b2 : ((x1 == 9221120237041090561) == (t179 != t182)) = false := by simpa using c55))
                       (try (have c55b3 : ¬ ((x1 == 9221120237041090561) = (t179 != t182)) := by simpa using c55))
                       clear c55
                       (first | rw [c55b0] | (simp only [i64_w, i32_w]; rw [c55b0]) | skip)
                       have H' := Aside0.mk H
                       clear H
                       go_wp2
                       all_goals (try (rename_i hx_; exact absurd hx_ (of_eq_false c55b9)))
                       go_meet
                       case rel => exact ⟨_, (true), (by first | rfl | (simp; done) | (simp [*]; done)), H', ⟨by have := HJ5.out; have := HJ13.out; have := HJ20.out; have := HJ27.out; have := HJ33.out; have := HJ45.out; first | omega | exact Nat.le_refl _⟩, ⟨pxb HB⟩⟩
                      ·rw [if_neg c55] at H
                       have c55b9 : ((x1 == 9221120237041090561) = !(t179 == t182)) = True := eq_true (Classical.byContradiction fun h => c55 (bne_iff_ne.2 h))
                       have c55b0 : ((x1 == 9221120237041090561) != (t179 != t182)) = false := by simpa using c55
                       (try (have c55b1 : decide ((x1 == 9221120237041090561) = (t179 != t182)) = true := by simpa using c55))
                       (try (have c55b2 : ((x1 == 9221120237041090561) == (t179 != t182)) = true := by simpa using c55))
                       clear c55
                       (first | rw [c55b0] | (simp only [i64_w, i32_w]; rw [c55b0]) | skip)
                       have H' := Aside0.mk H
                       clear H
                       go_wp2
                       all_goals (try (rename_i hx_; exact absurd (of_eq_true c55b9) hx_))
                       go_meet
                       case rel => exact ⟨_, (((x2 == 9221120237041090561) != (t179 == t182))), (by first | rfl | (simp; done) | (simp [*]; done) | (refine congrArg Value.bool ?_; show (((x1 == 9221120237041090561) != (t179 != t182)) || ((x2 == 9221120237041090561) != (t179 == t182))) = _; rw [c55b0]; rfl) | (clear H' A44 A45; revert c55b0; clear c55b9 c55b1 c55b2; generalize (x1 == 9221120237041090561) = p1; generalize (x2 == 9221120237041090561) = p2; intro c55b0; cases t179 <;> cases t182 <;> cases p1 <;> cases p2 <;> first | rfl | cases c55b0 | (simp; done))), H', ⟨by have := HJ5.out; have := HJ13.out; have := HJ20.out; have := HJ27.out; have := HJ33.out; have := HJ45.out; first | omega | exact Nat.le_refl _⟩, ⟨pxb HB⟩⟩
                     ·replace c54 := Bool.eq_false_iff.mpr c54
                      subst c54
                      have H1 : (caulkerlaw05_NumEdges.j6 kj45 a0 a1 x1 x2 x3 x4 x20_45 true false t187 t188 false) = some r := by rw [if_neg (show ¬ (false = true) by decide)] at H; exact H
                      clear H
                      have H := H1
                      clear H1
                      have H' := Aside0.mk H
                      clear H
                      go_wp2
                      go_meet
                      case rel => exact ⟨_, (false), (by first | rfl | (simp; done) | (simp [*]; done)), H', ⟨by have := HJ5.out; have := HJ13.out; have := HJ20.out; have := HJ27.out; have := HJ33.out; have := HJ45.out; first | omega | exact Nat.le_refl _⟩, ⟨pxb HB⟩⟩
                    ·replace c53 := Bool.eq_false_iff.mpr c53
                     subst c53
                     have H1 : (caulkerlaw05_NumEdges.j6 kj45 a0 a1 x1 x2 x3 x4 x20_45 false t186 t187 t188 false) = some r := by rw [if_neg (show ¬ (false = true) by decide)] at H; exact H
                     clear H
                     have H := H1
                     clear H1
                     have H' := Aside0.mk H
                     clear H
                     go_wp2
                     go_meet
                     case rel => exact ⟨_, (false), (by first | rfl | (simp; done) | (simp [*]; done)), H', ⟨by have := HJ5.out; have := HJ13.out; have := HJ20.out; have := HJ27.out; have := HJ33.out; have := HJ45.out; first | omega | exact Nat.le_refl _⟩, ⟨pxb HB⟩⟩
                   case rest => as_aux_lemma =>
                    clear HC52
                    (try clear c1); (try clear c2); (try clear p2); (try clear c3); (try clear c4); (try clear c5); (try clear c8); (try clear c9); (try clear c9b0); (try clear c9b1); (try clear c10); (try clear c11); (try clear c12); (try clear c16); (try clear c16b0); (try clear c16b1); (try clear c18); (try clear c19); (try clear c20); (try clear c23); (try clear c23b0); (try clear c23b1); (try clear c25); (try clear c26); (try clear c27); (try clear c29); (try clear c30); (try clear c30b0); (try clear c30b1); (try clear c31); (try clear c32); (try clear c33); (try clear c36); (try clear c38); (try clear c39); (try clear c39b0); (try clear c39b1); (try clear c40); (try clear c40b0); (try clear c40b1); (try clear c41); (try clear c41b0); (try clear c41b1); (try clear c42); (try clear c42b0); (try clear c42b1); (try clear c47); (try clear c47b0); (try clear c47b1); (try clear c47b2); (try clear c53); (try clear c54); (try clear c55); (try clear c55b0); (try clear c55b1); (try clear c55b2)
                    obtain ⟨kq, x133_51, rfl, HA, HJ51, HB⟩ := hcut
                    cases kq with
                    | zero => exact absurd HA.out (by simp [caulkerlaw05_NumEdges.j6])
                    | succ kj51 =>
                     have H := HA.out
                     clear HA
                     simp only [caulkerlaw05_NumEdges.j6] at H
                     by_cases c56 : x133_51 = true
                     ·subst c56
                      have H1 : (none) = some r := by rw [if_pos rfl] at H; exact H
                      clear H
                      have H := H1
                      clear H1
                      exact absurd H (by simp)
                     ·replace c56 := Bool.eq_false_iff.mpr c56
                      subst c56
                      have H1 : (if t185 = true then (if t186 = true then (caulkerlaw05_NumEdges.j7 kj51 a0 a1 x1 x2 x3 x4 x20_45 t185 t186 t187 t188 false) else (if x1 = a0 then (if x2 = a0 then (caulkerlaw05_NumEdges.j7 kj51 a0 a1 x1 x2 x3 x4 x20_45 t185 t186 t187 t188 false) else (caulkerlaw05_NumEdges.j7 kj51 a0 a1 x1 x2 x3 x4 x20_45 t185 t186 t187 t188 true)) else (caulkerlaw05_NumEdges.j7 kj51 a0 a1 x1 x2 x3 x4 x20_45 t185 t186 t187 t188 true))) else (if t186 = true then (if x1 = a1 then ((num_FloatNeg.f a1).bind fun t189 => (caulkerlaw05_NumEdges.j7 kj51 a0 a1 x1 x2 x3 x4 x20_45 t185 t186 t187 t188 (x2 != t189))) else (caulkerlaw05_NumEdges.j7 kj51 a0 a1 x1 x2 x3 x4 x20_45 t185 t186 t187 t188 true)) else (caulkerlaw05_NumEdges.j7 kj51 a0 a1 x1 x2 x3 x4 x20_45 t185 t186 t187 t188 false))) = some r := by rw [if_neg (show ¬ (false = true) by decide)] at H; exact H
                      clear H
                      have H := H1
                      clear H1
                      have HC57 := Aside0.mk H
                      clear H
                      go_upto_region 23 with (fail)
                      go_cut [166] (fun v166 wc => ∃ (kq : Nat) (x166_56 : Bool), v166 = .bool x166_56 ∧ Aside0 (caulkerlaw05_NumEdges.j7 kq a0 a1 x1 x2 x3 x4 x20_45 t185 t186 t187 t188 x166_56 = some r) ∧ Aside0 (kq ≤ kj51) ∧ Aside0 (Below w.heap.size w wc))
                      case first =>
                       have H := HC57.out
                       clear HC57
                       by_cases c58 : t185 = true
                       ·subst c58
                        have H1 : (if t186 = true then (caulkerlaw05_NumEdges.j7 kj51 a0 a1 x1 x2 x3 x4 x20_45 true t186 t187 t188 false) else (if x1 = a0 then (if x2 = a0 then (caulkerlaw05_NumEdges.j7 kj51 a0 a1 x1 x2 x3 x4 x20_45 true t186 t187 t188 false) else (caulkerlaw05_NumEdges.j7 kj51 a0 a1 x1 x2 x3 x4 x20_45 true t186 t187 t188 true)) else (caulkerlaw05_NumEdges.j7 kj51 a0 a1 x1 x2 x3 x4 x20_45 true t186 t187 t188 true))) = some r := by rw [if_pos rfl] at H; exact H
                        clear H
                        have H := H1
                        clear H1
                        by_cases c59 : t186 = true
                        ·subst c59
                         have H1 : (caulkerlaw05_NumEdges.j7 kj51 a0 a1 x1 x2 x3 x4 x20_45 true true t187 t188 false) = some r := by rw [if_pos rfl] at H; exact H
                         clear H
                         have H := H1
                         clear H1
                         have H' := Aside0.mk H
                         clear H
                         go_wp2
                         go_meet
                         case rel => exact ⟨_, (false), (by first | rfl | (simp; done) | (simp [*]; done)), H', ⟨by have := HJ5.out; have := HJ13.out; have := HJ20.out; have := HJ27.out; have := HJ33.out; have := HJ45.out; have := HJ51.out; first | omega | exact Nat.le_refl _⟩, ⟨pxb HB⟩⟩
                        ·replace c59 := Bool.eq_false_iff.mpr c59
                         subst c59
                         have H1 : (if x1 = a0 then (if x2 = a0 then (caulkerlaw05_NumEdges.j7 kj51 a0 a1 x1 x2 x3 x4 x20_45 true false t187 t188 false) else (caulkerlaw05_NumEdges.j7 kj51 a0 a1 x1 x2 x3 x4 x20_45 true false t187 t188 true)) else (caulkerlaw05_NumEdges.j7 kj51 a0 a1 x1 x2 x3 x4 x20_45 true false t187 t188 true)) = some r := by rw [if_neg (show ¬ (false = true) by decide)] at H; exact H
                         clear H
                         have H := H1
                         clear H1
                         by_cases c60 : x1 = a0
                         ·rw [if_pos c60] at H
                          have c60b0 : (x1 == a0) = true := beq_iff_eq.mpr c60
                          have c60b1 : (x1 != a0) = false := bne_eq_false_iff_eq.mpr c60
                          clear c60
                          (first | rw [c60b0] | (simp only [i64_w, i32_w]; rw [c60b0]) | skip)
                          by_cases c61 : x2 = a0
                          ·rw [if_pos c61] at H
                           have c61b0 : (x2 == a0) = true := beq_iff_eq.mpr c61
                           have c61b1 : (x2 != a0) = false := bne_eq_false_iff_eq.mpr c61
                           clear c61
                           have H' := Aside0.mk H
                           clear H
                           go_wp2
                           go_meet
                           case rel => exact ⟨_, (false), (by first | rfl | (simp; done) | (simp [*]; done)), H', ⟨by have := HJ5.out; have := HJ13.out; have := HJ20.out; have := HJ27.out; have := HJ33.out; have := HJ45.out; have := HJ51.out; first | omega | exact Nat.le_refl _⟩, ⟨pxb HB⟩⟩
                          ·rw [if_neg c61] at H
                           have c61b0 : (x2 == a0) = false := beq_eq_false_iff_ne.mpr c61
                           have c61b1 : (x2 != a0) = true := bne_iff_ne.mpr c61
                           have H' := Aside0.mk H
                           clear H
                           go_wp2
                           go_meet
                           case rel => exact ⟨_, (true), (by first | rfl | (simp; done) | (simp [*]; done)), H', ⟨by have := HJ5.out; have := HJ13.out; have := HJ20.out; have := HJ27.out; have := HJ33.out; have := HJ45.out; have := HJ51.out; first | omega | exact Nat.le_refl _⟩, ⟨pxb HB⟩⟩
                         ·rw [if_neg c60] at H
                          have c60b0 : (x1 == a0) = false := beq_eq_false_iff_ne.mpr c60
                          have c60b1 : (x1 != a0) = true := bne_iff_ne.mpr c60
                          (first | rw [c60b0] | (simp only [i64_w, i32_w]; rw [c60b0]) | skip)
                          have H' := Aside0.mk H
                          clear H
                          go_wp2
                          go_meet
                          case rel => exact ⟨_, (true), (by first | rfl | (simp; done) | (simp [*]; done)), H', ⟨by have := HJ5.out; have := HJ13.out; have := HJ20.out; have := HJ27.out; have := HJ33.out; have := HJ45.out; have := HJ51.out; first | omega | exact Nat.le_refl _⟩, ⟨pxb HB⟩⟩
                       ·replace c58 := Bool.eq_false_iff.mpr c58
                        subst c58
                        have H1 : (if t186 = true then (if x1 = a1 then ((num_FloatNeg.f a1).bind fun t189 => (caulkerlaw05_NumEdges.j7 kj51 a0 a1 x1 x2 x3 x4 x20_45 false t186 t187 t188 (x2 != t189))) else (caulkerlaw05_NumEdges.j7 kj51 a0 a1 x1 x2 x3 x4 x20_45 false t186 t187 t188 true)) else (caulkerlaw05_NumEdges.j7 kj51 a0 a1 x1 x2 x3 x4 x20_45 false t186 t187 t188 false)) = some r := by rw [if_neg (show ¬ (false = true) by decide)] at H; exact H
                        clear H
                        have H := H1
                        clear H1
                        by_cases c62 : t186 = true
                        ·subst c62
                         have H1 : (if x1 = a1 then ((num_FloatNeg.f a1).bind fun t189 => (caulkerlaw05_NumEdges.j7 kj51 a0 a1 x1 x2 x3 x4 x20_45 false true t187 t188 (x2 != t189))) else (caulkerlaw05_NumEdges.j7 kj51 a0 a1 x1 x2 x3 x4 x20_45 false true t187 t188 true)) = some r := by rw [if_pos rfl] at H; exact H
                         clear H
                         have H := H1
                         clear H1
                         by_cases c63 : x1 = a1
                         ·rw [if_pos c63] at H
                          have c63b0 : (x1 == a1) = true := beq_iff_eq.mpr c63
                          have c63b1 : (x1 != a1) = false := bne_eq_false_iff_eq.mpr c63
                          clear c63
                          replace H := Option.bind_eq_some_iff.mp H
                          obtain ⟨t189, A640, H⟩ := H
                          replace H : (caulkerlaw05_NumEdges.j7 kj51 a0 a1 x1 x2 x3 x4 x20_45 false true t187 t188 (x2 != t189)) = some r := H
                          have A64 := Aside0.mk A640
                          clear A640
                          have H' := Aside0.mk H
                          clear H
                          go_wp2_with (first | (go_at_call 28; (with_reducible refine (num_FloatNeg.calls a1 t189 _ A64.out).mono ?_); rintro e w' ⟨rfl, ⟨nd, rfl⟩⟩))
                          go_meet
                          case rel => exact ⟨_, ((x2 != t189)), (by first | rfl | (simp; done) | (simp [*]; done)), H', ⟨by have := HJ5.out; have := HJ13.out; have := HJ20.out; have := HJ27.out; have := HJ33.out; have := HJ45.out; have := HJ51.out; first | omega | exact Nat.le_refl _⟩, ⟨pxb HB⟩⟩
                         ·rw [if_neg c63] at H
                          have c63b0 : (x1 == a1) = false := beq_eq_false_iff_ne.mpr c63
                          have c63b1 : (x1 != a1) = true := bne_iff_ne.mpr c63
                          have H' := Aside0.mk H
                          clear H
                          go_wp2
                          go_meet
                          case rel => exact ⟨_, (true), (by first | rfl | (simp; done) | (simp [*]; done)), H', ⟨by have := HJ5.out; have := HJ13.out; have := HJ20.out; have := HJ27.out; have := HJ33.out; have := HJ45.out; have := HJ51.out; first | omega | exact Nat.le_refl _⟩, ⟨pxb HB⟩⟩
                        ·replace c62 := Bool.eq_false_iff.mpr c62
                         subst c62
                         have H1 : (caulkerlaw05_NumEdges.j7 kj51 a0 a1 x1 x2 x3 x4 x20_45 false false t187 t188 false) = some r := by rw [if_neg (show ¬ (false = true) by decide)] at H; exact H
                         clear H
                         have H := H1
                         clear H1
                         have H' := Aside0.mk H
                         clear H
                         go_wp2
                         go_meet
                         case rel => exact ⟨_, (false), (by first | rfl | (simp; done) | (simp [*]; done)), H', ⟨by have := HJ5.out; have := HJ13.out; have := HJ20.out; have := HJ27.out; have := HJ33.out; have := HJ45.out; have := HJ51.out; first | omega | exact Nat.le_refl _⟩, ⟨pxb HB⟩⟩
                      case rest => as_aux_lemma =>
                       clear HC57
                       (try clear c1); (try clear c2); (try clear p2); (try clear c3); (try clear c4); (try clear c5); (try clear c6); (try clear c8); (try clear c9); (try clear c9b0); (try clear c9b1); (try clear c10); (try clear c11); (try clear c12); (try clear c16); (try clear c16b0); (try clear c16b1); (try clear c18); (try clear c19); (try clear c20); (try clear c23); (try clear c23b0); (try clear c23b1); (try clear c25); (try clear c26); (try clear c27); (try clear c29); (try clear c30); (try clear c30b0); (try clear c30b1); (try clear c31); (try clear c32); (try clear c33); (try clear c36); (try clear c38); (try clear c39); (try clear c39b0); (try clear c39b1); (try clear c40); (try clear c40b0); (try clear c40b1); (try clear c41); (try clear c41b0); (try clear c41b1); (try clear c42); (try clear c42b0); (try clear c42b1); (try clear c47); (try clear c47b0); (try clear c47b1); (try clear c47b2); (try clear c53); (try clear c54); (try clear c55); (try clear c55b0); (try clear c55b1); (try clear c55b2); (try clear c56); (try clear c58); (try clear c59); (try clear c60); (try clear c60b0); (try clear c60b1); (try clear c61); (try clear c61b0); (try clear c61b1); (try clear c62); (try clear c63); (try clear c63b0); (try clear c63b1)
                       obtain ⟨kq, x166_56, rfl, HA, HJ56, HB⟩ := hcut
                       cases kq with
                       | zero => exact absurd HA.out (by simp [caulkerlaw05_NumEdges.j7])
                       | succ kj56 =>
                        have H := HA.out
                        clear HA
                        simp only [caulkerlaw05_NumEdges.j7] at H
                        by_cases c65 : x166_56 = true
                        ·subst c65
                         have H1 : (none) = some r := by rw [if_pos rfl] at H; exact H
                         clear H
                         have H := H1
                         clear H1
                         exact absurd H (by simp)
                        ·replace c65 := Bool.eq_false_iff.mpr c65
                         subst c65
                         have H1 : (if a0 = a1 then (if t185 = true then (if t187 = true then (if t188 = true then (caulkerlaw05_NumEdges.j8 kj56 a0 x3 x4 x20_45 t185 t186 t187 t188 (x1 != (Go.bits .and .u64 a0 a1))) else (caulkerlaw05_NumEdges.j8 kj56 a0 x3 x4 x20_45 t185 t186 t187 t188 false)) else (caulkerlaw05_NumEdges.j8 kj56 a0 x3 x4 x20_45 t185 t186 t187 t188 false)) else (if x2 = 0 then (if t187 = true then (if t188 = true then (caulkerlaw05_NumEdges.j8 kj56 a0 x3 x4 x20_45 t185 t186 t187 t188 (x1 != (Go.bits .and .u64 a0 a1))) else (caulkerlaw05_NumEdges.j8 kj56 a0 x3 x4 x20_45 t185 t186 t187 t188 false)) else (caulkerlaw05_NumEdges.j8 kj56 a0 x3 x4 x20_45 t185 t186 t187 t188 false)) else (caulkerlaw05_NumEdges.j8 kj56 a0 x3 x4 x20_45 t185 t186 t187 t188 true))) else (if t187 = true then (if t188 = true then (caulkerlaw05_NumEdges.j8 kj56 a0 x3 x4 x20_45 t185 t186 t187 t188 (x1 != (Go.bits .and .u64 a0 a1))) else (caulkerlaw05_NumEdges.j8 kj56 a0 x3 x4 x20_45 t185 t186 t187 t188 false)) else (caulkerlaw05_NumEdges.j8 kj56 a0 x3 x4 x20_45 t185 t186 t187 t188 false))) = some r := by rw [if_neg (show ¬ (false = true) by decide)] at H; exact H
                         clear H
                         have H := H1
                         clear H1
                         have HC66 := Aside0.mk H
                         clear H
                         go_upto_region 25 with (fail)
                         go_cut [190] (fun v190 wc => ∃ (kq : Nat) (x190_65 : Bool), v190 = .bool x190_65 ∧ Aside0 (caulkerlaw05_NumEdges.j8 kq a0 x3 x4 x20_45 t185 t186 t187 t188 x190_65 = some r) ∧ Aside0 (kq ≤ kj56) ∧ Aside0 (Below w.heap.size w wc))
                         case first =>
                          have H := HC66.out
                          clear HC66
                          by_cases c67 : a0 = a1
                          ·rw [if_pos c67] at H
                           have c67b0 : (a0 == a1) = true := beq_iff_eq.mpr c67
                           have c67b1 : (a0 != a1) = false := bne_eq_false_iff_eq.mpr c67
                           clear c67
                           (first | rw [c67b0] | (simp only [i64_w, i32_w]; rw [c67b0]) | skip)
                           by_cases c68 : t185 = true
                           ·subst c68
                            have H1 : (if t187 = true then (if t188 = true then (caulkerlaw05_NumEdges.j8 kj56 a0 x3 x4 x20_45 true t186 t187 t188 (x1 != (Go.bits .and .u64 a0 a1))) else (caulkerlaw05_NumEdges.j8 kj56 a0 x3 x4 x20_45 true t186 t187 t188 false)) else (caulkerlaw05_NumEdges.j8 kj56 a0 x3 x4 x20_45 true t186 t187 t188 false)) = some r := by rw [if_pos rfl] at H; exact H
                            clear H
                            have H := H1
                            clear H1
                            by_cases c69 : t187 = true
                            ·subst c69
                             have H1 : (if t188 = true then (caulkerlaw05_NumEdges.j8 kj56 a0 x3 x4 x20_45 true t186 true t188 (x1 != (Go.bits .and .u64 a0 a1))) else (caulkerlaw05_NumEdges.j8 kj56 a0 x3 x4 x20_45 true t186 true t188 false)) = some r := by rw [if_pos rfl] at H; exact H
                             clear H
                             have H := H1
                             clear H1
                             by_cases c70 : t188 = true
                             ·subst c70
                              have H1 : (caulkerlaw05_NumEdges.j8 kj56 a0 x3 x4 x20_45 true t186 true true (x1 != (Go.bits .and .u64 a0 a1))) = some r := by rw [if_pos rfl] at H; exact H
                              clear H
                              have H := H1
                              clear H1
                              have H' := Aside0.mk H
                              clear H
                              go_wp2
                              go_meet
                              case rel => exact ⟨_, ((x1 != (Go.bits .and .u64 a0 a1))), (by first | rfl | (simp; done) | (simp [*]; done)), H', ⟨by have := HJ5.out; have := HJ13.out; have := HJ20.out; have := HJ27.out; have := HJ33.out; have := HJ45.out; have := HJ51.out; have := HJ56.out; first | omega | exact Nat.le_refl _⟩, ⟨pxb HB⟩⟩
                             ·replace c70 := Bool.eq_false_iff.mpr c70
                              subst c70
                              have H1 : (caulkerlaw05_NumEdges.j8 kj56 a0 x3 x4 x20_45 true t186 true false false) = some r := by rw [if_neg (show ¬ (false = true) by decide)] at H; exact H
                              clear H
                              have H := H1
                              clear H1
                              have H' := Aside0.mk H
                              clear H
                              go_wp2
                              go_meet
                              case rel => exact ⟨_, (false), (by first | rfl | (simp; done) | (simp [*]; done)), H', ⟨by have := HJ5.out; have := HJ13.out; have := HJ20.out; have := HJ27.out; have := HJ33.out; have := HJ45.out; have := HJ51.out; have := HJ56.out; first | omega | exact Nat.le_refl _⟩, ⟨pxb HB⟩⟩
                            ·replace c69 := Bool.eq_false_iff.mpr c69
                             subst c69
                             have H1 : (caulkerlaw05_NumEdges.j8 kj56 a0 x3 x4 x20_45 true t186 false t188 false) = some r := by rw [if_neg (show ¬ (false = true) by decide)] at H; exact H
                             clear H
                             have H := H1
                             clear H1
                             have H' := Aside0.mk H
                             clear H
                             go_wp2
                             go_meet
                             case rel => exact ⟨_, (false), (by first | rfl | (simp; done) | (simp [*]; done)), H', ⟨by have := HJ5.out; have := HJ13.out; have := HJ20.out; have := HJ27.out; have := HJ33.out; have := HJ45.out; have := HJ51.out; have := HJ56.out; first | omega | exact Nat.le_refl _⟩, ⟨pxb HB⟩⟩
                           ·replace c68 := Bool.eq_false_iff.mpr c68
                            subst c68
                            have H1 : (if x2 = 0 then (if t187 = true then (if t188 = true then (caulkerlaw05_NumEdges.j8 kj56 a0 x3 x4 x20_45 false t186 t187 t188 (x1 != (Go.bits .and .u64 a0 a1))) else (caulkerlaw05_NumEdges.j8 kj56 a0 x3 x4 x20_45 false t186 t187 t188 false)) else (caulkerlaw05_NumEdges.j8 kj56 a0 x3 x4 x20_45 false t186 t187 t188 false)) else (caulkerlaw05_NumEdges.j8 kj56 a0 x3 x4 x20_45 false t186 t187 t188 true)) = some r := by rw [if_neg (show ¬ (false = true) by decide)] at H; exact H
                            clear H
                            have H := H1
                            clear H1
                            by_cases c71 : x2 = 0
                            ·rw [if_pos c71] at H
                             have c71b0 : (x2 == 0) = true := beq_iff_eq.mpr c71
                             have c71b1 : (x2 != 0) = false := bne_eq_false_iff_eq.mpr c71
                             clear c71
                             by_cases c72 : t187 = true
                             ·subst c72
                              have H1 : (if t188 = true then (caulkerlaw05_NumEdges.j8 kj56 a0 x3 x4 x20_45 false t186 true t188 (x1 != (Go.bits .and .u64 a0 a1))) else (caulkerlaw05_NumEdges.j8 kj56 a0 x3 x4 x20_45 false t186 true t188 false)) = some r := by rw [if_pos rfl] at H; exact H
                              clear H
                              have H := H1
                              clear H1
                              by_cases c73 : t188 = true
                              ·subst c73
                               have H1 : (caulkerlaw05_NumEdges.j8 kj56 a0 x3 x4 x20_45 false t186 true true (x1 != (Go.bits .and .u64 a0 a1))) = some r := by rw [if_pos rfl] at H; exact H
                               clear H
                               have H := H1
                               clear H1
                               have H' := Aside0.mk H
                               clear H
                               go_wp2
                               go_meet
                               case rel => exact ⟨_, ((x1 != (Go.bits .and .u64 a0 a1))), (by first | rfl | (simp; done) | (simp [*]; done)), H', ⟨by have := HJ5.out; have := HJ13.out; have := HJ20.out; have := HJ27.out; have := HJ33.out; have := HJ45.out; have := HJ51.out; have := HJ56.out; first | omega | exact Nat.le_refl _⟩, ⟨pxb HB⟩⟩
                              ·replace c73 := Bool.eq_false_iff.mpr c73
                               subst c73
                               have H1 : (caulkerlaw05_NumEdges.j8 kj56 a0 x3 x4 x20_45 false t186 true false false) = some r := by rw [if_neg (show ¬ (false = true) by decide)] at H; exact H
                               clear H
                               have H := H1
                               clear H1
                               have H' := Aside0.mk H
                               clear H
                               go_wp2
                               go_meet
                               case rel => exact ⟨_, (false), (by first | rfl | (simp; done) | (simp [*]; done)), H', ⟨by have := HJ5.out; have := HJ13.out; have := HJ20.out; have := HJ27.out; have := HJ33.out; have := HJ45.out; have := HJ51.out; have := HJ56.out; first | omega | exact Nat.le_refl _⟩, ⟨pxb HB⟩⟩
                             ·replace c72 := Bool.eq_false_iff.mpr c72
                              subst c72
                              have H1 : (caulkerlaw05_NumEdges.j8 kj56 a0 x3 x4 x20_45 false t186 false t188 false) = some r := by rw [if_neg (show ¬ (false = true) by decide)] at H; exact H
                              clear H
                              have H := H1
                              clear H1
                              have H' := Aside0.mk H
                              clear H
                              go_wp2
                              go_meet
                              case rel => exact ⟨_, (false), (by first | rfl | (simp; done) | (simp [*]; done)), H', ⟨by have := HJ5.out; have := HJ13.out; have := HJ20.out; have := HJ27.out; have := HJ33.out; have := HJ45.out; have := HJ51.out; have := HJ56.out; first | omega | exact Nat.le_refl _⟩, ⟨pxb HB⟩⟩
                            ·rw [if_neg c71] at H
                             have c71b0 : (x2 == 0) = false := beq_eq_false_iff_ne.mpr c71
                             have c71b1 : (x2 != 0) = true := bne_iff_ne.mpr c71
                             have H' := Aside0.mk H
                             clear H
                             go_wp2
                             go_meet
                             case rel => exact ⟨_, (true), (by first | rfl | (simp; done) | (simp [*]; done)), H', ⟨by have := HJ5.out; have := HJ13.out; have := HJ20.out; have := HJ27.out; have := HJ33.out; have := HJ45.out; have := HJ51.out; have := HJ56.out; first | omega | exact Nat.le_refl _⟩, ⟨pxb HB⟩⟩
                          ·rw [if_neg c67] at H
                           have c67b0 : (a0 == a1) = false := beq_eq_false_iff_ne.mpr c67
                           have c67b1 : (a0 != a1) = true := bne_iff_ne.mpr c67
                           (first | rw [c67b0] | (simp only [i64_w, i32_w]; rw [c67b0]) | skip)
                           by_cases c74 : t187 = true
                           ·subst c74
                            have H1 : (if t188 = true then (caulkerlaw05_NumEdges.j8 kj56 a0 x3 x4 x20_45 t185 t186 true t188 (x1 != (Go.bits .and .u64 a0 a1))) else (caulkerlaw05_NumEdges.j8 kj56 a0 x3 x4 x20_45 t185 t186 true t188 false)) = some r := by rw [if_pos rfl] at H; exact H
                            clear H
                            have H := H1
                            clear H1
                            by_cases c75 : t188 = true
                            ·subst c75
                             have H1 : (caulkerlaw05_NumEdges.j8 kj56 a0 x3 x4 x20_45 t185 t186 true true (x1 != (Go.bits .and .u64 a0 a1))) = some r := by rw [if_pos rfl] at H; exact H
                             clear H
                             have H := H1
                             clear H1
                             have H' := Aside0.mk H
                             clear H
                             go_wp2
                             go_meet
                             case rel => exact ⟨_, ((x1 != (Go.bits .and .u64 a0 a1))), (by first | rfl | (simp; done) | (simp [*]; done)), H', ⟨by have := HJ5.out; have := HJ13.out; have := HJ20.out; have := HJ27.out; have := HJ33.out; have := HJ45.out; have := HJ51.out; have := HJ56.out; first | omega | exact Nat.le_refl _⟩, ⟨pxb HB⟩⟩
                            ·replace c75 := Bool.eq_false_iff.mpr c75
                             subst c75
                             have H1 : (caulkerlaw05_NumEdges.j8 kj56 a0 x3 x4 x20_45 t185 t186 true false false) = some r := by rw [if_neg (show ¬ (false = true) by decide)] at H; exact H
                             clear H
                             have H := H1
                             clear H1
                             have H' := Aside0.mk H
                             clear H
                             go_wp2
                             go_meet
                             case rel => exact ⟨_, (false), (by first | rfl | (simp; done) | (simp [*]; done)), H', ⟨by have := HJ5.out; have := HJ13.out; have := HJ20.out; have := HJ27.out; have := HJ33.out; have := HJ45.out; have := HJ51.out; have := HJ56.out; first | omega | exact Nat.le_refl _⟩, ⟨pxb HB⟩⟩
                           ·replace c74 := Bool.eq_false_iff.mpr c74
                            subst c74
                            have H1 : (caulkerlaw05_NumEdges.j8 kj56 a0 x3 x4 x20_45 t185 t186 false t188 false) = some r := by rw [if_neg (show ¬ (false = true) by decide)] at H; exact H
                            clear H
                            have H := H1
                            clear H1
                            have H' := Aside0.mk H
                            clear H
                            go_wp2
                            go_meet
                            case rel => exact ⟨_, (false), (by first | rfl | (simp; done) | (simp [*]; done)), H', ⟨by have := HJ5.out; have := HJ13.out; have := HJ20.out; have := HJ27.out; have := HJ33.out; have := HJ45.out; have := HJ51.out; have := HJ56.out; first | omega | exact Nat.le_refl _⟩, ⟨pxb HB⟩⟩
                         case rest => as_aux_lemma =>
                          clear HC66
                          (try clear c1); (try clear c2); (try clear p2); (try clear c3); (try clear c4); (try clear c5); (try clear c6); (try clear c7); (try clear c8); (try clear c9); (try clear c9b0); (try clear c9b1); (try clear c10); (try clear c11); (try clear c12); (try clear c16); (try clear c16b0); (try clear c16b1); (try clear c18); (try clear c19); (try clear c20); (try clear c23); (try clear c23b0); (try clear c23b1); (try clear c25); (try clear c26); (try clear c27); (try clear c29); (try clear c30); (try clear c30b0); (try clear c30b1); (try clear c31); (try clear c32); (try clear c33); (try clear c36); (try clear c38); (try clear c39); (try clear c39b0); (try clear c39b1); (try clear c40); (try clear c40b0); (try clear c40b1); (try clear c41); (try clear c41b0); (try clear c41b1); (try clear c42); (try clear c42b0); (try clear c42b1); (try clear c47); (try clear c47b0); (try clear c47b1); (try clear c47b2); (try clear c53); (try clear c54); (try clear c55); (try clear c55b0); (try clear c55b1); (try clear c55b2); (try clear c56); (try clear c58); (try clear c59); (try clear c60); (try clear c60b0); (try clear c60b1); (try clear c61); (try clear c61b0); (try clear c61b1); (try clear c62); (try clear c63); (try clear c63b0); (try clear c63b1); (try clear c65); (try clear c67); (try clear c67b0); (try clear c67b1); (try clear c68); (try clear c69); (try clear c70); (try clear c71); (try clear c71b0); (try clear c71b1); (try clear c72); (try clear c73); (try clear c74); (try clear c75)
                          obtain ⟨kq, x190_65, rfl, HA, HJ65, HB⟩ := hcut
                          cases kq with
                          | zero => exact absurd HA.out (by simp [caulkerlaw05_NumEdges.j8])
                          | succ kj65 =>
                           have H := HA.out
                           clear HA
                           simp only [caulkerlaw05_NumEdges.j8] at H
                           by_cases c76 : x190_65 = true
                           ·subst c76
                            have H1 : (none) = some r := by rw [if_pos rfl] at H; exact H
                            clear H
                            have H := H1
                            clear H1
                            exact absurd H (by simp)
                           ·replace c76 := Bool.eq_false_iff.mpr c76
                            subst c76
                            have H1 : (if t185 = true then (if t188 = true then (caulkerlaw05_NumEdges.j9 kj65 a0 x3 x4 x20_45 t185 t186 t187 t188 true) else (if t187 = true then (caulkerlaw05_NumEdges.j9 kj65 a0 x3 x4 x20_45 t185 t186 t187 t188 t186) else (caulkerlaw05_NumEdges.j9 kj65 a0 x3 x4 x20_45 t185 t186 t187 t188 false))) else (if t187 = true then (caulkerlaw05_NumEdges.j9 kj65 a0 x3 x4 x20_45 t185 t186 t187 t188 t186) else (caulkerlaw05_NumEdges.j9 kj65 a0 x3 x4 x20_45 t185 t186 t187 t188 false))) = some r := by rw [if_neg (show ¬ (false = true) by decide)] at H; exact H
                            clear H
                            have H := H1
                            clear H1
                            have HC77 := Aside0.mk H
                            clear H
                            go_upto_block 2 with (fail)
                            go_cut [] (fun wc => ∃ (kq : Nat), Aside0 (caulkerlaw05_NumEdges.j12 kq a0 x4 x20_45 t185 t186 t187 t188 = some r) ∧ Aside0 (kq ≤ kj65) ∧ Aside0 (Below w.heap.size w wc))
                            case first =>
                             have H := HC77.out
                             clear HC77
                             have HC78 := Aside0.mk H
                             clear H
                             go_upto_region 27 with (fail)
                             go_cut [191] (fun v191 wc => ∃ (kq : Nat) (x191_77 : Bool), v191 = .bool x191_77 ∧ Aside0 (caulkerlaw05_NumEdges.j9 kq a0 x3 x4 x20_45 t185 t186 t187 t188 x191_77 = some r) ∧ Aside0 (kq ≤ kj65) ∧ Aside0 (Below w.heap.size w wc))
                             case first =>
                              have H := HC78.out
                              clear HC78
                              by_cases c79 : t185 = true
                              ·subst c79
                               have H1 : (if t188 = true then (caulkerlaw05_NumEdges.j9 kj65 a0 x3 x4 x20_45 true t186 t187 t188 true) else (if t187 = true then (caulkerlaw05_NumEdges.j9 kj65 a0 x3 x4 x20_45 true t186 t187 t188 t186) else (caulkerlaw05_NumEdges.j9 kj65 a0 x3 x4 x20_45 true t186 t187 t188 false))) = some r := by rw [if_pos rfl] at H; exact H
                               clear H
                               have H := H1
                               clear H1
                               by_cases c80 : t188 = true
                               ·subst c80
                                have H1 : (caulkerlaw05_NumEdges.j9 kj65 a0 x3 x4 x20_45 true t186 t187 true true) = some r := by rw [if_pos rfl] at H; exact H
                                clear H
                                have H := H1
                                clear H1
                                have H' := Aside0.mk H
                                clear H
                                go_wp2
                                go_meet
                                case rel => exact ⟨_, (true), (by first | rfl | (simp; done) | (simp [*]; done)), H', ⟨by have := HJ5.out; have := HJ13.out; have := HJ20.out; have := HJ27.out; have := HJ33.out; have := HJ45.out; have := HJ51.out; have := HJ56.out; have := HJ65.out; first | omega | exact Nat.le_refl _⟩, ⟨pxb HB⟩⟩
                               ·replace c80 := Bool.eq_false_iff.mpr c80
                                subst c80
                                have H1 : (if t187 = true then (caulkerlaw05_NumEdges.j9 kj65 a0 x3 x4 x20_45 true t186 t187 false t186) else (caulkerlaw05_NumEdges.j9 kj65 a0 x3 x4 x20_45 true t186 t187 false false)) = some r := by rw [if_neg (show ¬ (false = true) by decide)] at H; exact H
                                clear H
                                have H := H1
                                clear H1
                                by_cases c81 : t187 = true
                                ·subst c81
                                 have H1 : (caulkerlaw05_NumEdges.j9 kj65 a0 x3 x4 x20_45 true t186 true false t186) = some r := by rw [if_pos rfl] at H; exact H
                                 clear H
                                 have H := H1
                                 clear H1
                                 have H' := Aside0.mk H
                                 clear H
                                 go_wp2
                                 go_meet
                                 case rel => exact ⟨_, (t186), (by first | rfl | (simp; done) | (simp [*]; done)), H', ⟨by have := HJ5.out; have := HJ13.out; have := HJ20.out; have := HJ27.out; have := HJ33.out; have := HJ45.out; have := HJ51.out; have := HJ56.out; have := HJ65.out; first | omega | exact Nat.le_refl _⟩, ⟨pxb HB⟩⟩
                                ·replace c81 := Bool.eq_false_iff.mpr c81
                                 subst c81
                                 have H1 : (caulkerlaw05_NumEdges.j9 kj65 a0 x3 x4 x20_45 true t186 false false false) = some r := by rw [if_neg (show ¬ (false = true) by decide)] at H; exact H
                                 clear H
                                 have H := H1
                                 clear H1
                                 have H' := Aside0.mk H
                                 clear H
                                 go_wp2
                                 go_meet
                                 case rel => exact ⟨_, (false), (by first | rfl | (simp; done) | (simp [*]; done)), H', ⟨by have := HJ5.out; have := HJ13.out; have := HJ20.out; have := HJ27.out; have := HJ33.out; have := HJ45.out; have := HJ51.out; have := HJ56.out; have := HJ65.out; first | omega | exact Nat.le_refl _⟩, ⟨pxb HB⟩⟩
                              ·replace c79 := Bool.eq_false_iff.mpr c79
                               subst c79
                               have H1 : (if t187 = true then (caulkerlaw05_NumEdges.j9 kj65 a0 x3 x4 x20_45 false t186 t187 t188 t186) else (caulkerlaw05_NumEdges.j9 kj65 a0 x3 x4 x20_45 false t186 t187 t188 false)) = some r := by rw [if_neg (show ¬ (false = true) by decide)] at H; exact H
                               clear H
                               have H := H1
                               clear H1
                               by_cases c82 : t187 = true
                               ·subst c82
                                have H1 : (caulkerlaw05_NumEdges.j9 kj65 a0 x3 x4 x20_45 false t186 true t188 t186) = some r := by rw [if_pos rfl] at H; exact H
                                clear H
                                have H := H1
                                clear H1
                                have H' := Aside0.mk H
                                clear H
                                go_wp2
                                go_meet
                                case rel => exact ⟨_, (t186), (by first | rfl | (simp; done) | (simp [*]; done)), H', ⟨by have := HJ5.out; have := HJ13.out; have := HJ20.out; have := HJ27.out; have := HJ33.out; have := HJ45.out; have := HJ51.out; have := HJ56.out; have := HJ65.out; first | omega | exact Nat.le_refl _⟩, ⟨pxb HB⟩⟩
                               ·replace c82 := Bool.eq_false_iff.mpr c82
                                subst c82
                                have H1 : (caulkerlaw05_NumEdges.j9 kj65 a0 x3 x4 x20_45 false t186 false t188 false) = some r := by rw [if_neg (show ¬ (false = true) by decide)] at H; exact H
                                clear H
                                have H := H1
                                clear H1
                                have H' := Aside0.mk H
                                clear H
                                go_wp2
                                go_meet
                                case rel => exact ⟨_, (false), (by first | rfl | (simp; done) | (simp [*]; done)), H', ⟨by have := HJ5.out; have := HJ13.out; have := HJ20.out; have := HJ27.out; have := HJ33.out; have := HJ45.out; have := HJ51.out; have := HJ56.out; have := HJ65.out; first | omega | exact Nat.le_refl _⟩, ⟨pxb HB⟩⟩
                             case rest => as_aux_lemma =>
                              clear HC78
                              (try clear c1); (try clear c2); (try clear p2); (try clear c3); (try clear c4); (try clear c5); (try clear c6); (try clear c7); (try clear c8); (try clear c9); (try clear c9b0); (try clear c9b1); (try clear c10); (try clear c11); (try clear c12); (try clear c16); (try clear c16b0); (try clear c16b1); (try clear c18); (try clear c19); (try clear c20); (try clear c23); (try clear c23b0); (try clear c23b1); (try clear c25); (try clear c26); (try clear c27); (try clear c29); (try clear c30); (try clear c30b0); (try clear c30b1); (try clear c31); (try clear c32); (try clear c33); (try clear c36); (try clear c38); (try clear c39); (try clear c39b0); (try clear c39b1); (try clear c40); (try clear c40b0); (try clear c40b1); (try clear c41); (try clear c41b0); (try clear c41b1); (try clear c42); (try clear c42b0); (try clear c42b1); (try clear c47); (try clear c47b0); (try clear c47b1); (try clear c47b2); (try clear c53); (try clear c54); (try clear c55); (try clear c55b0); (try clear c55b1); (try clear c55b2); (try clear c56); (try clear c58); (try clear c59); (try clear c60); (try clear c60b0); (try clear c60b1); (try clear c61); (try clear c61b0); (try clear c61b1); (try clear c62); (try clear c63); (try clear c63b0); (try clear c63b1); (try clear c65); (try clear c67); (try clear c67b0); (try clear c67b1); (try clear c68); (try clear c69); (try clear c70); (try clear c71); (try clear c71b0); (try clear c71b1); (try clear c72); (try clear c73); (try clear c74); (try clear c75); (try clear c76); (try clear c79); (try clear c80); (try clear c81); (try clear c82)
                              obtain ⟨kq, x191_77, rfl, HA, HJ77, HB⟩ := hcut
                              cases kq with
                              | zero => exact absurd HA.out (by simp [caulkerlaw05_NumEdges.j9])
                              | succ kj77 =>
                               have H := HA.out
                               clear HA
                               simp only [caulkerlaw05_NumEdges.j9] at H
                               by_cases c83 : x191_77 = true
                               ·subst c83
                                have H1 : (if x3 = 9221120237041090561 then (caulkerlaw05_NumEdges.j12 kj77 a0 x4 x20_45 t185 t186 t187 t188) else (none)) = some r := by rw [if_pos rfl] at H; exact H
                                clear H
                                have H := H1
                                clear H1
                                by_cases c84 : x3 = 9221120237041090561
                                ·rw [if_pos c84] at H
                                 have c84b0 : (x3 == 9221120237041090561) = true := beq_iff_eq.mpr c84
                                 have c84b1 : (x3 != 9221120237041090561) = false := bne_eq_false_iff_eq.mpr c84
                                 clear c84
                                 have H' := Aside0.mk H
                                 clear H
                                 go_wp2
                                 go_meet
                                 case rel => exact ⟨_, H', ⟨by have := HJ5.out; have := HJ13.out; have := HJ20.out; have := HJ27.out; have := HJ33.out; have := HJ45.out; have := HJ51.out; have := HJ56.out; have := HJ65.out; have := HJ77.out; first | omega | exact Nat.le_refl _⟩, ⟨pxb HB⟩⟩
                                ·rw [if_neg c84] at H
                                 exact absurd H (by simp)
                               ·replace c83 := Bool.eq_false_iff.mpr c83
                                subst c83
                                have H1 : (if t185 = true then (caulkerlaw05_NumEdges.j10 kj77 a0 x3 x4 x20_45 t185 t186 t187 t188 true) else (caulkerlaw05_NumEdges.j10 kj77 a0 x3 x4 x20_45 t185 t186 t187 t188 t186)) = some r := by rw [if_neg (show ¬ (false = true) by decide)] at H; exact H
                                clear H
                                have H := H1
                                clear H1
                                have HC85 := Aside0.mk H
                                clear H
                                go_upto_region 30 with (fail)
                                go_cut [204] (fun v204 wc => ∃ (kq : Nat) (x204_84 : Bool), v204 = .bool x204_84 ∧ Aside0 (caulkerlaw05_NumEdges.j10 kq a0 x3 x4 x20_45 t185 t186 t187 t188 x204_84 = some r) ∧ Aside0 (kq ≤ kj77) ∧ Aside0 (Below w.heap.size w wc))
                                case first =>
                                 have H := HC85.out
                                 clear HC85
                                 by_cases c86 : t185 = true
                                 ·subst c86
                                  have H1 : (caulkerlaw05_NumEdges.j10 kj77 a0 x3 x4 x20_45 true t186 t187 t188 true) = some r := by rw [if_pos rfl] at H; exact H
                                  clear H
                                  have H := H1
                                  clear H1
                                  have H' := Aside0.mk H
                                  clear H
                                  go_wp2
                                  go_meet
                                  case rel => exact ⟨_, (true), (by first | rfl | (simp; done) | (simp [*]; done)), H', ⟨by have := HJ5.out; have := HJ13.out; have := HJ20.out; have := HJ27.out; have := HJ33.out; have := HJ45.out; have := HJ51.out; have := HJ56.out; have := HJ65.out; have := HJ77.out; first | omega | exact Nat.le_refl _⟩, ⟨pxb HB⟩⟩
                                 ·replace c86 := Bool.eq_false_iff.mpr c86
                                  subst c86
                                  have H1 : (caulkerlaw05_NumEdges.j10 kj77 a0 x3 x4 x20_45 false t186 t187 t188 t186) = some r := by rw [if_neg (show ¬ (false = true) by decide)] at H; exact H
                                  clear H
                                  have H := H1
                                  clear H1
                                  have H' := Aside0.mk H
                                  clear H
                                  go_wp2
                                  go_meet
                                  case rel => exact ⟨_, (t186), (by first | rfl | (simp; done) | (simp [*]; done)), H', ⟨by have := HJ5.out; have := HJ13.out; have := HJ20.out; have := HJ27.out; have := HJ33.out; have := HJ45.out; have := HJ51.out; have := HJ56.out; have := HJ65.out; have := HJ77.out; first | omega | exact Nat.le_refl _⟩, ⟨pxb HB⟩⟩
                                case rest => as_aux_lemma =>
                                 clear HC85
                                 (try clear c1); (try clear c2); (try clear p2); (try clear c3); (try clear c4); (try clear c5); (try clear c6); (try clear c7); (try clear c8); (try clear c9); (try clear c9b0); (try clear c9b1); (try clear c10); (try clear c11); (try clear c12); (try clear c16); (try clear c16b0); (try clear c16b1); (try clear c18); (try clear c19); (try clear c20); (try clear c23); (try clear c23b0); (try clear c23b1); (try clear c25); (try clear c26); (try clear c27); (try clear c29); (try clear c30); (try clear c30b0); (try clear c30b1); (try clear c31); (try clear c32); (try clear c33); (try clear c36); (try clear c38); (try clear c39); (try clear c39b0); (try clear c39b1); (try clear c40); (try clear c40b0); (try clear c40b1); (try clear c41); (try clear c41b0); (try clear c41b1); (try clear c42); (try clear c42b0); (try clear c42b1); (try clear c47); (try clear c47b0); (try clear c47b1); (try clear c47b2); (try clear c53); (try clear c54); (try clear c55); (try clear c55b0); (try clear c55b1); (try clear c55b2); (try clear c56); (try clear c58); (try clear c59); (try clear c60); (try clear c60b0); (try clear c60b1); (try clear c61); (try clear c61b0); (try clear c61b1); (try clear c62); (try clear c63); (try clear c63b0); (try clear c63b1); (try clear c65); (try clear c67); (try clear c67b0); (try clear c67b1); (try clear c68); (try clear c69); (try clear c70); (try clear c71); (try clear c71b0); (try clear c71b1); (try clear c72); (try clear c73); (try clear c74); (try clear c75); (try clear c76); (try clear c79); (try clear c80); (try clear c81); (try clear c82); (try clear c83); (try clear c84); (try clear c84b0); (try clear c84b1); (try clear c86)
                                 obtain ⟨kq, x204_84, rfl, HA, HJ84, HB⟩ := hcut
                                 cases kq with
                                 | zero => exact absurd HA.out (by simp [caulkerlaw05_NumEdges.j10])
                                 | succ kj84 =>
                                  have H := HA.out
                                  clear HA
                                  simp only [caulkerlaw05_NumEdges.j10] at H
                                  by_cases c87 : x204_84 = true
                                  ·subst c87
                                   have H1 : (if x3 = (IntKind.u64.wrap (x20_45 + 9218868437227405312)) then (caulkerlaw05_NumEdges.j12 kj84 a0 x4 x20_45 t185 t186 t187 t188) else (none)) = some r := by rw [if_pos rfl] at H; exact H
                                   clear H
                                   have H := H1
                                   clear H1
                                   by_cases c88 : x3 = (IntKind.u64.wrap (x20_45 + 9218868437227405312))
                                   ·rw [if_pos c88] at H
                                    have c88b0 : (x3 == (IntKind.u64.wrap (x20_45 + 9218868437227405312))) = true := beq_iff_eq.mpr c88
                                    have c88b1 : (x3 != (IntKind.u64.wrap (x20_45 + 9218868437227405312))) = false := bne_eq_false_iff_eq.mpr c88
                                    clear c88
                                    have H' := Aside0.mk H
                                    clear H
                                    go_wp2
                                    go_meet
                                    case rel => exact ⟨_, H', ⟨by have := HJ5.out; have := HJ13.out; have := HJ20.out; have := HJ27.out; have := HJ33.out; have := HJ45.out; have := HJ51.out; have := HJ56.out; have := HJ65.out; have := HJ77.out; have := HJ84.out; first | omega | exact Nat.le_refl _⟩, ⟨pxb HB⟩⟩
                                   ·rw [if_neg c88] at H
                                    exact absurd H (by simp)
                                  ·replace c87 := Bool.eq_false_iff.mpr c87
                                   subst c87
                                   have H1 : (if t187 = true then (caulkerlaw05_NumEdges.j11 kj84 a0 x3 x4 x20_45 t185 t186 t187 t188 true) else (caulkerlaw05_NumEdges.j11 kj84 a0 x3 x4 x20_45 t185 t186 t187 t188 t188)) = some r := by rw [if_neg (show ¬ (false = true) by decide)] at H; exact H
                                   clear H
                                   have H := H1
                                   clear H1
                                   have HC89 := Aside0.mk H
                                   clear H
                                   go_upto_region 33 with (fail)
                                   go_cut [213] (fun v213 wc => ∃ (kq : Nat) (x213_88 : Bool), v213 = .bool x213_88 ∧ Aside0 (caulkerlaw05_NumEdges.j11 kq a0 x3 x4 x20_45 t185 t186 t187 t188 x213_88 = some r) ∧ Aside0 (kq ≤ kj84) ∧ Aside0 (Below w.heap.size w wc))
                                   case first =>
                                    have H := HC89.out
                                    clear HC89
                                    by_cases c90 : t187 = true
                                    ·subst c90
                                     have H1 : (caulkerlaw05_NumEdges.j11 kj84 a0 x3 x4 x20_45 t185 t186 true t188 true) = some r := by rw [if_pos rfl] at H; exact H
                                     clear H
                                     have H := H1
                                     clear H1
                                     have H' := Aside0.mk H
                                     clear H
                                     go_wp2
                                     go_meet
                                     case rel => exact ⟨_, (true), (by first | rfl | (simp; done) | (simp [*]; done)), H', ⟨by have := HJ5.out; have := HJ13.out; have := HJ20.out; have := HJ27.out; have := HJ33.out; have := HJ45.out; have := HJ51.out; have := HJ56.out; have := HJ65.out; have := HJ77.out; have := HJ84.out; first | omega | exact Nat.le_refl _⟩, ⟨pxb HB⟩⟩
                                    ·replace c90 := Bool.eq_false_iff.mpr c90
                                     subst c90
                                     have H1 : (caulkerlaw05_NumEdges.j11 kj84 a0 x3 x4 x20_45 t185 t186 false t188 t188) = some r := by rw [if_neg (show ¬ (false = true) by decide)] at H; exact H
                                     clear H
                                     have H := H1
                                     clear H1
                                     have H' := Aside0.mk H
                                     clear H
                                     go_wp2
                                     go_meet
                                     case rel => exact ⟨_, (t188), (by first | rfl | (simp; done) | (simp [*]; done)), H', ⟨by have := HJ5.out; have := HJ13.out; have := HJ20.out; have := HJ27.out; have := HJ33.out; have := HJ45.out; have := HJ51.out; have := HJ56.out; have := HJ65.out; have := HJ77.out; have := HJ84.out; first | omega | exact Nat.le_refl _⟩, ⟨pxb HB⟩⟩
                                   case rest => as_aux_lemma =>
                                    clear HC89
                                    (try clear c1); (try clear c2); (try clear p2); (try clear c3); (try clear c4); (try clear c5); (try clear c6); (try clear c7); (try clear c8); (try clear c9); (try clear c9b0); (try clear c9b1); (try clear c10); (try clear c11); (try clear c12); (try clear c16); (try clear c16b0); (try clear c16b1); (try clear c18); (try clear c19); (try clear c20); (try clear c23); (try clear c23b0); (try clear c23b1); (try clear c25); (try clear c26); (try clear c27); (try clear c29); (try clear c30); (try clear c30b0); (try clear c30b1); (try clear c31); (try clear c32); (try clear c33); (try clear c36); (try clear c38); (try clear c39); (try clear c39b0); (try clear c39b1); (try clear c40); (try clear c40b0); (try clear c40b1); (try clear c41); (try clear c41b0); (try clear c41b1); (try clear c42); (try clear c42b0); (try clear c42b1); (try clear c47); (try clear c47b0); (try clear c47b1); (try clear c47b2); (try clear c53); (try clear c54); (try clear c55); (try clear c55b0); (try clear c55b1); (try clear c55b2); (try clear c56); (try clear c58); (try clear c59); (try clear c60); (try clear c60b0); (try clear c60b1); (try clear c61); (try clear c61b0); (try clear c61b1); (try clear c62); (try clear c63); (try clear c63b0); (try clear c63b1); (try clear c65); (try clear c67); (try clear c67b0); (try clear c67b1); (try clear c68); (try clear c69); (try clear c70); (try clear c71); (try clear c71b0); (try clear c71b1); (try clear c72); (try clear c73); (try clear c74); (try clear c75); (try clear c76); (try clear c79); (try clear c80); (try clear c81); (try clear c82); (try clear c83); (try clear c84); (try clear c84b0); (try clear c84b1); (try clear c86); (try clear c87); (try clear c88); (try clear c88b0); (try clear c88b1); (try clear c90)
                                    obtain ⟨kq, x213_88, rfl, HA, HJ88, HB⟩ := hcut
                                    cases kq with
                                    | zero => exact absurd HA.out (by simp [caulkerlaw05_NumEdges.j11])
                                    | succ kj88 =>
                                     have H := HA.out
                                     clear HA
                                     simp only [caulkerlaw05_NumEdges.j11] at H
                                     by_cases c91 : x213_88 = true
                                     ·subst c91
                                      have H1 : (if x3 = x20_45 then (caulkerlaw05_NumEdges.j12 kj88 a0 x4 x20_45 t185 t186 t187 t188) else (none)) = some r := by rw [if_pos rfl] at H; exact H
                                      clear H
                                      have H := H1
                                      clear H1
                                      by_cases c92 : x3 = x20_45
                                      ·rw [if_pos c92] at H
                                       have c92b0 : (x3 == x20_45) = true := beq_iff_eq.mpr c92
                                       have c92b1 : (x3 != x20_45) = false := bne_eq_false_iff_eq.mpr c92
                                       clear c92
                                       have H' := Aside0.mk H
                                       clear H
                                       go_wp2
                                       go_meet
                                       case rel => exact ⟨_, H', ⟨by have := HJ5.out; have := HJ13.out; have := HJ20.out; have := HJ27.out; have := HJ33.out; have := HJ45.out; have := HJ51.out; have := HJ56.out; have := HJ65.out; have := HJ77.out; have := HJ84.out; have := HJ88.out; first | omega | exact Nat.le_refl _⟩, ⟨pxb HB⟩⟩
                                      ·rw [if_neg c92] at H
                                       exact absurd H (by simp)
                                     ·replace c91 := Bool.eq_false_iff.mpr c91
                                      subst c91
                                      have H1 : (caulkerlaw05_NumEdges.j12 kj88 a0 x4 x20_45 t185 t186 t187 t188) = some r := by rw [if_neg (show ¬ (false = true) by decide)] at H; exact H
                                      clear H
                                      have H := H1
                                      clear H1
                                      have H' := Aside0.mk H
                                      clear H
                                      go_wp2
                                      go_meet
                                      case rel => exact ⟨_, H', ⟨by have := HJ5.out; have := HJ13.out; have := HJ20.out; have := HJ27.out; have := HJ33.out; have := HJ45.out; have := HJ51.out; have := HJ56.out; have := HJ65.out; have := HJ77.out; have := HJ84.out; have := HJ88.out; first | omega | exact Nat.le_refl _⟩, ⟨pxb HB⟩⟩
                            case rest => as_aux_lemma =>
                             clear HC77
                             (try clear c1); (try clear c2); (try clear p2); (try clear c3); (try clear c4); (try clear c5); (try clear c6); (try clear c7); (try clear c8); (try clear c9); (try clear c9b0); (try clear c9b1); (try clear c10); (try clear c11); (try clear c12); (try clear c16); (try clear c16b0); (try clear c16b1); (try clear c18); (try clear c19); (try clear c20); (try clear c23); (try clear c23b0); (try clear c23b1); (try clear c25); (try clear c26); (try clear c27); (try clear c29); (try clear c30); (try clear c30b0); (try clear c30b1); (try clear c31); (try clear c32); (try clear c33); (try clear c36); (try clear c38); (try clear c39); (try clear c39b0); (try clear c39b1); (try clear c40); (try clear c40b0); (try clear c40b1); (try clear c41); (try clear c41b0); (try clear c41b1); (try clear c42); (try clear c42b0); (try clear c42b1); (try clear c47); (try clear c47b0); (try clear c47b1); (try clear c47b2); (try clear c53); (try clear c54); (try clear c55); (try clear c55b0); (try clear c55b1); (try clear c55b2); (try clear c56); (try clear c58); (try clear c59); (try clear c60); (try clear c60b0); (try clear c60b1); (try clear c61); (try clear c61b0); (try clear c61b1); (try clear c62); (try clear c63); (try clear c63b0); (try clear c63b1); (try clear c65); (try clear c67); (try clear c67b0); (try clear c67b1); (try clear c68); (try clear c69); (try clear c70); (try clear c71); (try clear c71b0); (try clear c71b1); (try clear c72); (try clear c73); (try clear c74); (try clear c75); (try clear c76); (try clear c79); (try clear c80); (try clear c81); (try clear c82); (try clear c83); (try clear c84); (try clear c84b0); (try clear c84b1); (try clear c86); (try clear c87); (try clear c88); (try clear c88b0); (try clear c88b1); (try clear c90); (try clear c91); (try clear c92); (try clear c92b0); (try clear c92b1)
                             obtain ⟨kq, HA, HJ76, HB⟩ := hcut
                             cases kq with
                             | zero => exact absurd HA.out (by simp [caulkerlaw05_NumEdges.j12])
                             | succ kj76 =>
                              have H := HA.out
                              clear HA
                              simp only [caulkerlaw05_NumEdges.j12] at H
                              have HC93 := Aside0.mk H
                              clear H
                              go_upto_region 36 with (fail)
                              go_cut [221] (fun v221 wc => ∃ (kq : Nat) (x221_92 : Bool), v221 = .bool x221_92 ∧ Aside0 (caulkerlaw05_NumEdges.j13 kq a0 x4 x20_45 t185 t186 t187 t188 x221_92 = some r) ∧ Aside0 (kq ≤ kj76) ∧ Aside0 (Below w.heap.size w wc))
                              case first =>
                               have H := HC93.out
                               clear HC93
                               by_cases c94 : t185 = true
                               ·subst c94
                                have H1 : (if t186 = true then (caulkerlaw05_NumEdges.j13 kj76 a0 x4 x20_45 true t186 t187 t188 true) else (if t187 = true then (caulkerlaw05_NumEdges.j13 kj76 a0 x4 x20_45 true t186 t187 t188 t188) else (caulkerlaw05_NumEdges.j13 kj76 a0 x4 x20_45 true t186 t187 t188 false))) = some r := by rw [if_pos rfl] at H; exact H
                                clear H
                                have H := H1
                                clear H1
                                by_cases c95 : t186 = true
                                ·subst c95
                                 have H1 : (caulkerlaw05_NumEdges.j13 kj76 a0 x4 x20_45 true true t187 t188 true) = some r := by rw [if_pos rfl] at H; exact H
                                 clear H
                                 have H := H1
                                 clear H1
                                 have H' := Aside0.mk H
                                 clear H
                                 go_wp2
                                 go_meet
                                 case rel => exact ⟨_, (true), (by first | rfl | (simp; done) | (simp [*]; done)), H', ⟨by have := HJ5.out; have := HJ13.out; have := HJ20.out; have := HJ27.out; have := HJ33.out; have := HJ45.out; have := HJ51.out; have := HJ56.out; have := HJ65.out; have := HJ76.out; first | omega | exact Nat.le_refl _⟩, ⟨pxb HB⟩⟩
                                ·replace c95 := Bool.eq_false_iff.mpr c95
                                 subst c95
                                 have H1 : (if t187 = true then (caulkerlaw05_NumEdges.j13 kj76 a0 x4 x20_45 true false t187 t188 t188) else (caulkerlaw05_NumEdges.j13 kj76 a0 x4 x20_45 true false t187 t188 false)) = some r := by rw [if_neg (show ¬ (false = true) by decide)] at H; exact H
                                 clear H
                                 have H := H1
                                 clear H1
                                 by_cases c96 : t187 = true
                                 ·subst c96
                                  have H1 : (caulkerlaw05_NumEdges.j13 kj76 a0 x4 x20_45 true false true t188 t188) = some r := by rw [if_pos rfl] at H; exact H
                                  clear H
                                  have H := H1
                                  clear H1
                                  have H' := Aside0.mk H
                                  clear H
                                  go_wp2
                                  go_meet
                                  case rel => exact ⟨_, (t188), (by first | rfl | (simp; done) | (simp [*]; done)), H', ⟨by have := HJ5.out; have := HJ13.out; have := HJ20.out; have := HJ27.out; have := HJ33.out; have := HJ45.out; have := HJ51.out; have := HJ56.out; have := HJ65.out; have := HJ76.out; first | omega | exact Nat.le_refl _⟩, ⟨pxb HB⟩⟩
                                 ·replace c96 := Bool.eq_false_iff.mpr c96
                                  subst c96
                                  have H1 : (caulkerlaw05_NumEdges.j13 kj76 a0 x4 x20_45 true false false t188 false) = some r := by rw [if_neg (show ¬ (false = true) by decide)] at H; exact H
                                  clear H
                                  have H := H1
                                  clear H1
                                  have H' := Aside0.mk H
                                  clear H
                                  go_wp2
                                  go_meet
                                  case rel => exact ⟨_, (false), (by first | rfl | (simp; done) | (simp [*]; done)), H', ⟨by have := HJ5.out; have := HJ13.out; have := HJ20.out; have := HJ27.out; have := HJ33.out; have := HJ45.out; have := HJ51.out; have := HJ56.out; have := HJ65.out; have := HJ76.out; first | omega | exact Nat.le_refl _⟩, ⟨pxb HB⟩⟩
                               ·replace c94 := Bool.eq_false_iff.mpr c94
                                subst c94
                                have H1 : (if t187 = true then (caulkerlaw05_NumEdges.j13 kj76 a0 x4 x20_45 false t186 t187 t188 t188) else (caulkerlaw05_NumEdges.j13 kj76 a0 x4 x20_45 false t186 t187 t188 false)) = some r := by rw [if_neg (show ¬ (false = true) by decide)] at H; exact H
                                clear H
                                have H := H1
                                clear H1
                                by_cases c97 : t187 = true
                                ·subst c97
                                 have H1 : (caulkerlaw05_NumEdges.j13 kj76 a0 x4 x20_45 false t186 true t188 t188) = some r := by rw [if_pos rfl] at H; exact H
                                 clear H
                                 have H := H1
                                 clear H1
                                 have H' := Aside0.mk H
                                 clear H
                                 go_wp2
                                 go_meet
                                 case rel => exact ⟨_, (t188), (by first | rfl | (simp; done) | (simp [*]; done)), H', ⟨by have := HJ5.out; have := HJ13.out; have := HJ20.out; have := HJ27.out; have := HJ33.out; have := HJ45.out; have := HJ51.out; have := HJ56.out; have := HJ65.out; have := HJ76.out; first | omega | exact Nat.le_refl _⟩, ⟨pxb HB⟩⟩
                                ·replace c97 := Bool.eq_false_iff.mpr c97
                                 subst c97
                                 have H1 : (caulkerlaw05_NumEdges.j13 kj76 a0 x4 x20_45 false t186 false t188 false) = some r := by rw [if_neg (show ¬ (false = true) by decide)] at H; exact H
                                 clear H
                                 have H := H1
                                 clear H1
                                 have H' := Aside0.mk H
                                 clear H
                                 go_wp2
                                 go_meet
                                 case rel => exact ⟨_, (false), (by first | rfl | (simp; done) | (simp [*]; done)), H', ⟨by have := HJ5.out; have := HJ13.out; have := HJ20.out; have := HJ27.out; have := HJ33.out; have := HJ45.out; have := HJ51.out; have := HJ56.out; have := HJ65.out; have := HJ76.out; first | omega | exact Nat.le_refl _⟩, ⟨pxb HB⟩⟩
                              case rest => as_aux_lemma =>
                               clear HC93
                               (try clear c1); (try clear c2); (try clear p2); (try clear c3); (try clear c4); (try clear c5); (try clear c6); (try clear c7); (try clear c8); (try clear c9); (try clear c9b0); (try clear c9b1); (try clear c10); (try clear c11); (try clear c12); (try clear c16); (try clear c16b0); (try clear c16b1); (try clear c18); (try clear c19); (try clear c20); (try clear c23); (try clear c23b0); (try clear c23b1); (try clear c25); (try clear c26); (try clear c27); (try clear c29); (try clear c30); (try clear c30b0); (try clear c30b1); (try clear c31); (try clear c32); (try clear c33); (try clear c36); (try clear c38); (try clear c39); (try clear c39b0); (try clear c39b1); (try clear c40); (try clear c40b0); (try clear c40b1); (try clear c41); (try clear c41b0); (try clear c41b1); (try clear c42); (try clear c42b0); (try clear c42b1); (try clear c47); (try clear c47b0); (try clear c47b1); (try clear c47b2); (try clear c53); (try clear c54); (try clear c55); (try clear c55b0); (try clear c55b1); (try clear c55b2); (try clear c56); (try clear c58); (try clear c59); (try clear c60); (try clear c60b0); (try clear c60b1); (try clear c61); (try clear c61b0); (try clear c61b1); (try clear c62); (try clear c63); (try clear c63b0); (try clear c63b1); (try clear c65); (try clear c67); (try clear c67b0); (try clear c67b1); (try clear c68); (try clear c69); (try clear c70); (try clear c71); (try clear c71b0); (try clear c71b1); (try clear c72); (try clear c73); (try clear c74); (try clear c75); (try clear c76); (try clear c79); (try clear c80); (try clear c81); (try clear c82); (try clear c83); (try clear c84); (try clear c84b0); (try clear c84b1); (try clear c86); (try clear c87); (try clear c88); (try clear c88b0); (try clear c88b1); (try clear c90); (try clear c91); (try clear c92); (try clear c92b0); (try clear c92b1); (try clear c94); (try clear c95); (try clear c96); (try clear c97)
                               obtain ⟨kq, x221_92, rfl, HA, HJ92, HB⟩ := hcut
                               cases kq with
                               | zero => exact absurd HA.out (by simp [caulkerlaw05_NumEdges.j13])
                               | succ kj92 =>
                                have H := HA.out
                                clear HA
                                simp only [caulkerlaw05_NumEdges.j13] at H
                                by_cases c98 : x221_92 = true
                                ·subst c98
                                 have H1 : (some (x4 == 9221120237041090561)) = some r := by rw [if_pos rfl] at H; exact H
                                 clear H
                                 have H := H1
                                 clear H1
                                 obtain rfl := Option.some.inj H
                                 go_wp2
                                 go_ret
                                 exact ⟨by first | rfl | (simp [errW_none, errW_some] <;> rfl) | (simp [*, errW_none, errW_some] <;> rfl), pxb HB⟩
                                ·replace c98 := Bool.eq_false_iff.mpr c98
                                 subst c98
                                 have H1 : (if t185 = true then (caulkerlaw05_NumEdges.j14 kj92 a0 x4 x20_45 t186 t187 true) else (caulkerlaw05_NumEdges.j14 kj92 a0 x4 x20_45 t186 t187 t188)) = some r := by rw [if_neg (show ¬ (false = true) by decide)] at H; exact H
                                 clear H
                                 have H := H1
                                 clear H1
                                 have HC99 := Aside0.mk H
                                 clear H
                                 go_upto_region 38 with (fail)
                                 go_cut [234] (fun v234 wc => ∃ (kq : Nat) (x234_98 : Bool), v234 = .bool x234_98 ∧ Aside0 (caulkerlaw05_NumEdges.j14 kq a0 x4 x20_45 t186 t187 x234_98 = some r) ∧ Aside0 (kq ≤ kj92) ∧ Aside0 (Below w.heap.size w wc))
                                 case first =>
                                  have H := HC99.out
                                  clear HC99
                                  by_cases c100 : t185 = true
                                  ·subst c100
                                   have H1 : (caulkerlaw05_NumEdges.j14 kj92 a0 x4 x20_45 t186 t187 true) = some r := by rw [if_pos rfl] at H; exact H
                                   clear H
                                   have H := H1
                                   clear H1
                                   have H' := Aside0.mk H
                                   clear H
                                   go_wp2
                                   go_meet
                                   case rel => exact ⟨_, (true), (by first | rfl | (simp; done) | (simp [*]; done)), H', ⟨by have := HJ5.out; have := HJ13.out; have := HJ20.out; have := HJ27.out; have := HJ33.out; have := HJ45.out; have := HJ51.out; have := HJ56.out; have := HJ65.out; have := HJ76.out; have := HJ92.out; first | omega | exact Nat.le_refl _⟩, ⟨pxb HB⟩⟩
                                  ·replace c100 := Bool.eq_false_iff.mpr c100
                                   subst c100
                                   have H1 : (caulkerlaw05_NumEdges.j14 kj92 a0 x4 x20_45 t186 t187 t188) = some r := by rw [if_neg (show ¬ (false = true) by decide)] at H; exact H
                                   clear H
                                   have H := H1
                                   clear H1
                                   have H' := Aside0.mk H
                                   clear H
                                   go_wp2
                                   go_meet
                                   case rel => exact ⟨_, (t188), (by first | rfl | (simp; done) | (simp [*]; done)), H', ⟨by have := HJ5.out; have := HJ13.out; have := HJ20.out; have := HJ27.out; have := HJ33.out; have := HJ45.out; have := HJ51.out; have := HJ56.out; have := HJ65.out; have := HJ76.out; have := HJ92.out; first | omega | exact Nat.le_refl _⟩, ⟨pxb HB⟩⟩
                                 case rest => as_aux_lemma =>
                                  clear HC99
                                  (try clear c1); (try clear c2); (try clear p2); (try clear c3); (try clear c4); (try clear c5); (try clear c6); (try clear c7); (try clear c8); (try clear c9); (try clear c9b0); (try clear c9b1); (try clear c10); (try clear c11); (try clear c12); (try clear c16); (try clear c16b0); (try clear c16b1); (try clear c18); (try clear c19); (try clear c20); (try clear c23); (try clear c23b0); (try clear c23b1); (try clear c25); (try clear c26); (try clear c27); (try clear c29); (try clear c30); (try clear c30b0); (try clear c30b1); (try clear c31); (try clear c32); (try clear c33); (try clear c36); (try clear c38); (try clear c39); (try clear c39b0); (try clear c39b1); (try clear c40); (try clear c40b0); (try clear c40b1); (try clear c41); (try clear c41b0); (try clear c41b1); (try clear c42); (try clear c42b0); (try clear c42b1); (try clear c47); (try clear c47b0); (try clear c47b1); (try clear c47b2); (try clear c53); (try clear c54); (try clear c55); (try clear c55b0); (try clear c55b1); (try clear c55b2); (try clear c56); (try clear c58); (try clear c59); (try clear c60); (try clear c60b0); (try clear c60b1); (try clear c61); (try clear c61b0); (try clear c61b1); (try clear c62); (try clear c63); (try clear c63b0); (try clear c63b1); (try clear c65); (try clear c67); (try clear c67b0); (try clear c67b1); (try clear c68); (try clear c69); (try clear c70); (try clear c71); (try clear c71b0); (try clear c71b1); (try clear c72); (try clear c73); (try clear c74); (try clear c75); (try clear c76); (try clear c79); (try clear c80); (try clear c81); (try clear c82); (try clear c83); (try clear c84); (try clear c84b0); (try clear c84b1); (try clear c86); (try clear c87); (try clear c88); (try clear c88b0); (try clear c88b1); (try clear c90); (try clear c91); (try clear c92); (try clear c92b0); (try clear c92b1); (try clear c94); (try clear c95); (try clear c96); (try clear c97); (try clear c98); (try clear c100)
                                  obtain ⟨kq, x234_98, rfl, HA, HJ98, HB⟩ := hcut
                                  cases kq with
                                  | zero => exact absurd HA.out (by simp [caulkerlaw05_NumEdges.j14])
                                  | succ kj98 =>
                                   have H := HA.out
                                   clear HA
                                   simp only [caulkerlaw05_NumEdges.j14] at H
                                   by_cases c101 : x234_98 = true
                                   ·subst c101
                                    have H1 : (some (x4 == (IntKind.u64.wrap (x20_45 + 9218868437227405312)))) = some r := by rw [if_pos rfl] at H; exact H
                                    clear H
                                    have H := H1
                                    clear H1
                                    obtain rfl := Option.some.inj H
                                    go_wp2
                                    go_ret
                                    exact ⟨by first | rfl | (simp [errW_none, errW_some] <;> rfl) | (simp [*, errW_none, errW_some] <;> rfl), pxb HB⟩
                                   ·replace c101 := Bool.eq_false_iff.mpr c101
                                    subst c101
                                    have H1 : (if t186 = true then (caulkerlaw05_NumEdges.j15 kj98 a0 x4 x20_45 true) else (caulkerlaw05_NumEdges.j15 kj98 a0 x4 x20_45 t187)) = some r := by rw [if_neg (show ¬ (false = true) by decide)] at H; exact H
                                    clear H
                                    have H := H1
                                    clear H1
                                    have HC102 := Aside0.mk H
                                    clear H
                                    go_upto_region 40 with (fail)
                                    go_cut [243] (fun v243 wc => ∃ (kq : Nat) (x243_101 : Bool), v243 = .bool x243_101 ∧ Aside0 (caulkerlaw05_NumEdges.j15 kq a0 x4 x20_45 x243_101 = some r) ∧ Aside0 (kq ≤ kj98) ∧ Aside0 (Below w.heap.size w wc))
                                    case first =>
                                     have H := HC102.out
                                     clear HC102
                                     by_cases c103 : t186 = true
                                     ·subst c103
                                      have H1 : (caulkerlaw05_NumEdges.j15 kj98 a0 x4 x20_45 true) = some r := by rw [if_pos rfl] at H; exact H
                                      clear H
                                      have H := H1
                                      clear H1
                                      have H' := Aside0.mk H
                                      clear H
                                      go_wp2
                                      go_meet
                                      case rel => exact ⟨_, (true), (by first | rfl | (simp; done) | (simp [*]; done)), H', ⟨by have := HJ5.out; have := HJ13.out; have := HJ20.out; have := HJ27.out; have := HJ33.out; have := HJ45.out; have := HJ51.out; have := HJ56.out; have := HJ65.out; have := HJ76.out; have := HJ92.out; have := HJ98.out; first | omega | exact Nat.le_refl _⟩, ⟨pxb HB⟩⟩
                                     ·replace c103 := Bool.eq_false_iff.mpr c103
                                      subst c103
                                      have H1 : (caulkerlaw05_NumEdges.j15 kj98 a0 x4 x20_45 t187) = some r := by rw [if_neg (show ¬ (false = true) by decide)] at H; exact H
                                      clear H
                                      have H := H1
                                      clear H1
                                      have H' := Aside0.mk H
                                      clear H
                                      go_wp2
                                      go_meet
                                      case rel => exact ⟨_, (t187), (by first | rfl | (simp; done) | (simp [*]; done)), H', ⟨by have := HJ5.out; have := HJ13.out; have := HJ20.out; have := HJ27.out; have := HJ33.out; have := HJ45.out; have := HJ51.out; have := HJ56.out; have := HJ65.out; have := HJ76.out; have := HJ92.out; have := HJ98.out; first | omega | exact Nat.le_refl _⟩, ⟨pxb HB⟩⟩
                                    case rest => as_aux_lemma =>
                                     clear HC102
                                     (try clear c1); (try clear c2); (try clear p2); (try clear c3); (try clear c4); (try clear c5); (try clear c6); (try clear c7); (try clear c8); (try clear c9); (try clear c9b0); (try clear c9b1); (try clear c10); (try clear c11); (try clear c12); (try clear c16); (try clear c16b0); (try clear c16b1); (try clear c18); (try clear c19); (try clear c20); (try clear c23); (try clear c23b0); (try clear c23b1); (try clear c25); (try clear c26); (try clear c27); (try clear c29); (try clear c30); (try clear c30b0); (try clear c30b1); (try clear c31); (try clear c32); (try clear c33); (try clear c36); (try clear c38); (try clear c39); (try clear c39b0); (try clear c39b1); (try clear c40); (try clear c40b0); (try clear c40b1); (try clear c41); (try clear c41b0); (try clear c41b1); (try clear c42); (try clear c42b0); (try clear c42b1); (try clear c47); (try clear c47b0); (try clear c47b1); (try clear c47b2); (try clear c53); (try clear c54); (try clear c55); (try clear c55b0); (try clear c55b1); (try clear c55b2); (try clear c56); (try clear c58); (try clear c59); (try clear c60); (try clear c60b0); (try clear c60b1); (try clear c61); (try clear c61b0); (try clear c61b1); (try clear c62); (try clear c63); (try clear c63b0); (try clear c63b1); (try clear c65); (try clear c67); (try clear c67b0); (try clear c67b1); (try clear c68); (try clear c69); (try clear c70); (try clear c71); (try clear c71b0); (try clear c71b1); (try clear c72); (try clear c73); (try clear c74); (try clear c75); (try clear c76); (try clear c79); (try clear c80); (try clear c81); (try clear c82); (try clear c83); (try clear c84); (try clear c84b0); (try clear c84b1); (try clear c86); (try clear c87); (try clear c88); (try clear c88b0); (try clear c88b1); (try clear c90); (try clear c91); (try clear c92); (try clear c92b0); (try clear c92b1); (try clear c94); (try clear c95); (try clear c96); (try clear c97); (try clear c98); (try clear c100); (try clear c101); (try clear c103)
                                     obtain ⟨kq, x243_101, rfl, HA, HJ101, HB⟩ := hcut
                                     cases kq with
                                     | zero => exact absurd HA.out (by simp [caulkerlaw05_NumEdges.j15])
                                     | succ kj101 =>
                                      have H := HA.out
                                      clear HA
                                      simp only [caulkerlaw05_NumEdges.j15] at H
                                      by_cases c104 : x243_101 = true
                                      ·subst c104
                                       have H1 : (some (x4 == x20_45)) = some r := by rw [if_pos rfl] at H; exact H
                                       clear H
                                       have H := H1
                                       clear H1
                                       obtain rfl := Option.some.inj H
                                       go_wp2
                                       go_ret
                                       exact ⟨by first | rfl | (simp [errW_none, errW_some] <;> rfl) | (simp [*, errW_none, errW_some] <;> rfl), pxb HB⟩
                                      ·replace c104 := Bool.eq_false_iff.mpr c104
                                       subst c104
                                       have H1 : ((num_FloatNeg.f a0).bind fun t190 => ((num_FloatNeg.f t190).bind fun t191 => (some (t191 == a0)))) = some r := by rw [if_neg (show ¬ (false = true) by decide)] at H; exact H
                                       clear H
                                       have H := H1
                                       clear H1
                                       replace H := Option.bind_eq_some_iff.mp H
                                       obtain ⟨t190, A1050, H⟩ := H
                                       replace H : ((num_FloatNeg.f t190).bind fun t191 => (some (t191 == a0))) = some r := H
                                       have A105 := Aside0.mk A1050
                                       clear A1050
                                       replace H := Option.bind_eq_some_iff.mp H
                                       obtain ⟨t191, A1060, H⟩ := H
                                       replace H : (some (t191 == a0)) = some r := H
                                       have A106 := Aside0.mk A1060
                                       clear A1060
                                       obtain rfl := Option.some.inj H
                                       go_wp2_with (first | ((with_reducible refine gate_callee (f := 28) rfl ?_); refine goesL_ (some 252) rfl rfl Tryd.func28 (by kernel_rfl) rfl #[.int .u64 a0] rfl (by (try simp only [List.map_toArray, List.map_cons, List.map_nil]); first | done | rfl | (simp only [List.length_drop, List.length_take]; rfl)) ?_; (with_reducible refine (num_FloatNeg.calls a0 t190 _ A105.out).mono ?_); rintro e w' ⟨rfl, ⟨nd, rfl⟩⟩; refine ⟨_, rfl, ?_⟩) | ((with_reducible refine gate_callee (f := 28) rfl ?_); refine goesL_ (some 253) rfl rfl Tryd.func28 (by kernel_rfl) rfl #[.int .u64 t190] rfl (by (try simp only [List.map_toArray, List.map_cons, List.map_nil]); first | done | rfl | (simp only [List.length_drop, List.length_take]; rfl)) ?_; (with_reducible refine (num_FloatNeg.calls t190 t191 _ A106.out).mono ?_); rintro e w' ⟨rfl, ⟨nd, rfl⟩⟩; refine ⟨_, rfl, ?_⟩))
                                       go_ret
                                       exact ⟨by first | rfl | (simp [errW_none, errW_some] <;> rfl) | (simp [*, errW_none, errW_some] <;> rfl), pxb HB⟩
end Go.Proofs.YtbnopcndjdpnkaaDoor.X
