/- What the program's functions answer, as Lean functions, and that each call does just that; no condition. Written by a program (px.py) out of the translation. -/
import Derived.Test.YtbnopcndjdpnkaaDoorX0
import Derived.Test.YtbnopcndjdpnkaaDoorM23
import Derived.Test.YtbnopcndjdpnkaaDoorX10
import Derived.Test.YtbnopcndjdpnkaaDoorX28
import Derived.Test.YtbnopcndjdpnkaaDoorLexW
namespace Go.Proofs.YtbnopcndjdpnkaaDoor.X
open Go.RowKit Go.Proofs.YtbnopcndjdpnkaaDoorW.PrintWords Go.Proofs.YtbnopcndjdpnkaaDoorW.PrintLast Go.Proofs.YtbnopcndjdpnkaaDoorW.PrintMore
attribute [local go_sem] max2_int min2_int max_two min_two max_three min_three max_four min_four   -- for this text's walks alone
set_option linter.unusedVariables false
set_option linter.unusedSimpArgs false

/-! ### caulkerlaw05_NumLaws: function 9 -/
/-- Are a double, by its bits, and a whole number as a double the same? -/
def caulkerlaw05_NumLaws.eq (t u : Int) : Bool := NuW.fEq t.toNat (floatOfInt .f64 u)
theorem caulkerlaw05_NumLaws.nn {s : ByteArray} {a b r1 r2 : Int} (h : num_FloatOp.f s a b = some (r1, r2)) : 0 ≤ r1 := by
  unfold num_FloatOp.f LexW.fOp at h
  repeat' split at h
  all_goals first
  | (cases h; done)
  | (cases h; omega)
def caulkerlaw05_NumLaws.j0 : Nat → Bool → Int → Int → Option (Bool)
 | 0, _, _, _ => none
 | k + 1, x76, x158000, x158001 => if x76 = true then (none) else ((num_ToFloat.f (wrap64 (x158000))).bind fun t172 => ((num_ToFloat.f (wrap64 (x158001))).bind fun t173 => ((num_FloatOp.f (⟨#[43]⟩ : ByteArray) t172 t173).bind fun bt174 => ((num_ToFloat.f (Int.tmod (wrap64 (x158000)) 1000000)).bind fun t176 => ((num_ToFloat.f (Int.tmod (wrap64 (x158001)) 1000000)).bind fun t177 => ((num_FloatOp.f (⟨#[42]⟩ : ByteArray) t176 t177).bind fun bt178 => ((num_ToFloat.f (wrap64 ((wrap64 (x158000)) + (wrap64 (x158001))))).bind fun t180 => (if bt174.1 = t180 then ((num_ToInt.f bt178.1).bind fun t181 => (if t181 = (wrap64 ((Int.tmod (wrap64 (x158000)) 1000000) * (Int.tmod (wrap64 (x158001)) 1000000))) then (some (caulkerlaw05_NumLaws.eq (bt174.1) (wrap64 ((wrap64 (x158000)) + (wrap64 (x158001)))))) else (none))) else (none)))))))))
def caulkerlaw05_NumLaws.f (k : Nat) (a0 : Int) (a1 : Int) (a2_0 : Int) (a2_1 : Int) : Option (Bool) := (caulkerlaw05_reckons.f k).bind fun t158 => (if t158 = true then ((num_FloatOp.f (⟨#[43]⟩ : ByteArray) a0 a1).bind fun bt159 => ((num_FloatOp.f (⟨#[43]⟩ : ByteArray) a1 a0).bind fun bt161 => ((num_FloatOp.f (⟨#[42]⟩ : ByteArray) a0 a1).bind fun bt163 => ((num_FloatOp.f (⟨#[42]⟩ : ByteArray) a1 a0).bind fun bt165 => ((num_FloatOp.f (⟨#[45]⟩ : ByteArray) a0 a1).bind fun bt167 => ((num_FloatNeg.f a1).bind fun t169 => ((num_FloatOp.f (⟨#[43]⟩ : ByteArray) a0 t169).bind fun bt170 => (if bt159.1 = bt161.1 then (if bt163.1 = bt165.1 then (caulkerlaw05_NumLaws.j0 k (bt167.1 != bt170.1) a2_0 a2_1) else (caulkerlaw05_NumLaws.j0 k true a2_0 a2_1)) else (caulkerlaw05_NumLaws.j0 k true a2_0 a2_1))))))))) else (none))
theorem caulkerlaw05_NumLaws.mono_l : ∀ k, (∀ y0 y1 y2, LeO (caulkerlaw05_NumLaws.j0 k y0 y1 y2) (caulkerlaw05_NumLaws.j0 (k + 1) y0 y1 y2))
 | 0 => fun _ _ _ r h => by simp [caulkerlaw05_NumLaws.j0] at h
 | k + 1 => by
  have ih0 := caulkerlaw05_NumLaws.mono_l k
  ·intro y0 y1 y2
   unfold caulkerlaw05_NumLaws.j0
   repeat' first
   | (with_reducible exact ih0 _ _ _)
   | (with_reducible exact caulkerlaw05_reckons.mono _)
   | (with_reducible exact LeO.refl _)
   | (with_reducible exact LeO.none _)
   | (with_reducible refine LeO.ite ?_ ?_)
   | (with_reducible refine LeO.bind ?_ (fun _ => ?_))
   | exact ih0 _ _ _
   | exact caulkerlaw05_reckons.mono _
   | exact LeO.none _
   | refine LeO.ite ?_ ?_
   | refine LeO.bind ?_ (fun _ => ?_)
theorem caulkerlaw05_NumLaws.mono : ∀ a0 a1 a2 a3 k, LeO (caulkerlaw05_NumLaws.f k a0 a1 a2 a3) (caulkerlaw05_NumLaws.f (k + 1) a0 a1 a2 a3) := by
 intro a0 a1 a2 a3 k
 have ih0 := caulkerlaw05_NumLaws.mono_l k
 unfold caulkerlaw05_NumLaws.f
 repeat' first
   | (with_reducible exact ih0 _ _ _)
   | (with_reducible exact caulkerlaw05_reckons.mono _)
   | (with_reducible exact LeO.refl _)
   | (with_reducible exact LeO.none _)
   | (with_reducible refine LeO.ite ?_ ?_)
   | (with_reducible refine LeO.bind ?_ (fun _ => ?_))
   | exact ih0 _ _ _
   | exact caulkerlaw05_reckons.mono _
   | exact LeO.none _
   | refine LeO.ite ?_ ?_
   | refine LeO.bind ?_ (fun _ => ?_)
set_option maxHeartbeats 8000000 in
set_option maxRecDepth 100000 in
theorem caulkerlaw05_NumLaws.calls (k : Nat) (a0 : Int) (a1 : Int) (a2_0 : Int) (a2_1 : Int) (r : Bool) (w : World) (h : caulkerlaw05_NumLaws.f k a0 a1 a2_0 a2_1 = some r) (hgv : LexW.GV w) :
  Calls Tryd.prog 9 #[.int .u64 a0, .int .u64 a1, .agg #[.int .i32 a2_0, .int .i32 a2_1]] w fun e w' => e = .returned (.bool r) ∧ Below w.heap.size w w' := by
 have HGV := Aside0.mk hgv
 clear hgv
 have hu52 := Tryd.underlying52
 have HB := Aside0.mk (Below.refl w.heap.size w)
 have H : ((caulkerlaw05_reckons.f k).bind fun t158 => (if t158 = true then ((num_FloatOp.f (⟨#[43]⟩ : ByteArray) a0 a1).bind fun bt159 => ((num_FloatOp.f (⟨#[43]⟩ : ByteArray) a1 a0).bind fun bt161 => ((num_FloatOp.f (⟨#[42]⟩ : ByteArray) a0 a1).bind fun bt163 => ((num_FloatOp.f (⟨#[42]⟩ : ByteArray) a1 a0).bind fun bt165 => ((num_FloatOp.f (⟨#[45]⟩ : ByteArray) a0 a1).bind fun bt167 => ((num_FloatNeg.f a1).bind fun t169 => ((num_FloatOp.f (⟨#[43]⟩ : ByteArray) a0 t169).bind fun bt170 => (if bt159.1 = bt161.1 then (if bt163.1 = bt165.1 then (caulkerlaw05_NumLaws.j0 k (bt167.1 != bt170.1) a2_0 a2_1) else (caulkerlaw05_NumLaws.j0 k true a2_0 a2_1)) else (caulkerlaw05_NumLaws.j0 k true a2_0 a2_1))))))))) else (none))) = some r := h
 clear h
 replace H := Option.bind_eq_some_iff.mp H
 obtain ⟨t158, A40, H⟩ := H
 replace H : (if t158 = true then ((num_FloatOp.f (⟨#[43]⟩ : ByteArray) a0 a1).bind fun bt159 => ((num_FloatOp.f (⟨#[43]⟩ : ByteArray) a1 a0).bind fun bt161 => ((num_FloatOp.f (⟨#[42]⟩ : ByteArray) a0 a1).bind fun bt163 => ((num_FloatOp.f (⟨#[42]⟩ : ByteArray) a1 a0).bind fun bt165 => ((num_FloatOp.f (⟨#[45]⟩ : ByteArray) a0 a1).bind fun bt167 => ((num_FloatNeg.f a1).bind fun t169 => ((num_FloatOp.f (⟨#[43]⟩ : ByteArray) a0 t169).bind fun bt170 => (if bt159.1 = bt161.1 then (if bt163.1 = bt165.1 then (caulkerlaw05_NumLaws.j0 k (bt167.1 != bt170.1) a2_0 a2_1) else (caulkerlaw05_NumLaws.j0 k true a2_0 a2_1)) else (caulkerlaw05_NumLaws.j0 k true a2_0 a2_1))))))))) else (none)) = some r := H
 have A4 := Aside0.mk A40
 clear A40
 by_cases c5 : t158 = true
 ·subst c5
  have H1 : ((num_FloatOp.f (⟨#[43]⟩ : ByteArray) a0 a1).bind fun bt159 => ((num_FloatOp.f (⟨#[43]⟩ : ByteArray) a1 a0).bind fun bt161 => ((num_FloatOp.f (⟨#[42]⟩ : ByteArray) a0 a1).bind fun bt163 => ((num_FloatOp.f (⟨#[42]⟩ : ByteArray) a1 a0).bind fun bt165 => ((num_FloatOp.f (⟨#[45]⟩ : ByteArray) a0 a1).bind fun bt167 => ((num_FloatNeg.f a1).bind fun t169 => ((num_FloatOp.f (⟨#[43]⟩ : ByteArray) a0 t169).bind fun bt170 => (if bt159.1 = bt161.1 then (if bt163.1 = bt165.1 then (caulkerlaw05_NumLaws.j0 k (bt167.1 != bt170.1) a2_0 a2_1) else (caulkerlaw05_NumLaws.j0 k true a2_0 a2_1)) else (caulkerlaw05_NumLaws.j0 k true a2_0 a2_1))))))))) = some r := by rw [if_pos rfl] at H; exact H
  clear H
  have H := H1
  clear H1
  replace H := Option.bind_eq_some_iff.mp H
  obtain ⟨⟨t159, t160⟩, A60, H⟩ := H
  replace H : ((num_FloatOp.f (⟨#[43]⟩ : ByteArray) a1 a0).bind fun bt161 => ((num_FloatOp.f (⟨#[42]⟩ : ByteArray) a0 a1).bind fun bt163 => ((num_FloatOp.f (⟨#[42]⟩ : ByteArray) a1 a0).bind fun bt165 => ((num_FloatOp.f (⟨#[45]⟩ : ByteArray) a0 a1).bind fun bt167 => ((num_FloatNeg.f a1).bind fun t169 => ((num_FloatOp.f (⟨#[43]⟩ : ByteArray) a0 t169).bind fun bt170 => (if t159 = bt161.1 then (if bt163.1 = bt165.1 then (caulkerlaw05_NumLaws.j0 k (bt167.1 != bt170.1) a2_0 a2_1) else (caulkerlaw05_NumLaws.j0 k true a2_0 a2_1)) else (caulkerlaw05_NumLaws.j0 k true a2_0 a2_1)))))))) = some r := H
  have A6 := Aside0.mk A60
  clear A60
  replace H := Option.bind_eq_some_iff.mp H
  obtain ⟨⟨t161, t162⟩, A70, H⟩ := H
  replace H : ((num_FloatOp.f (⟨#[42]⟩ : ByteArray) a0 a1).bind fun bt163 => ((num_FloatOp.f (⟨#[42]⟩ : ByteArray) a1 a0).bind fun bt165 => ((num_FloatOp.f (⟨#[45]⟩ : ByteArray) a0 a1).bind fun bt167 => ((num_FloatNeg.f a1).bind fun t169 => ((num_FloatOp.f (⟨#[43]⟩ : ByteArray) a0 t169).bind fun bt170 => (if t159 = t161 then (if bt163.1 = bt165.1 then (caulkerlaw05_NumLaws.j0 k (bt167.1 != bt170.1) a2_0 a2_1) else (caulkerlaw05_NumLaws.j0 k true a2_0 a2_1)) else (caulkerlaw05_NumLaws.j0 k true a2_0 a2_1))))))) = some r := H
  have A7 := Aside0.mk A70
  clear A70
  replace H := Option.bind_eq_some_iff.mp H
  obtain ⟨⟨t163, t164⟩, A80, H⟩ := H
  replace H : ((num_FloatOp.f (⟨#[42]⟩ : ByteArray) a1 a0).bind fun bt165 => ((num_FloatOp.f (⟨#[45]⟩ : ByteArray) a0 a1).bind fun bt167 => ((num_FloatNeg.f a1).bind fun t169 => ((num_FloatOp.f (⟨#[43]⟩ : ByteArray) a0 t169).bind fun bt170 => (if t159 = t161 then (if t163 = bt165.1 then (caulkerlaw05_NumLaws.j0 k (bt167.1 != bt170.1) a2_0 a2_1) else (caulkerlaw05_NumLaws.j0 k true a2_0 a2_1)) else (caulkerlaw05_NumLaws.j0 k true a2_0 a2_1)))))) = some r := H
  have A8 := Aside0.mk A80
  clear A80
  replace H := Option.bind_eq_some_iff.mp H
  obtain ⟨⟨t165, t166⟩, A90, H⟩ := H
  replace H : ((num_FloatOp.f (⟨#[45]⟩ : ByteArray) a0 a1).bind fun bt167 => ((num_FloatNeg.f a1).bind fun t169 => ((num_FloatOp.f (⟨#[43]⟩ : ByteArray) a0 t169).bind fun bt170 => (if t159 = t161 then (if t163 = t165 then (caulkerlaw05_NumLaws.j0 k (bt167.1 != bt170.1) a2_0 a2_1) else (caulkerlaw05_NumLaws.j0 k true a2_0 a2_1)) else (caulkerlaw05_NumLaws.j0 k true a2_0 a2_1))))) = some r := H
  have A9 := Aside0.mk A90
  clear A90
  replace H := Option.bind_eq_some_iff.mp H
  obtain ⟨⟨t167, t168⟩, A100, H⟩ := H
  replace H : ((num_FloatNeg.f a1).bind fun t169 => ((num_FloatOp.f (⟨#[43]⟩ : ByteArray) a0 t169).bind fun bt170 => (if t159 = t161 then (if t163 = t165 then (caulkerlaw05_NumLaws.j0 k (t167 != bt170.1) a2_0 a2_1) else (caulkerlaw05_NumLaws.j0 k true a2_0 a2_1)) else (caulkerlaw05_NumLaws.j0 k true a2_0 a2_1)))) = some r := H
  have A10 := Aside0.mk A100
  clear A100
  replace H := Option.bind_eq_some_iff.mp H
  obtain ⟨t169, A110, H⟩ := H
  replace H : ((num_FloatOp.f (⟨#[43]⟩ : ByteArray) a0 t169).bind fun bt170 => (if t159 = t161 then (if t163 = t165 then (caulkerlaw05_NumLaws.j0 k (t167 != bt170.1) a2_0 a2_1) else (caulkerlaw05_NumLaws.j0 k true a2_0 a2_1)) else (caulkerlaw05_NumLaws.j0 k true a2_0 a2_1))) = some r := H
  have A11 := Aside0.mk A110
  clear A110
  replace H := Option.bind_eq_some_iff.mp H
  obtain ⟨⟨t170, t171⟩, A120, H⟩ := H
  replace H : (if t159 = t161 then (if t163 = t165 then (caulkerlaw05_NumLaws.j0 k (t167 != t170) a2_0 a2_1) else (caulkerlaw05_NumLaws.j0 k true a2_0 a2_1)) else (caulkerlaw05_NumLaws.j0 k true a2_0 a2_1)) = some r := H
  have A12 := Aside0.mk A120
  clear A120
  have HC13 := Aside0.mk H
  clear H
  go_enter Tryd.func9, Tryd.ntmps9
  go_upto_region 9 with (first | ((with_reducible refine gate_dst (N := 5) rfl ?_); refine box_event ?hg (N := 5) ?hd (cs := #[.int .i32 a2_0, .int .i32 a2_1]) (t := 52) ?hr ?_; (case hd => rfl); (case hg => rfl); (case hr => first | (go_simp; done) | (go_simp; rfl)); intro gb157 hg w14 hbox hb; have n0_ := pxs HB hb; have n1_ := Aside0.mk (hbox); have n2_ := Aside0.mk ((by rw [hg]; exact (below_size (pxb HB)) : w.heap.size ≤ gb157)); have n3_ := Aside0.mk ((by rw [hg]; exact (below_size (pxb HB)) : w.heap.size ≤ gb157)); clear HB; have HB := n0_; have BK157 := n1_; have GW157 := n2_; have GE157 := n3_; clear n0_ n1_ n2_ n3_; clear hb hbox hg) | (go_at_call 10; (with_reducible refine (caulkerlaw05_reckons.calls k  true _ A4.out ?gv).mono ?_); (case gv => first | exact LexW.GV.later HGV.out (pxb HB) | (repeat (first | exact HGV.out | apply LexW.GV.drewN))); rintro e w15 ⟨rfl, hb⟩; have n0_ := pxk BK157 hb; have n1_ := pxs HB hb; clear BK157; clear HB; have BK157 := n0_; have HB := n1_; clear n0_ n1_; (try clear hb); (try clear hb2); (try clear hk); (try clear hi)) | (go_at_call 27; (with_reducible refine (num_FloatOp.calls (⟨#[43]⟩ : ByteArray) a0 a1 t159 t160 _ A6.out).mono ?_); rintro e w16 ⟨rfl, hb⟩; have n0_ := pxk BK157 hb; have n1_ := pxs HB hb; clear BK157; clear HB; have BK157 := n0_; have HB := n1_; clear n0_ n1_; (try clear hb); (try clear hb2); (try clear hk); (try clear hi)) | (go_at_call 27; (with_reducible refine (num_FloatOp.calls (⟨#[43]⟩ : ByteArray) a1 a0 t161 t162 _ A7.out).mono ?_); rintro e w17 ⟨rfl, hb⟩; have n0_ := pxk BK157 hb; have n1_ := pxs HB hb; clear BK157; clear HB; have BK157 := n0_; have HB := n1_; clear n0_ n1_; (try clear hb); (try clear hb2); (try clear hk); (try clear hi)) | (go_at_call 27; (with_reducible refine (num_FloatOp.calls (⟨#[42]⟩ : ByteArray) a0 a1 t163 t164 _ A8.out).mono ?_); rintro e w18 ⟨rfl, hb⟩; have n0_ := pxk BK157 hb; have n1_ := pxs HB hb; clear BK157; clear HB; have BK157 := n0_; have HB := n1_; clear n0_ n1_; (try clear hb); (try clear hb2); (try clear hk); (try clear hi)) | (go_at_call 27; (with_reducible refine (num_FloatOp.calls (⟨#[42]⟩ : ByteArray) a1 a0 t165 t166 _ A9.out).mono ?_); rintro e w19 ⟨rfl, hb⟩; have n0_ := pxk BK157 hb; have n1_ := pxs HB hb; clear BK157; clear HB; have BK157 := n0_; have HB := n1_; clear n0_ n1_; (try clear hb); (try clear hb2); (try clear hk); (try clear hi)) | (go_at_call 27; (with_reducible refine (num_FloatOp.calls (⟨#[45]⟩ : ByteArray) a0 a1 t167 t168 _ A10.out).mono ?_); rintro e w20 ⟨rfl, hb⟩; have n0_ := pxk BK157 hb; have n1_ := pxs HB hb; clear BK157; clear HB; have BK157 := n0_; have HB := n1_; clear n0_ n1_; (try clear hb); (try clear hb2); (try clear hk); (try clear hi)) | (go_at_call 28; (with_reducible refine (num_FloatNeg.calls a1 t169 _ A11.out).mono ?_); rintro e w' ⟨rfl, ⟨nd, rfl⟩⟩; (try first | exact ⟨rfl, _, World.drewN_drewN _ _ _⟩ | exact ⟨rfl, _, Eq.trans (World.drewN_drewN _ _ _) (congrArg (World.drewN _) (Nat.add_assoc _ _ _))⟩)) | (go_at_call 27; (with_reducible refine (num_FloatOp.calls (⟨#[43]⟩ : ByteArray) a0 t169 t170 t171 _ A12.out).mono ?_); rintro e w21 ⟨rfl, hb⟩; have n0_ := pxk BK157 hb; have n1_ := pxs HB hb; clear BK157; clear HB; have BK157 := n0_; have HB := n1_; clear n0_ n1_; (try clear hb); (try clear hb2); (try clear hk); (try clear hi)))
  repeat (go_quiet (first | ((with_reducible refine gate_dst (N := 5) rfl ?_); refine box_event ?hg (N := 5) ?hd (cs := #[.int .i32 a2_0, .int .i32 a2_1]) (t := 52) ?hr ?_; (case hd => rfl); (case hg => rfl); (case hr => first | (go_simp; done) | (go_simp; rfl)); intro gb157 hg w14 hbox hb; have n0_ := pxs HB hb; have n1_ := Aside0.mk (hbox); have n2_ := Aside0.mk ((by rw [hg]; exact (below_size (pxb HB)) : w.heap.size ≤ gb157)); have n3_ := Aside0.mk ((by rw [hg]; exact (below_size (pxb HB)) : w.heap.size ≤ gb157)); clear HB; have HB := n0_; have BK157 := n1_; have GW157 := n2_; have GE157 := n3_; clear n0_ n1_ n2_ n3_; clear hb hbox hg) | (go_at_call 10; (with_reducible refine (caulkerlaw05_reckons.calls k  true _ A4.out ?gv).mono ?_); (case gv => first | exact LexW.GV.later HGV.out (pxb HB) | (repeat (first | exact HGV.out | apply LexW.GV.drewN))); rintro e w15 ⟨rfl, hb⟩; have n0_ := pxk BK157 hb; have n1_ := pxs HB hb; clear BK157; clear HB; have BK157 := n0_; have HB := n1_; clear n0_ n1_; (try clear hb); (try clear hb2); (try clear hk); (try clear hi)) | (go_at_call 27; (with_reducible refine (num_FloatOp.calls (⟨#[43]⟩ : ByteArray) a0 a1 t159 t160 _ A6.out).mono ?_); rintro e w16 ⟨rfl, hb⟩; have n0_ := pxk BK157 hb; have n1_ := pxs HB hb; clear BK157; clear HB; have BK157 := n0_; have HB := n1_; clear n0_ n1_; (try clear hb); (try clear hb2); (try clear hk); (try clear hi)) | (go_at_call 27; (with_reducible refine (num_FloatOp.calls (⟨#[43]⟩ : ByteArray) a1 a0 t161 t162 _ A7.out).mono ?_); rintro e w17 ⟨rfl, hb⟩; have n0_ := pxk BK157 hb; have n1_ := pxs HB hb; clear BK157; clear HB; have BK157 := n0_; have HB := n1_; clear n0_ n1_; (try clear hb); (try clear hb2); (try clear hk); (try clear hi)) | (go_at_call 27; (with_reducible refine (num_FloatOp.calls (⟨#[42]⟩ : ByteArray) a0 a1 t163 t164 _ A8.out).mono ?_); rintro e w18 ⟨rfl, hb⟩; have n0_ := pxk BK157 hb; have n1_ := pxs HB hb; clear BK157; clear HB; have BK157 := n0_; have HB := n1_; clear n0_ n1_; (try clear hb); (try clear hb2); (try clear hk); (try clear hi)) | (go_at_call 27; (with_reducible refine (num_FloatOp.calls (⟨#[42]⟩ : ByteArray) a1 a0 t165 t166 _ A9.out).mono ?_); rintro e w19 ⟨rfl, hb⟩; have n0_ := pxk BK157 hb; have n1_ := pxs HB hb; clear BK157; clear HB; have BK157 := n0_; have HB := n1_; clear n0_ n1_; (try clear hb); (try clear hb2); (try clear hk); (try clear hi)) | (go_at_call 27; (with_reducible refine (num_FloatOp.calls (⟨#[45]⟩ : ByteArray) a0 a1 t167 t168 _ A10.out).mono ?_); rintro e w20 ⟨rfl, hb⟩; have n0_ := pxk BK157 hb; have n1_ := pxs HB hb; clear BK157; clear HB; have BK157 := n0_; have HB := n1_; clear n0_ n1_; (try clear hb); (try clear hb2); (try clear hk); (try clear hi)) | (go_at_call 28; (with_reducible refine (num_FloatNeg.calls a1 t169 _ A11.out).mono ?_); rintro e w' ⟨rfl, ⟨nd, rfl⟩⟩; (try first | exact ⟨rfl, _, World.drewN_drewN _ _ _⟩ | exact ⟨rfl, _, Eq.trans (World.drewN_drewN _ _ _) (congrArg (World.drewN _) (Nat.add_assoc _ _ _))⟩)) | (go_at_call 27; (with_reducible refine (num_FloatOp.calls (⟨#[43]⟩ : ByteArray) a0 t169 t170 t171 _ A12.out).mono ?_); rintro e w21 ⟨rfl, hb⟩; have n0_ := pxk BK157 hb; have n1_ := pxs HB hb; clear BK157; clear HB; have BK157 := n0_; have HB := n1_; clear n0_ n1_; (try clear hb); (try clear hb2); (try clear hk); (try clear hi))); go_upto_region 9 with (first | ((with_reducible refine gate_dst (N := 5) rfl ?_); refine box_event ?hg (N := 5) ?hd (cs := #[.int .i32 a2_0, .int .i32 a2_1]) (t := 52) ?hr ?_; (case hd => rfl); (case hg => rfl); (case hr => first | (go_simp; done) | (go_simp; rfl)); intro gb157 hg w14 hbox hb; have n0_ := pxs HB hb; have n1_ := Aside0.mk (hbox); have n2_ := Aside0.mk ((by rw [hg]; exact (below_size (pxb HB)) : w.heap.size ≤ gb157)); have n3_ := Aside0.mk ((by rw [hg]; exact (below_size (pxb HB)) : w.heap.size ≤ gb157)); clear HB; have HB := n0_; have BK157 := n1_; have GW157 := n2_; have GE157 := n3_; clear n0_ n1_ n2_ n3_; clear hb hbox hg) | (go_at_call 10; (with_reducible refine (caulkerlaw05_reckons.calls k  true _ A4.out ?gv).mono ?_); (case gv => first | exact LexW.GV.later HGV.out (pxb HB) | (repeat (first | exact HGV.out | apply LexW.GV.drewN))); rintro e w15 ⟨rfl, hb⟩; have n0_ := pxk BK157 hb; have n1_ := pxs HB hb; clear BK157; clear HB; have BK157 := n0_; have HB := n1_; clear n0_ n1_; (try clear hb); (try clear hb2); (try clear hk); (try clear hi)) | (go_at_call 27; (with_reducible refine (num_FloatOp.calls (⟨#[43]⟩ : ByteArray) a0 a1 t159 t160 _ A6.out).mono ?_); rintro e w16 ⟨rfl, hb⟩; have n0_ := pxk BK157 hb; have n1_ := pxs HB hb; clear BK157; clear HB; have BK157 := n0_; have HB := n1_; clear n0_ n1_; (try clear hb); (try clear hb2); (try clear hk); (try clear hi)) | (go_at_call 27; (with_reducible refine (num_FloatOp.calls (⟨#[43]⟩ : ByteArray) a1 a0 t161 t162 _ A7.out).mono ?_); rintro e w17 ⟨rfl, hb⟩; have n0_ := pxk BK157 hb; have n1_ := pxs HB hb; clear BK157; clear HB; have BK157 := n0_; have HB := n1_; clear n0_ n1_; (try clear hb); (try clear hb2); (try clear hk); (try clear hi)) | (go_at_call 27; (with_reducible refine (num_FloatOp.calls (⟨#[42]⟩ : ByteArray) a0 a1 t163 t164 _ A8.out).mono ?_); rintro e w18 ⟨rfl, hb⟩; have n0_ := pxk BK157 hb; have n1_ := pxs HB hb; clear BK157; clear HB; have BK157 := n0_; have HB := n1_; clear n0_ n1_; (try clear hb); (try clear hb2); (try clear hk); (try clear hi)) | (go_at_call 27; (with_reducible refine (num_FloatOp.calls (⟨#[42]⟩ : ByteArray) a1 a0 t165 t166 _ A9.out).mono ?_); rintro e w19 ⟨rfl, hb⟩; have n0_ := pxk BK157 hb; have n1_ := pxs HB hb; clear BK157; clear HB; have BK157 := n0_; have HB := n1_; clear n0_ n1_; (try clear hb); (try clear hb2); (try clear hk); (try clear hi)) | (go_at_call 27; (with_reducible refine (num_FloatOp.calls (⟨#[45]⟩ : ByteArray) a0 a1 t167 t168 _ A10.out).mono ?_); rintro e w20 ⟨rfl, hb⟩; have n0_ := pxk BK157 hb; have n1_ := pxs HB hb; clear BK157; clear HB; have BK157 := n0_; have HB := n1_; clear n0_ n1_; (try clear hb); (try clear hb2); (try clear hk); (try clear hi)) | (go_at_call 28; (with_reducible refine (num_FloatNeg.calls a1 t169 _ A11.out).mono ?_); rintro e w' ⟨rfl, ⟨nd, rfl⟩⟩; (try first | exact ⟨rfl, _, World.drewN_drewN _ _ _⟩ | exact ⟨rfl, _, Eq.trans (World.drewN_drewN _ _ _) (congrArg (World.drewN _) (Nat.add_assoc _ _ _))⟩)) | (go_at_call 27; (with_reducible refine (num_FloatOp.calls (⟨#[43]⟩ : ByteArray) a0 t169 t170 t171 _ A12.out).mono ?_); rintro e w21 ⟨rfl, hb⟩; have n0_ := pxk BK157 hb; have n1_ := pxs HB hb; clear BK157; clear HB; have BK157 := n0_; have HB := n1_; clear n0_ n1_; (try clear hb); (try clear hb2); (try clear hk); (try clear hi))))
  (try simp only [Act.put, List.setIfInBounds_toArray, List.set_cons_zero, List.set_cons_succ])
  go_cut [76] (fun v76 wc => ∃ (kq : Nat) (x76_12 : Bool), v76 = .bool x76_12 ∧ Aside0 (caulkerlaw05_NumLaws.j0 kq x76_12 a2_0 a2_1 = some r) ∧ Aside0 (kq ≤ k) ∧ Aside0 (wc.heap[gb157]? = some (.cells #[.int .i32 a2_0, .int .i32 a2_1] 52 (0, 0))) ∧ Aside0 (Below w.heap.size w wc))
  case first =>
   have H := HC13.out
   clear HC13
   by_cases c22 : t159 = t161
   ·rw [if_pos c22] at H
    have c22b0 : (t159 == t161) = true := beq_iff_eq.mpr c22
    have c22b1 : (t159 != t161) = false := bne_eq_false_iff_eq.mpr c22
    clear c22
    (first | rw [c22b0] | (simp only [i64_w, i32_w]; rw [c22b0]) | skip)
    by_cases c23 : t163 = t165
    ·rw [if_pos c23] at H
     have c23b0 : (t163 == t165) = true := beq_iff_eq.mpr c23
     have c23b1 : (t163 != t165) = false := bne_eq_false_iff_eq.mpr c23
     clear c23
     have H' := Aside0.mk H
     clear H
     go_wp2
     repeat (go_quiet (fail); try go_wp2)
     go_meet
     case rel => exact ⟨_, ((t167 != t170)), (by first | rfl | (simp; done) | (simp [*]; done)), H', ⟨by first | omega | exact Nat.le_refl _⟩, ⟨pxq BK157⟩, ⟨pxb HB⟩⟩
    ·rw [if_neg c23] at H
     have c23b0 : (t163 == t165) = false := beq_eq_false_iff_ne.mpr c23
     have c23b1 : (t163 != t165) = true := bne_iff_ne.mpr c23
     have H' := Aside0.mk H
     clear H
     go_wp2
     repeat (go_quiet (fail); try go_wp2)
     go_meet
     case rel => exact ⟨_, (true), (by first | rfl | (simp; done) | (simp [*]; done)), H', ⟨by first | omega | exact Nat.le_refl _⟩, ⟨pxq BK157⟩, ⟨pxb HB⟩⟩
   ·rw [if_neg c22] at H
    have c22b0 : (t159 == t161) = false := beq_eq_false_iff_ne.mpr c22
    have c22b1 : (t159 != t161) = true := bne_iff_ne.mpr c22
    (first | rw [c22b0] | (simp only [i64_w, i32_w]; rw [c22b0]) | skip)
    have H' := Aside0.mk H
    clear H
    go_wp2
    repeat (go_quiet (fail); try go_wp2)
    go_meet
    case rel => exact ⟨_, (true), (by first | rfl | (simp; done) | (simp [*]; done)), H', ⟨by first | omega | exact Nat.le_refl _⟩, ⟨pxq BK157⟩, ⟨pxb HB⟩⟩
  case rest =>
   clear HC13
   try clear c2
   try clear p2
   try clear c5
   try clear c9
   try clear c22
   try clear c22b0
   try clear c22b1
   try clear c23
   try clear c23b0
   try clear c23b1
   obtain ⟨kq, x76_12, rfl, HA, HJ12, BK157, HB⟩ := hcut
   cases kq with
   | zero => exact absurd HA.out (by simp [caulkerlaw05_NumLaws.j0])
   | succ kj12 =>
    have H := HA.out
    clear HA
    simp only [caulkerlaw05_NumLaws.j0] at H
    by_cases c24 : x76_12 = true
    ·subst c24
     have H1 : (none) = some r := by rw [if_pos rfl] at H; exact H
     clear H
     have H := H1
     clear H1
     exact absurd H (by simp)
    ·replace c24 := Bool.eq_false_iff.mpr c24
     subst c24
     have H1 : ((num_ToFloat.f (wrap64 (a2_0))).bind fun t172 => ((num_ToFloat.f (wrap64 (a2_1))).bind fun t173 => ((num_FloatOp.f (⟨#[43]⟩ : ByteArray) t172 t173).bind fun bt174 => ((num_ToFloat.f (Int.tmod (wrap64 (a2_0)) 1000000)).bind fun t176 => ((num_ToFloat.f (Int.tmod (wrap64 (a2_1)) 1000000)).bind fun t177 => ((num_FloatOp.f (⟨#[42]⟩ : ByteArray) t176 t177).bind fun bt178 => ((num_ToFloat.f (wrap64 ((wrap64 (a2_0)) + (wrap64 (a2_1))))).bind fun t180 => (if bt174.1 = t180 then ((num_ToInt.f bt178.1).bind fun t181 => (if t181 = (wrap64 ((Int.tmod (wrap64 (a2_0)) 1000000) * (Int.tmod (wrap64 (a2_1)) 1000000))) then (some (caulkerlaw05_NumLaws.eq (bt174.1) (wrap64 ((wrap64 (a2_0)) + (wrap64 (a2_1)))))) else (none))) else (none))))))))) = some r := by rw [if_neg (show ¬ (false = true) by decide)] at H; exact H
     clear H
     have H := H1
     clear H1
     replace H := Option.bind_eq_some_iff.mp H
     obtain ⟨t172, A250, H⟩ := H
     replace H : ((num_ToFloat.f (wrap64 (a2_1))).bind fun t173 => ((num_FloatOp.f (⟨#[43]⟩ : ByteArray) t172 t173).bind fun bt174 => ((num_ToFloat.f (Int.tmod (wrap64 (a2_0)) 1000000)).bind fun t176 => ((num_ToFloat.f (Int.tmod (wrap64 (a2_1)) 1000000)).bind fun t177 => ((num_FloatOp.f (⟨#[42]⟩ : ByteArray) t176 t177).bind fun bt178 => ((num_ToFloat.f (wrap64 ((wrap64 (a2_0)) + (wrap64 (a2_1))))).bind fun t180 => (if bt174.1 = t180 then ((num_ToInt.f bt178.1).bind fun t181 => (if t181 = (wrap64 ((Int.tmod (wrap64 (a2_0)) 1000000) * (Int.tmod (wrap64 (a2_1)) 1000000))) then (some (caulkerlaw05_NumLaws.eq (bt174.1) (wrap64 ((wrap64 (a2_0)) + (wrap64 (a2_1)))))) else (none))) else (none)))))))) = some r := H
     have A25 := Aside0.mk A250
     clear A250
     replace H := Option.bind_eq_some_iff.mp H
     obtain ⟨t173, A260, H⟩ := H
     replace H : ((num_FloatOp.f (⟨#[43]⟩ : ByteArray) t172 t173).bind fun bt174 => ((num_ToFloat.f (Int.tmod (wrap64 (a2_0)) 1000000)).bind fun t176 => ((num_ToFloat.f (Int.tmod (wrap64 (a2_1)) 1000000)).bind fun t177 => ((num_FloatOp.f (⟨#[42]⟩ : ByteArray) t176 t177).bind fun bt178 => ((num_ToFloat.f (wrap64 ((wrap64 (a2_0)) + (wrap64 (a2_1))))).bind fun t180 => (if bt174.1 = t180 then ((num_ToInt.f bt178.1).bind fun t181 => (if t181 = (wrap64 ((Int.tmod (wrap64 (a2_0)) 1000000) * (Int.tmod (wrap64 (a2_1)) 1000000))) then (some (caulkerlaw05_NumLaws.eq (bt174.1) (wrap64 ((wrap64 (a2_0)) + (wrap64 (a2_1)))))) else (none))) else (none))))))) = some r := H
     have A26 := Aside0.mk A260
     clear A260
     replace H := Option.bind_eq_some_iff.mp H
     obtain ⟨⟨t174, t175⟩, A270, H⟩ := H
     replace H : ((num_ToFloat.f (Int.tmod (wrap64 (a2_0)) 1000000)).bind fun t176 => ((num_ToFloat.f (Int.tmod (wrap64 (a2_1)) 1000000)).bind fun t177 => ((num_FloatOp.f (⟨#[42]⟩ : ByteArray) t176 t177).bind fun bt178 => ((num_ToFloat.f (wrap64 ((wrap64 (a2_0)) + (wrap64 (a2_1))))).bind fun t180 => (if t174 = t180 then ((num_ToInt.f bt178.1).bind fun t181 => (if t181 = (wrap64 ((Int.tmod (wrap64 (a2_0)) 1000000) * (Int.tmod (wrap64 (a2_1)) 1000000))) then (some (caulkerlaw05_NumLaws.eq (t174) (wrap64 ((wrap64 (a2_0)) + (wrap64 (a2_1)))))) else (none))) else (none)))))) = some r := H
     have A27 := Aside0.mk A270
     clear A270
     replace H := Option.bind_eq_some_iff.mp H
     obtain ⟨t176, A280, H⟩ := H
     replace H : ((num_ToFloat.f (Int.tmod (wrap64 (a2_1)) 1000000)).bind fun t177 => ((num_FloatOp.f (⟨#[42]⟩ : ByteArray) t176 t177).bind fun bt178 => ((num_ToFloat.f (wrap64 ((wrap64 (a2_0)) + (wrap64 (a2_1))))).bind fun t180 => (if t174 = t180 then ((num_ToInt.f bt178.1).bind fun t181 => (if t181 = (wrap64 ((Int.tmod (wrap64 (a2_0)) 1000000) * (Int.tmod (wrap64 (a2_1)) 1000000))) then (some (caulkerlaw05_NumLaws.eq (t174) (wrap64 ((wrap64 (a2_0)) + (wrap64 (a2_1)))))) else (none))) else (none))))) = some r := H
     have A28 := Aside0.mk A280
     clear A280
     replace H := Option.bind_eq_some_iff.mp H
     obtain ⟨t177, A290, H⟩ := H
     replace H : ((num_FloatOp.f (⟨#[42]⟩ : ByteArray) t176 t177).bind fun bt178 => ((num_ToFloat.f (wrap64 ((wrap64 (a2_0)) + (wrap64 (a2_1))))).bind fun t180 => (if t174 = t180 then ((num_ToInt.f bt178.1).bind fun t181 => (if t181 = (wrap64 ((Int.tmod (wrap64 (a2_0)) 1000000) * (Int.tmod (wrap64 (a2_1)) 1000000))) then (some (caulkerlaw05_NumLaws.eq (t174) (wrap64 ((wrap64 (a2_0)) + (wrap64 (a2_1)))))) else (none))) else (none)))) = some r := H
     have A29 := Aside0.mk A290
     clear A290
     replace H := Option.bind_eq_some_iff.mp H
     obtain ⟨⟨t178, t179⟩, A300, H⟩ := H
     replace H : ((num_ToFloat.f (wrap64 ((wrap64 (a2_0)) + (wrap64 (a2_1))))).bind fun t180 => (if t174 = t180 then ((num_ToInt.f t178).bind fun t181 => (if t181 = (wrap64 ((Int.tmod (wrap64 (a2_0)) 1000000) * (Int.tmod (wrap64 (a2_1)) 1000000))) then (some (caulkerlaw05_NumLaws.eq (t174) (wrap64 ((wrap64 (a2_0)) + (wrap64 (a2_1)))))) else (none))) else (none))) = some r := H
     have A30 := Aside0.mk A300
     clear A300
     replace H := Option.bind_eq_some_iff.mp H
     obtain ⟨t180, A310, H⟩ := H
     replace H : (if t174 = t180 then ((num_ToInt.f t178).bind fun t181 => (if t181 = (wrap64 ((Int.tmod (wrap64 (a2_0)) 1000000) * (Int.tmod (wrap64 (a2_1)) 1000000))) then (some (caulkerlaw05_NumLaws.eq (t174) (wrap64 ((wrap64 (a2_0)) + (wrap64 (a2_1)))))) else (none))) else (none)) = some r := H
     have A31 := Aside0.mk A310
     clear A310
     by_cases c32 : t174 = t180
     ·rw [if_pos c32] at H
      have c32b0 : (t174 == t180) = true := beq_iff_eq.mpr c32
      have c32b1 : (t174 != t180) = false := bne_eq_false_iff_eq.mpr c32
      clear c32
      replace H := Option.bind_eq_some_iff.mp H
      obtain ⟨t181, A330, H⟩ := H
      replace H : (if t181 = (wrap64 ((Int.tmod (wrap64 (a2_0)) 1000000) * (Int.tmod (wrap64 (a2_1)) 1000000))) then (some (caulkerlaw05_NumLaws.eq (t174) (wrap64 ((wrap64 (a2_0)) + (wrap64 (a2_1)))))) else (none)) = some r := H
      have A33 := Aside0.mk A330
      clear A330
      by_cases c34 : t181 = (wrap64 ((Int.tmod (wrap64 (a2_0)) 1000000) * (Int.tmod (wrap64 (a2_1)) 1000000)))
      ·rw [if_pos c34] at H
       have c34b0 : (t181 == (wrap64 ((Int.tmod (wrap64 (a2_0)) 1000000) * (Int.tmod (wrap64 (a2_1)) 1000000)))) = true := beq_iff_eq.mpr c34
       have c34b1 : (t181 != (wrap64 ((Int.tmod (wrap64 (a2_0)) 1000000) * (Int.tmod (wrap64 (a2_1)) 1000000)))) = false := bne_eq_false_iff_eq.mpr c34
       clear c34
       obtain rfl := Option.some.inj H
       have hcz35_0 : wc.cell? ⟨gb157, 0, none⟩ = some (.int .i32 a2_0) := (blk_cell BK157.out 0).trans rfl
       have hcz35_1 : wc.cell? ⟨gb157, 1, none⟩ = some (.int .i32 a2_1) := (blk_cell BK157.out 1).trans rfl
       have hfz35_0 := blk_frozen BK157.out 0
       have hfz35_1 := blk_frozen BK157.out 1
       obtain ⟨q174, hq174⟩ : ∃ q : Nat, t174 = (q : Int) := ⟨t174.toNat, by have := caulkerlaw05_NumLaws.nn A27.out; omega⟩
       have hfrom : ∀ u : World, (callFunc 32 #[.int .u64 t174]).run Tryd.prog u = .ok (.value (.float .f64 t174.toNat)) u := fun u => by rw [hq174, Int.toNat_natCast]; exact NuW.run_from q174 u
       clear hq174
       go_wp2_with (first | (go_at_call 16; (with_reducible refine (num_ToFloat.calls (wrap64 (a2_0)) t172 _ A25.out).mono ?_); rintro e w' ⟨rfl, ⟨nd, rfl⟩⟩; (try first | exact ⟨rfl, _, World.drewN_drewN _ _ _⟩ | exact ⟨rfl, _, Eq.trans (World.drewN_drewN _ _ _) (congrArg (World.drewN _) (Nat.add_assoc _ _ _))⟩)) | (go_at_call 16; (with_reducible refine (num_ToFloat.calls (wrap64 (a2_1)) t173 _ A26.out).mono ?_); rintro e w' ⟨rfl, ⟨nd, rfl⟩⟩; (try first | exact ⟨rfl, _, World.drewN_drewN _ _ _⟩ | exact ⟨rfl, _, Eq.trans (World.drewN_drewN _ _ _) (congrArg (World.drewN _) (Nat.add_assoc _ _ _))⟩)) | (go_at_call 27; (with_reducible refine (num_FloatOp.calls (⟨#[43]⟩ : ByteArray) t172 t173 t174 t175 _ A27.out).mono ?_); rintro e w36 ⟨rfl, hb⟩; have n0_ := pxk BK157 hb; have n1_ := pxs HB hb; clear BK157; clear HB; have BK157 := n0_; have HB := n1_; clear n0_ n1_; (try clear hb); (try clear hb2); (try clear hk); (try clear hi)) | (go_at_call 16; (with_reducible refine (num_ToFloat.calls (Int.tmod (wrap64 (a2_0)) 1000000) t176 _ A28.out).mono ?_); rintro e w' ⟨rfl, ⟨nd, rfl⟩⟩; (try first | exact ⟨rfl, _, World.drewN_drewN _ _ _⟩ | exact ⟨rfl, _, Eq.trans (World.drewN_drewN _ _ _) (congrArg (World.drewN _) (Nat.add_assoc _ _ _))⟩)) | (go_at_call 16; (with_reducible refine (num_ToFloat.calls (Int.tmod (wrap64 (a2_1)) 1000000) t177 _ A29.out).mono ?_); rintro e w' ⟨rfl, ⟨nd, rfl⟩⟩; (try first | exact ⟨rfl, _, World.drewN_drewN _ _ _⟩ | exact ⟨rfl, _, Eq.trans (World.drewN_drewN _ _ _) (congrArg (World.drewN _) (Nat.add_assoc _ _ _))⟩)) | (go_at_call 27; (with_reducible refine (num_FloatOp.calls (⟨#[42]⟩ : ByteArray) t176 t177 t178 t179 _ A30.out).mono ?_); rintro e w37 ⟨rfl, hb⟩; have n0_ := pxk BK157 hb; have n1_ := pxs HB hb; clear BK157; clear HB; have BK157 := n0_; have HB := n1_; clear n0_ n1_; (try clear hb); (try clear hb2); (try clear hk); (try clear hi)) | (go_at_call 16; (with_reducible refine (num_ToFloat.calls (wrap64 ((wrap64 (a2_0)) + (wrap64 (a2_1)))) t180 _ A31.out).mono ?_); rintro e w' ⟨rfl, ⟨nd, rfl⟩⟩; (try first | exact ⟨rfl, _, World.drewN_drewN _ _ _⟩ | exact ⟨rfl, _, Eq.trans (World.drewN_drewN _ _ _) (congrArg (World.drewN _) (Nat.add_assoc _ _ _))⟩)) | (go_at_call 15; (with_reducible refine (num_ToInt.calls t178 t181 _ A33.out).mono ?_); rintro e w' ⟨rfl, ⟨nd, rfl⟩⟩; (try first | exact ⟨rfl, _, World.drewN_drewN _ _ _⟩ | exact ⟨rfl, _, Eq.trans (World.drewN_drewN _ _ _) (congrArg (World.drewN _) (Nat.add_assoc _ _ _))⟩)))
       repeat (go_quiet (first | (go_at_call 16; (with_reducible refine (num_ToFloat.calls (wrap64 (a2_0)) t172 _ A25.out).mono ?_); rintro e w' ⟨rfl, ⟨nd, rfl⟩⟩; (try first | exact ⟨rfl, _, World.drewN_drewN _ _ _⟩ | exact ⟨rfl, _, Eq.trans (World.drewN_drewN _ _ _) (congrArg (World.drewN _) (Nat.add_assoc _ _ _))⟩)) | (go_at_call 16; (with_reducible refine (num_ToFloat.calls (wrap64 (a2_1)) t173 _ A26.out).mono ?_); rintro e w' ⟨rfl, ⟨nd, rfl⟩⟩; (try first | exact ⟨rfl, _, World.drewN_drewN _ _ _⟩ | exact ⟨rfl, _, Eq.trans (World.drewN_drewN _ _ _) (congrArg (World.drewN _) (Nat.add_assoc _ _ _))⟩)) | (go_at_call 27; (with_reducible refine (num_FloatOp.calls (⟨#[43]⟩ : ByteArray) t172 t173 t174 t175 _ A27.out).mono ?_); rintro e w36 ⟨rfl, hb⟩; have n0_ := pxk BK157 hb; have n1_ := pxs HB hb; clear BK157; clear HB; have BK157 := n0_; have HB := n1_; clear n0_ n1_; (try clear hb); (try clear hb2); (try clear hk); (try clear hi)) | (go_at_call 16; (with_reducible refine (num_ToFloat.calls (Int.tmod (wrap64 (a2_0)) 1000000) t176 _ A28.out).mono ?_); rintro e w' ⟨rfl, ⟨nd, rfl⟩⟩; (try first | exact ⟨rfl, _, World.drewN_drewN _ _ _⟩ | exact ⟨rfl, _, Eq.trans (World.drewN_drewN _ _ _) (congrArg (World.drewN _) (Nat.add_assoc _ _ _))⟩)) | (go_at_call 16; (with_reducible refine (num_ToFloat.calls (Int.tmod (wrap64 (a2_1)) 1000000) t177 _ A29.out).mono ?_); rintro e w' ⟨rfl, ⟨nd, rfl⟩⟩; (try first | exact ⟨rfl, _, World.drewN_drewN _ _ _⟩ | exact ⟨rfl, _, Eq.trans (World.drewN_drewN _ _ _) (congrArg (World.drewN _) (Nat.add_assoc _ _ _))⟩)) | (go_at_call 27; (with_reducible refine (num_FloatOp.calls (⟨#[42]⟩ : ByteArray) t176 t177 t178 t179 _ A30.out).mono ?_); rintro e w37 ⟨rfl, hb⟩; have n0_ := pxk BK157 hb; have n1_ := pxs HB hb; clear BK157; clear HB; have BK157 := n0_; have HB := n1_; clear n0_ n1_; (try clear hb); (try clear hb2); (try clear hk); (try clear hi)) | (go_at_call 16; (with_reducible refine (num_ToFloat.calls (wrap64 ((wrap64 (a2_0)) + (wrap64 (a2_1)))) t180 _ A31.out).mono ?_); rintro e w' ⟨rfl, ⟨nd, rfl⟩⟩; (try first | exact ⟨rfl, _, World.drewN_drewN _ _ _⟩ | exact ⟨rfl, _, Eq.trans (World.drewN_drewN _ _ _) (congrArg (World.drewN _) (Nat.add_assoc _ _ _))⟩)) | (go_at_call 15; (with_reducible refine (num_ToInt.calls t178 t181 _ A33.out).mono ?_); rintro e w' ⟨rfl, ⟨nd, rfl⟩⟩; (try first | exact ⟨rfl, _, World.drewN_drewN _ _ _⟩ | exact ⟨rfl, _, Eq.trans (World.drewN_drewN _ _ _) (congrArg (World.drewN _) (Nat.add_assoc _ _ _))⟩))); try go_wp2_with (first | (go_at_call 16; (with_reducible refine (num_ToFloat.calls (wrap64 (a2_0)) t172 _ A25.out).mono ?_); rintro e w' ⟨rfl, ⟨nd, rfl⟩⟩; (try first | exact ⟨rfl, _, World.drewN_drewN _ _ _⟩ | exact ⟨rfl, _, Eq.trans (World.drewN_drewN _ _ _) (congrArg (World.drewN _) (Nat.add_assoc _ _ _))⟩)) | (go_at_call 16; (with_reducible refine (num_ToFloat.calls (wrap64 (a2_1)) t173 _ A26.out).mono ?_); rintro e w' ⟨rfl, ⟨nd, rfl⟩⟩; (try first | exact ⟨rfl, _, World.drewN_drewN _ _ _⟩ | exact ⟨rfl, _, Eq.trans (World.drewN_drewN _ _ _) (congrArg (World.drewN _) (Nat.add_assoc _ _ _))⟩)) | (go_at_call 27; (with_reducible refine (num_FloatOp.calls (⟨#[43]⟩ : ByteArray) t172 t173 t174 t175 _ A27.out).mono ?_); rintro e w36 ⟨rfl, hb⟩; have n0_ := pxk BK157 hb; have n1_ := pxs HB hb; clear BK157; clear HB; have BK157 := n0_; have HB := n1_; clear n0_ n1_; (try clear hb); (try clear hb2); (try clear hk); (try clear hi)) | (go_at_call 16; (with_reducible refine (num_ToFloat.calls (Int.tmod (wrap64 (a2_0)) 1000000) t176 _ A28.out).mono ?_); rintro e w' ⟨rfl, ⟨nd, rfl⟩⟩; (try first | exact ⟨rfl, _, World.drewN_drewN _ _ _⟩ | exact ⟨rfl, _, Eq.trans (World.drewN_drewN _ _ _) (congrArg (World.drewN _) (Nat.add_assoc _ _ _))⟩)) | (go_at_call 16; (with_reducible refine (num_ToFloat.calls (Int.tmod (wrap64 (a2_1)) 1000000) t177 _ A29.out).mono ?_); rintro e w' ⟨rfl, ⟨nd, rfl⟩⟩; (try first | exact ⟨rfl, _, World.drewN_drewN _ _ _⟩ | exact ⟨rfl, _, Eq.trans (World.drewN_drewN _ _ _) (congrArg (World.drewN _) (Nat.add_assoc _ _ _))⟩)) | (go_at_call 27; (with_reducible refine (num_FloatOp.calls (⟨#[42]⟩ : ByteArray) t176 t177 t178 t179 _ A30.out).mono ?_); rintro e w37 ⟨rfl, hb⟩; have n0_ := pxk BK157 hb; have n1_ := pxs HB hb; clear BK157; clear HB; have BK157 := n0_; have HB := n1_; clear n0_ n1_; (try clear hb); (try clear hb2); (try clear hk); (try clear hi)) | (go_at_call 16; (with_reducible refine (num_ToFloat.calls (wrap64 ((wrap64 (a2_0)) + (wrap64 (a2_1)))) t180 _ A31.out).mono ?_); rintro e w' ⟨rfl, ⟨nd, rfl⟩⟩; (try first | exact ⟨rfl, _, World.drewN_drewN _ _ _⟩ | exact ⟨rfl, _, Eq.trans (World.drewN_drewN _ _ _) (congrArg (World.drewN _) (Nat.add_assoc _ _ _))⟩)) | (go_at_call 15; (with_reducible refine (num_ToInt.calls t178 t181 _ A33.out).mono ?_); rintro e w' ⟨rfl, ⟨nd, rfl⟩⟩; (try first | exact ⟨rfl, _, World.drewN_drewN _ _ _⟩ | exact ⟨rfl, _, Eq.trans (World.drewN_drewN _ _ _) (congrArg (World.drewN _) (Nat.add_assoc _ _ _))⟩))))
       go_ret
       exact ⟨by first | rfl | (simp [errW_none, errW_some] <;> rfl) | (simp [*, errW_none, errW_some] <;> rfl), pxb HB⟩
      ·rw [if_neg c34] at H
       exact absurd H (by simp)
     ·rw [if_neg c32] at H
      exact absurd H (by simp)
 ·replace c5 := Bool.eq_false_iff.mpr c5
  subst c5
  have H1 : (none) = some r := by rw [if_neg (show ¬ (false = true) by decide)] at H; exact H
  clear H
  have H := H1
  clear H1
  exact absurd H (by simp)


end Go.Proofs.YtbnopcndjdpnkaaDoor.X
