/- What the program's functions answer, as Lean functions, and that each call does just that; no condition. Written by a program (px.py) out of the translation. -/
import Derived.Test.YtoljmjhmieaggaaM2
import Derived.Test.YtoljmjhmieaggaaXE39
import Derived.Test.YtoljmjhmieaggaaX12
import Derived.Test.YtoljmjhmieaggaaM13
import Derived.Test.YtoljmjhmieaggaaX17
section
namespace Go.Proofs.Ytoljmjhmieaggaa.X
open Go.RowKit Go.Proofs.YtoljmjhmieaggaaW.PrintWords Go.Proofs.YtoljmjhmieaggaaW.PrintLast Go.Proofs.YtoljmjhmieaggaaW.PrintMore
attribute [local go_sem] max2_int min2_int max_two min_two max_three min_three max_four min_four   -- for this text's walks alone
set_option linter.unusedVariables false
set_option linter.unusedSimpArgs false

theorem eqA41 (d : Nat) (w : World) (x0 y0 : Int) (x1 y1 : Int) (x2 y2 : ByteArray) :
    (Op.equalIn (d + 3) 41 (.agg #[.int .i64 x0, .int .i64 x1, .string x2]) (.agg #[.int .i64 y0, .int .i64 y1, .string y2])).run Try.prog w = .ok ((x0 == y0 && (x1 == y1)) && (x2.toList == y2.toList)) w := by
  refine eqA_of Try.underlying41 (by kernel_rfl) ?_
  refine eqf_cons (by rfl) (by go_simp) (by go_simp) (eqA39 (d + 0) w _ _ _ _) ?_
  exact eqf_last (by rfl) (by go_simp; rfl) (by go_simp; rfl) (by go_simp)
end Go.Proofs.Ytoljmjhmieaggaa.X
end
section
namespace Go.Proofs.Ytoljmjhmieaggaa.X
open Go.RowKit Go.Proofs.YtoljmjhmieaggaaW.PrintWords Go.Proofs.YtoljmjhmieaggaaW.PrintLast Go.Proofs.YtoljmjhmieaggaaW.PrintMore
attribute [local go_sem] max2_int min2_int max_two min_two max_three min_three max_four min_four   -- for this text's walks alone
set_option linter.unusedVariables false
set_option linter.unusedSimpArgs false

attribute [local go_sem high] eqA39 eqA41
/-! ### caulkerlaw04_finds: function 11 -/
def caulkerlaw04_finds.f (k : Nat)  : Option (Bool) := (diff_Bytes.f k (⟨#[67, 32, 120, 32, 61, 32, 110, 117, 108, 108, 59]⟩ : ByteArray) (⟨#[67, 63, 32, 120, 32, 61, 32, 110, 117, 108, 108, 59]⟩ : ByteArray)).bind fun bt249 => ((diff_Far.f k (⟨#[97, 98, 99]⟩ : ByteArray) (⟨#[97, 100, 99]⟩ : ByteArray)).bind fun bt254 => ((diff_Kept.f k (⟨#[97, 98, 99, 100]⟩ : ByteArray) (([(⟨(⟨1, 2⟩ : S39), (⟨#[120]⟩ : ByteArray)⟩ : S41)] : List (S41)))).bind fun bt259 => (if bt249.2.2 = 0 then (if bt259.2 = 0 then (if bt249.2.1 = true then (if (bt249.1.length : Int) = 1 then (if 0 < (bt249.1.length : Int) then (if ((((rd_T41 bt249.1 0).f0.f0) == 1 && (((rd_T41 bt249.1 0).f0.f1) == 1)) && ((((rd_T41 bt249.1 0).f1).toList) == ([63] : List UInt8))) = true then (if bt254.1 = 2 then (if bt254.2 = true then (if (bt259.1.length : Int) = 2 then (if 1 < (bt259.1.length : Int) then (if (((rd_T39 bt259.1 1).f0) == 2 && (((rd_T39 bt259.1 1).f1) == 4)) = true then (some true) else (none)) else (none)) else (none)) else (none)) else (none)) else (none)) else (none)) else (none)) else (none)) else (none)) else (none))))
theorem caulkerlaw04_finds.mono : ∀ k, LeO (caulkerlaw04_finds.f k ) (caulkerlaw04_finds.f (k + 1) ) := by
 intro  k
 unfold caulkerlaw04_finds.f
 repeat' first
   | (with_reducible exact diff_Bytes.mono _ _ _)
   | (with_reducible exact diff_Far.mono _ _ _)
   | (with_reducible exact diff_Kept.mono _ _ _)
   | (with_reducible exact LeO.refl _)
   | (with_reducible exact LeO.none _)
   | (with_reducible refine LeO.ite ?_ ?_)
   | (with_reducible refine LeO.bind ?_ (fun _ => ?_))
   | exact diff_Bytes.mono _ _ _
   | exact diff_Far.mono _ _ _
   | exact diff_Kept.mono _ _ _
   | exact LeO.none _
   | refine LeO.ite ?_ ?_
   | refine LeO.bind ?_ (fun _ => ?_)
set_option maxHeartbeats 8000000 in
set_option maxRecDepth 100000 in
theorem caulkerlaw04_finds.calls (k : Nat)  (r : Bool) (w : World) (h : caulkerlaw04_finds.f k  = some r) :
  Calls Try.prog 11 #[] w fun e w' => e = .returned (.bool r) ∧ Below w.heap.size w w' := by
 have hu39 := Try.underlying39
 have hu41 := Try.underlying41
 have HB := Aside0.mk (Below.refl w.heap.size w)
 have H : ((diff_Bytes.f k (⟨#[67, 32, 120, 32, 61, 32, 110, 117, 108, 108, 59]⟩ : ByteArray) (⟨#[67, 63, 32, 120, 32, 61, 32, 110, 117, 108, 108, 59]⟩ : ByteArray)).bind fun bt249 => ((diff_Far.f k (⟨#[97, 98, 99]⟩ : ByteArray) (⟨#[97, 100, 99]⟩ : ByteArray)).bind fun bt254 => ((diff_Kept.f k (⟨#[97, 98, 99, 100]⟩ : ByteArray) (([(⟨(⟨1, 2⟩ : S39), (⟨#[120]⟩ : ByteArray)⟩ : S41)] : List (S41)))).bind fun bt259 => (if bt249.2.2 = 0 then (if bt259.2 = 0 then (if bt249.2.1 = true then (if (bt249.1.length : Int) = 1 then (if 0 < (bt249.1.length : Int) then (if ((((rd_T41 bt249.1 0).f0.f0) == 1 && (((rd_T41 bt249.1 0).f0.f1) == 1)) && ((((rd_T41 bt249.1 0).f1).toList) == ([63] : List UInt8))) = true then (if bt254.1 = 2 then (if bt254.2 = true then (if (bt259.1.length : Int) = 2 then (if 1 < (bt259.1.length : Int) then (if (((rd_T39 bt259.1 1).f0) == 2 && (((rd_T39 bt259.1 1).f1) == 4)) = true then (some true) else (none)) else (none)) else (none)) else (none)) else (none)) else (none)) else (none)) else (none)) else (none)) else (none)) else (none))))) = some r := h
 clear h
 replace H := Option.bind_eq_some_iff.mp H
 obtain ⟨⟨t249, t250, t251⟩, A10, H⟩ := H
 replace H : ((diff_Far.f k (⟨#[97, 98, 99]⟩ : ByteArray) (⟨#[97, 100, 99]⟩ : ByteArray)).bind fun bt254 => ((diff_Kept.f k (⟨#[97, 98, 99, 100]⟩ : ByteArray) (([(⟨(⟨1, 2⟩ : S39), (⟨#[120]⟩ : ByteArray)⟩ : S41)] : List (S41)))).bind fun bt259 => (if t251 = 0 then (if bt259.2 = 0 then (if t250 = true then (if (t249.length : Int) = 1 then (if 0 < (t249.length : Int) then (if ((((rd_T41 t249 0).f0.f0) == 1 && (((rd_T41 t249 0).f0.f1) == 1)) && ((((rd_T41 t249 0).f1).toList) == ([63] : List UInt8))) = true then (if bt254.1 = 2 then (if bt254.2 = true then (if (bt259.1.length : Int) = 2 then (if 1 < (bt259.1.length : Int) then (if (((rd_T39 bt259.1 1).f0) == 2 && (((rd_T39 bt259.1 1).f1) == 4)) = true then (some true) else (none)) else (none)) else (none)) else (none)) else (none)) else (none)) else (none)) else (none)) else (none)) else (none)) else (none)))) = some r := H
 have A1 := Aside0.mk A10
 clear A10
 replace H := Option.bind_eq_some_iff.mp H
 obtain ⟨⟨t254, t255⟩, A20, H⟩ := H
 replace H : ((diff_Kept.f k (⟨#[97, 98, 99, 100]⟩ : ByteArray) (([(⟨(⟨1, 2⟩ : S39), (⟨#[120]⟩ : ByteArray)⟩ : S41)] : List (S41)))).bind fun bt259 => (if t251 = 0 then (if bt259.2 = 0 then (if t250 = true then (if (t249.length : Int) = 1 then (if 0 < (t249.length : Int) then (if ((((rd_T41 t249 0).f0.f0) == 1 && (((rd_T41 t249 0).f0.f1) == 1)) && ((((rd_T41 t249 0).f1).toList) == ([63] : List UInt8))) = true then (if t254 = 2 then (if t255 = true then (if (bt259.1.length : Int) = 2 then (if 1 < (bt259.1.length : Int) then (if (((rd_T39 bt259.1 1).f0) == 2 && (((rd_T39 bt259.1 1).f1) == 4)) = true then (some true) else (none)) else (none)) else (none)) else (none)) else (none)) else (none)) else (none)) else (none)) else (none)) else (none)) else (none))) = some r := H
 have A2 := Aside0.mk A20
 clear A20
 obtain ⟨y256, hy256⟩ : ∃ y_ : List (S41), y_ = (([(⟨(⟨1, 2⟩ : S39), (⟨#[120]⟩ : ByteArray)⟩ : S41)] : List (S41))) := ⟨_, rfl⟩
 replace H : ((diff_Kept.f k (⟨#[97, 98, 99, 100]⟩ : ByteArray) y256).bind fun bt259 => (if t251 = 0 then (if bt259.2 = 0 then (if t250 = true then (if (t249.length : Int) = 1 then (if 0 < (t249.length : Int) then (if ((((rd_T41 t249 0).f0.f0) == 1 && (((rd_T41 t249 0).f0.f1) == 1)) && ((((rd_T41 t249 0).f1).toList) == ([63] : List UInt8))) = true then (if t254 = 2 then (if t255 = true then (if (bt259.1.length : Int) = 2 then (if 1 < (bt259.1.length : Int) then (if (((rd_T39 bt259.1 1).f0) == 2 && (((rd_T39 bt259.1 1).f1) == 4)) = true then (some true) else (none)) else (none)) else (none)) else (none)) else (none)) else (none)) else (none)) else (none)) else (none)) else (none)) else (none))) = some r := by first | (rw [hy256]; with_reducible exact H) | (have H2_ := (Option.bind_some _ _).symm.trans H; rw [hy256]; with_reducible exact H2_) | (have H2_ := (Option.bind_some _ _).symm.trans H; with_reducible exact H2_) | with_reducible exact H | (rw [hy256]; exact H) | exact H
 have Ny256 := Aside0.mk hy256
 clear hy256
 replace H := Option.bind_eq_some_iff.mp H
 obtain ⟨⟨t259, t260⟩, A30, H⟩ := H
 replace H : (if t251 = 0 then (if t260 = 0 then (if t250 = true then (if (t249.length : Int) = 1 then (if 0 < (t249.length : Int) then (if ((((rd_T41 t249 0).f0.f0) == 1 && (((rd_T41 t249 0).f0.f1) == 1)) && ((((rd_T41 t249 0).f1).toList) == ([63] : List UInt8))) = true then (if t254 = 2 then (if t255 = true then (if (t259.length : Int) = 2 then (if 1 < (t259.length : Int) then (if (((rd_T39 t259 1).f0) == 2 && (((rd_T39 t259 1).f1) == 4)) = true then (some true) else (none)) else (none)) else (none)) else (none)) else (none)) else (none)) else (none)) else (none)) else (none)) else (none)) else (none)) = some r := H
 have A3 := Aside0.mk A30
 clear A30
 by_cases c4 : t251 = 0
 ·rw [if_pos c4] at H
  have c4b0 : (t251 == 0) = true := beq_iff_eq.mpr c4
  have c4b1 : (t251 != 0) = false := bne_eq_false_iff_eq.mpr c4
  clear c4
  by_cases c5 : t260 = 0
  ·rw [if_pos c5] at H
   have c5b0 : (t260 == 0) = true := beq_iff_eq.mpr c5
   have c5b1 : (t260 != 0) = false := bne_eq_false_iff_eq.mpr c5
   clear c5
   by_cases c6 : t250 = true
   ·subst c6
    have H1 : (if (t249.length : Int) = 1 then (if 0 < (t249.length : Int) then (if ((((rd_T41 t249 0).f0.f0) == 1 && (((rd_T41 t249 0).f0.f1) == 1)) && ((((rd_T41 t249 0).f1).toList) == ([63] : List UInt8))) = true then (if t254 = 2 then (if t255 = true then (if (t259.length : Int) = 2 then (if 1 < (t259.length : Int) then (if (((rd_T39 t259 1).f0) == 2 && (((rd_T39 t259 1).f1) == 4)) = true then (some true) else (none)) else (none)) else (none)) else (none)) else (none)) else (none)) else (none)) else (none)) = some r := by rw [if_pos rfl] at H; exact H
    clear H
    have H := H1
    clear H1
    by_cases c7 : (t249.length : Int) = 1
    ·rw [if_pos c7] at H
     have c7b0 : ((t249.length : Int) == 1) = true := beq_iff_eq.mpr c7
     have c7b1 : ((t249.length : Int) != 1) = false := bne_eq_false_iff_eq.mpr c7
     clear c7
     by_cases c8 : 0 < (t249.length : Int)
     ·rw [if_pos c8] at H
      have c8b0 : decide (0 < (t249.length : Int)) = true := decide_eq_true c8
      have c8b1 : decide (0 < t249.length) = true := decide_eq_true (by omega)
      clear c8
      by_cases c9 : ((((rd_T41 t249 0).f0.f0) == 1 && (((rd_T41 t249 0).f0.f1) == 1)) && ((((rd_T41 t249 0).f1).toList) == ([63] : List UInt8))) = true
      ·rw [if_pos c9] at H
       have c9b0 : ((((rd_T41 t249 0).f0.f0) == 1 && (((rd_T41 t249 0).f0.f1) == 1)) && ((((rd_T41 t249 0).f1).toList) == ([63] : List UInt8))) = true := c9
       clear c9
       by_cases c10 : t254 = 2
       ·rw [if_pos c10] at H
        have c10b0 : (t254 == 2) = true := beq_iff_eq.mpr c10
        have c10b1 : (t254 != 2) = false := bne_eq_false_iff_eq.mpr c10
        clear c10
        by_cases c11 : t255 = true
        ·subst c11
         have H1 : (if (t259.length : Int) = 2 then (if 1 < (t259.length : Int) then (if (((rd_T39 t259 1).f0) == 2 && (((rd_T39 t259 1).f1) == 4)) = true then (some true) else (none)) else (none)) else (none)) = some r := by rw [if_pos rfl] at H; exact H
         clear H
         have H := H1
         clear H1
         by_cases c12 : (t259.length : Int) = 2
         ·rw [if_pos c12] at H
          have c12b0 : ((t259.length : Int) == 2) = true := beq_iff_eq.mpr c12
          have c12b1 : ((t259.length : Int) != 2) = false := bne_eq_false_iff_eq.mpr c12
          clear c12
          by_cases c13 : 1 < (t259.length : Int)
          ·rw [if_pos c13] at H
           have c13b0 : decide (1 < (t259.length : Int)) = true := decide_eq_true c13
           have c13b1 : decide (1 < t259.length) = true := decide_eq_true (by omega)
           clear c13
           by_cases c14 : (((rd_T39 t259 1).f0) == 2 && (((rd_T39 t259 1).f1) == 4)) = true
           ·rw [if_pos c14] at H
            have c14b0 : (((rd_T39 t259 1).f0) == 2 && (((rd_T39 t259 1).f1) == 4)) = true := c14
            (try (have c14b1 : decide (((rd_T39 t259 1).f0) = 2 && (((rd_T39 t259 1).f1) == 4)) = true := by simpa using c14))
            (try (have c14b2 : (((rd_T39 t259 1).f0) == 2 && (((rd_T39 t259 1).f1) == 4)) = true := by simpa using c14))
            clear c14
            obtain rfl := Option.some.inj H
            go_enter Try.func11, Try.ntmps11
            go_wp2_with (first | ((with_reducible refine gate_callee (f := 12) rfl ?_); refine goesL_ (some 9) rfl rfl Try.func12 (by kernel_rfl) rfl #[.string (⟨#[67, 32, 120, 32, 61, 32, 110, 117, 108, 108, 59]⟩ : ByteArray), .string (⟨#[67, 63, 32, 120, 32, 61, 32, 110, 117, 108, 108, 59]⟩ : ByteArray)] rfl (by (try simp only [List.map_toArray, List.map_cons, List.map_nil]); first | done | rfl | (simp only [List.length_drop, List.length_take]; rfl)) ?_; (with_reducible refine (diff_Bytes.calls k (⟨#[67, 32, 120, 32, 61, 32, 110, 117, 108, 108, 59]⟩ : ByteArray) (⟨#[67, 63, 32, 120, 32, 61, 32, 110, 117, 108, 108, 59]⟩ : ByteArray) t249 true t251 _ A1.out).mono ?_); rintro e w15 ⟨v252, rfl, ho0, hb⟩; refine ⟨_, rfl, ?_⟩; have n0_ := Aside0.mk (Kd.R_lower ho0 (below_size (pxb HB))); have n1_ := pxs HB hb; clear HB; have HO253 := n0_; have HB := n1_; clear n0_ n1_; (try clear hb); (try clear hb2); (try clear hk); (try clear hi); (try clear ho0)) | ((with_reducible refine gate_callee (f := 15) rfl ?_); refine goesL_ (some 14) rfl rfl Try.func15 (by kernel_rfl) rfl #[.string (⟨#[97, 98, 99]⟩ : ByteArray), .string (⟨#[97, 100, 99]⟩ : ByteArray)] rfl (by (try simp only [List.map_toArray, List.map_cons, List.map_nil]); first | done | rfl | (simp only [List.length_drop, List.length_take]; rfl)) ?_; (with_reducible refine (diff_Far.calls k (⟨#[97, 98, 99]⟩ : ByteArray) (⟨#[97, 100, 99]⟩ : ByteArray) t254 true _ A2.out).mono ?_); rintro e w16 ⟨rfl, hb⟩; refine ⟨_, rfl, ?_⟩; have n0_ := Aside0.mk (Kd.R_below (pxr HO253) hb); have n1_ := pxs HB hb; clear HO253; clear HB; have HO253 := n0_; have HB := n1_; clear n0_ n1_; (try clear hb); (try clear hb2); (try clear hk); (try clear hi)) | ((with_reducible refine gate_dst (N := 20) rfl ?_); refine Kd.R_lit k41 _ 41 ?hg (N := 20) ?hd (xs := ([(⟨(⟨1, 2⟩ : S39), (⟨#[120]⟩ : ByteArray)⟩ : S41)] : List (S41))) (inner := [.int .i64 1, .int .i64 2, .string (⟨#[120]⟩ : ByteArray)]) (ok := fun _ => True) (okp := fun _ => True) ?hr ?hp (fun _ hk => hk) trivial (Below.refl _ _) (Nat.le_refl _) (by simp) ?_; (case hd => rfl); (case hg => rfl); (case hr => first | (go_simp; done) | (go_simp; rfl)); (case hp => exact (Reps.c3 (show Kd.M k41 _ _ _ (⟨(⟨1, 2⟩ : S39), (⟨#[120]⟩ : ByteArray)⟩ : S41) [.int .i64 1, .int .i64 2, .string (⟨#[120]⟩ : ByteArray)] from (k41_mkM _ _ _ (⟨(⟨1, 2⟩ : S39), (⟨#[120]⟩ : ByteArray)⟩ : S41) )) (Reps.none _ _))); intro v257 w17 ho18 hb hg_ hnew_; clear hg_ hnew_; (first | rw [← Ny256.out] at ho18 | (simp only [Int.reduceToNat] at ho18; rw [← Ny256.out] at ho18)); have n0_ := Aside0.mk (Kd.R_elder' (pxr HO253) (Kd.R_base ho18) hb); have n1_ := Aside0.mk (Kd.R_lower (Kd.R_new' ho18 (Kd.R_lt (pxr HO253))) (below_size (pxb HB))); have n2_ := pxs HB hb; clear HO253; clear HB; have HO253 := n0_; have HO258 := n1_; have HB := n2_; clear n0_ n1_ n2_; clear hb ho18; obtain ⟨Ao19, co19, eo19⟩ := Kd.R_slice HO258.out; subst eo19) | ((with_reducible refine gate_callee (f := 17) rfl ?_); refine goesL_ (some 21) rfl rfl Try.func17 (by kernel_rfl) rfl #[.string (⟨#[97, 98, 99, 100]⟩ : ByteArray), .slice Ao19 y256.length co19] rfl (by (try simp only [List.map_toArray, List.map_cons, List.map_nil]); first | done | rfl | (simp only [List.length_drop, List.length_take]; rfl)) ?_; (with_reducible refine (diff_Kept.calls k (⟨#[97, 98, 99, 100]⟩ : ByteArray) _ _ y256 t259 t260 _ ?side1 ?side2 A3.out).mono ?_); (case side1 => repeat (first | exact (Kd.R_reads' HO258.out).2.2 | (with_reducible refine Kd.C_alloc ?_ _) | (with_reducible refine Kd.C_drewN ?_ _) | (with_reducible refine Kd.C_drew ?_))); (case side2 => exact (Kd.R_reads' HO258.out).2.1); rintro e w20 ⟨v261, rfl, ho0, hb⟩; refine ⟨_, rfl, ?_⟩; have n0_ := Aside0.mk (Kd.R_below (pxr HO253) hb); have n1_ := Aside0.mk (Kd.R_below (pxr HO258) hb); have n2_ := Aside0.mk (Kd.R_lower ho0 (below_size (pxb HB))); have n3_ := pxs HB hb; clear HO253; clear HO258; clear HB; have HO253 := n0_; have HO258 := n1_; have HO262 := n2_; have HB := n3_; clear n0_ n1_ n2_ n3_; (try clear hb); (try clear hb2); (try clear hk); (try clear hi); (try clear ho0); obtain ⟨Ao21, co21, eo21⟩ := Kd.R_slice HO253.out; subst eo21; have p263 : 0 ≤ (0 : Int) := (by omega); have q263 : 0 < (t249.length : Int) := of_decide_eq_true (by first | (with_reducible assumption) | assumption); obtain ⟨ad263, e263, hx263_0, hx263_1, hx263_2⟩ := at_T41 (Kd.R_reads' HO253.out).2.2 0 p263 q263; cases e263; have qi263 : (0 < t249.length) = True := eq_true (by omega); (try rw [show ((0 : Int)).toNat = 0 from rfl] at hx263_0); (try rw [show 0 * 3 = 0 from rfl] at hx263_0); (try rw [Addr.add_zero'] at hx263_0); (try rw [show ((0 : Int)).toNat = 0 from rfl] at hx263_1); (try rw [show 0 * 3 = 0 from rfl] at hx263_1); (try rw [Addr.add_zero'] at hx263_1); (try rw [show ((0 : Int)).toNat = 0 from rfl] at hx263_2); (try rw [show 0 * 3 = 0 from rfl] at hx263_2); (try rw [Addr.add_zero'] at hx263_2); replace p263 := eq_true p263; replace q263 := eq_true q263; obtain ⟨Ao22, co22, eo22⟩ := Kd.R_slice HO262.out; subst eo22; have p264 : 0 ≤ (1 : Int) := (by omega); have q264 : 1 < (t259.length : Int) := of_decide_eq_true (by first | (with_reducible assumption) | assumption); obtain ⟨ad264, e264, hx264_0, hx264_1⟩ := at_T39 (Kd.R_reads' HO262.out).2.2 1 p264 q264; cases e264; (try simp only [show (1 : Int).toNat = 1 from rfl, Nat.reduceMul, Nat.reduceEqDiff, Go.Addr.add, ↓reduceIte] at hx264_0); (try simp only [show (1 : Int).toNat = 1 from rfl, Nat.reduceMul, Nat.reduceEqDiff, Go.Addr.add, ↓reduceIte] at hx264_1); have qi264 : (1 < t259.length) = True := eq_true (by omega); (try rw [show ((1 : Int)).toNat = 1 from rfl] at hx264_0); (try rw [show 1 * 2 = 2 from rfl] at hx264_0); (try rw [show ((1 : Int)).toNat = 1 from rfl] at hx264_1); (try rw [show 1 * 2 = 2 from rfl] at hx264_1); replace p264 := eq_true p264; replace q264 := eq_true q264))
            go_ret
            exact ⟨by first | rfl | (simp [errW_none, errW_some] <;> rfl) | (simp [*, errW_none, errW_some] <;> rfl), pxb HB⟩
           ·rw [if_neg c14] at H
            exact absurd H (by simp)
          ·rw [if_neg c13] at H
           exact absurd H (by simp)
         ·rw [if_neg c12] at H
          exact absurd H (by simp)
        ·replace c11 := Bool.eq_false_iff.mpr c11
         subst c11
         have H1 : (none) = some r := by rw [if_neg (show ¬ (false = true) by decide)] at H; exact H
         clear H
         have H := H1
         clear H1
         exact absurd H (by simp)
       ·rw [if_neg c10] at H
        exact absurd H (by simp)
      ·rw [if_neg c9] at H
       exact absurd H (by simp)
     ·rw [if_neg c8] at H
      exact absurd H (by simp)
    ·rw [if_neg c7] at H
     exact absurd H (by simp)
   ·replace c6 := Bool.eq_false_iff.mpr c6
    subst c6
    have H1 : (none) = some r := by rw [if_neg (show ¬ (false = true) by decide)] at H; exact H
    clear H
    have H := H1
    clear H1
    exact absurd H (by simp)
  ·rw [if_neg c5] at H
   exact absurd H (by simp)
 ·rw [if_neg c4] at H
  exact absurd H (by simp)

end Go.Proofs.Ytoljmjhmieaggaa.X
end
