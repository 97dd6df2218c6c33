/- ParseFloat over digits, a point, digits. -/
import Derived.Test.YtbnopcndjdpnkaaDoorNumW3
import Derived.Test.YtbnopcndjdpnkaaDoorX66
namespace Go.Proofs.YtbnopcndjdpnkaaDoor.NuW
open Go.RowKit Go.Proofs.YtbnopcndjdpnkaaDoorW.PrintWords Go.Proofs.YtbnopcndjdpnkaaDoorW.PrintLast Go.Proofs.YtbnopcndjdpnkaaDoor.X Go.Proofs.YtbnopcndjdpnkaaDoor.Fl
set_option linter.unusedVariables false
set_option linter.unusedSimpArgs false
attribute [local go_sem] run_from run_bits run_from2
def powL : List Nat := [4607182418800017408, 4621819117588971520, 4636737291354636288, 4652007308841189376, 4666723172467343360, 4681608360884174848, 4696837146684686336, 4711630319722168320, 4726483295884279808, 4741671816366391296, 4756540486875873280, 4771362005757984768, 4786511204640096256, 4801453603149578240, 4816244402031689728, 4831355200913801216, 4846369599423283200, 4861130398305394688, 4876203697187506176, 4891288408196988160, 4906019910204099648, 4921056587992461136, 4936209963552724370]
def pw (k : Nat) : Nat := powL.getD k 0
/-- What is told of the library's tables. -/
structure GV (W : World) : Prop where
  info : W.cell? ⟨5, 0, none⟩ = some (.int .u64 52)
  opt : W.cell? ⟨4, 0, none⟩ = some (.bool true)
  pow : ∃ A c, W.cell? ⟨8, 0, none⟩ = some (.slice (some A) 23 c) ∧ ∀ k, k < 23 → W.cell? (A.add k) = some (.float .f64 (pw k))
  rng : ∃ te pe, W.cell? ⟨2, 0, none⟩ = some (.iface te pe)
theorem GV.later {W W' : World} (h : GV W) (hb : Below W.heap.size W W') : GV W' := by
  obtain ⟨A, c, h1, h2⟩ := h.pow
  obtain ⟨te, pe, h3⟩ := h.rng
  exact ⟨(hb.cell (World.block_lt_of_cell? _ _ h.info)).trans h.info, (hb.cell (World.block_lt_of_cell? _ _ h.opt)).trans h.opt, ⟨A, c, (hb.cell (World.block_lt_of_cell? _ _ h1)).trans h1, fun k hk => (hb.cell (World.block_lt_of_cell? _ _ (h2 k hk))).trans (h2 k hk)⟩, ⟨te, pe, (hb.cell (World.block_lt_of_cell? _ _ h3)).trans h3⟩⟩
set_option maxRecDepth 100000 in
set_option maxHeartbeats 8000000 in
theorem exact_any (v k : Nat) (r : Nat) (w : World) (hg : GV w) (hv : v < 4503599627370496) (hk : 1 ≤ k) (hk2 : k ≤ 22) (hr : floatBits .quo .f64 (floatOfInt .f64 (v : Int)) (pw k) = some r) : Calls Tryd.prog 68 #[.int .u64 (v : Int), .int .i64 (-(k : Int)), .bool false] w fun e w' => e = .returned (.tuple #[.float .f64 r, .bool true]) ∧ Below w.heap.size w w' := by
  have HB := Aside0.mk (Below.refl w.heap.size w)
  obtain ⟨A, c, h1, h2⟩ := hg.pow
  have g1 := hg.info
  have hp := h2 k (by omega)
  have hrun := run_float_arith (P := Tryd.prog) w .quo 53 .f64 (floatOfInt .f64 (v : Int)) (pw k) r hr
  have k0 : ((-(k : Int)) == 0) = false := beq_eq_false_iff_ne.2 (by omega)
  have k1 : decide (0 < -(k : Int)) = false := decide_eq_false (by omega)
  have k2 : decide (-(k : Int) < 0) = true := decide_eq_true (by omega)
  have k3 : decide (-22 ≤ -(k : Int)) = true := decide_eq_true (by omega)
  have k4 : decide (0 < k) = true := decide_eq_true (by omega)
  have k5 : decide (0 < (k : Int)) = true := decide_eq_true (by omega)
  have k6 : decide (k ≤ 22) = true := decide_eq_true hk2
  have k7 : decide ((k : Int) ≤ 22) = true := decide_eq_true (by omega)
  have p0 : (0 ≤ (k : Int)) = True := eq_true (by omega)
  have p1 : ((k : Int) < 23) = True := eq_true (by omega)
  have p1' : (k < 23) = True := eq_true (by omega)
  have hsh : (v : Int) / 4503599627370496 = 0 := Int.ediv_eq_zero_of_lt (by omega) (by omega)
  have HH := Lib.hid (And.intro hv (And.intro hk hk2))
  clear hg h2 hr hv hk hk2
  have hw : wrap64 (k : Int) = (k : Int) := by have := HH.out; exact wrap_id (by omega) (by omega)
  go_enter Tryd.func68, Tryd.ntmps68
  go_wp2
  exact bodyPost_ret (v := .tuple #[.float .f64 r, .bool true]) (by simp [results, Tryd.results68, go_sem]) rfl ⟨rfl, pxb HB⟩
theorem vD_lt2 {s : ByteArray} {p : Nat} (h : FD s p) : ∀ i, i ≤ s.size → p < i → vD s p i < 10 ^ (i - 1)
  | 0, _, h0 => by omega
  | i + 1, hi, hp => by
    rw [vD]
    by_cases e : i = p
    · rw [if_pos e]
      exact vD_lt h i (by omega)
    · rw [if_neg e]
      have h1 := vD_lt2 h i (by omega) (by omega)
      have h2 := h.dig i (by omega) e
      have h3 : 10 ^ (i + 1 - 1) = 10 * 10 ^ (i - 1) := by rw [show i + 1 - 1 = (i - 1) + 1 by omega, Nat.pow_succ, Nat.mul_comm]
      omega
theorem vD_15 {s : ByteArray} {p : Nat} (h : FD s p) : vD s p s.size < 1000000000000000 := by
  have h1 := vD_lt2 h s.size (Nat.le_refl _) (by have := h.h2; omega)
  have h2 : 10 ^ (s.size - 1) ≤ 10 ^ 15 := Nat.pow_le_pow_right (by omega) (by have := h.h3; omega)
  have h3 : (10 : Nat) ^ 15 = 1000000000000000 := by decide
  omega
/-- What such a text is: all its digits by a power of ten. -/
def fdV (s : ByteArray) (p : Nat) : Nat := fop .quo (floatOfInt .f64 (vD s p s.size : Int)) (pw (s.size - 1 - p))
theorem quo_some {x k : Nat} (hx : isN x = false) (hk : k < 23) : ∃ r, floatBits .quo .f64 x (pw k) = some r := by
  have hp : ∃ n j, n ≠ 0 ∧ Ieee.double.read (pw k) = .number false n j := by
    have : ∀ k : Fin 23, (match Ieee.double.read (pw k) with | .number false n _ => n != 0 | _ => false) = true := by decide +kernel
    have h := this ⟨k, hk⟩
    dsimp only at h
    split at h
    · rename_i n j e
      exact ⟨n, j, by simpa using h, e⟩
    · cases h
  obtain ⟨n, j, hn, e⟩ := hp
  show ∃ r, ((Ieee.double.read x).quotient _ (Ieee.double.read (pw k))).map _ = some r
  rw [e]
  rw [← read_isN] at hx
  generalize Ieee.double.read x = d at hx
  cases d with
  | number s m i =>
    simp only [Ieee.Datum.quotient]
    rw [if_neg hn]
    exact ⟨_, rfl⟩
  | infinity s => exact ⟨_, rfl⟩
  | nan s f => cases hx
theorem ofInt_isN (n : Int) : isN (floatOfInt .f64 n) = false := nearest_isN _ _ _
theorem fdV_some {s : ByteArray} {p : Nat} (h : FD s p) : floatBits .quo .f64 (floatOfInt .f64 (vD s p s.size : Int)) (pw (s.size - 1 - p)) = some (fdV s p) := by
  obtain ⟨r, hr⟩ := quo_some (ofInt_isN (vD s p s.size : Int)) (k := s.size - 1 - p) (by have := h.h3; omega)
  unfold fdV
  rw [fop_some hr]
  exact hr
theorem zero_quo : ∀ k : Fin 23, fop .quo (floatOfInt .f64 0) (pw k) = 0 := by decide +kernel
theorem fdV_zero {s : ByteArray} {p : Nat} (h : FD s p) (hz : vD s p s.size = 0) : fdV s p = 0 := by
  unfold fdV
  rw [hz]
  exact zero_quo ⟨s.size - 1 - p, by have := h.h3; omega⟩
set_option maxRecDepth 100000 in
set_option maxHeartbeats 8000000 in
theorem atof_any (s : ByteArray) (p : Nat) (w : World) (hg : GV w) (h : FD s p) : Calls Tryd.prog 55 #[.string s] w fun e w' => e = .returned (.tuple #[.float .f64 (fdV s p), .int .i64 s.size, .nilIface]) ∧ Below w.heap.size w w' := by
  have HB := Aside0.mk (Below.refl w.heap.size w)
  have HF := Lib.hid h
  have HG := Aside0.mk hg
  have tok_1 : True := trivial
  have tok_2 : True := trivial
  have tok_3 : True := trivial
  have tok_4 : True := trivial
  have HSP := Lib.hid (And.intro (show 0 < s.size by have := h.h2; omega) (show 48 ≤ bt s 0 ∧ bt s 0 ≤ 57 from h.dig 0 (by have := h.h2; omega) (by have := h.h1; omega)))
  have HV := Lib.hid (vD_15 h)
  by_cases hz : vD s p s.size = 0
  · have hpd : pD s p = 0 := by unfold pD; rw [if_pos hz]
    have HZ := Lib.hid (And.intro hz (And.intro hpd (fdV_zero h hz)))
    clear h hg hz hpd
    go_enter Tryd.func55, Tryd.ntmps55
    go_wp2_with (first | (clear tok_1; go_at_call 57; (with_reducible refine (special_any s _ HSP.out.1 HSP.out.2).mono ?_); rintro e w1 ⟨rfl, hb⟩; have n0_ := pxs HB hb; have n1_ := Aside0.mk (GV.later HG.out hb); clear HB HG hb; have HB := n0_; have HG := n1_; clear n0_ n1_; have o1_ := HG.out.opt) | (clear tok_2; go_at_call 58; (with_reducible refine (readfloat_any s p _ HF.out).mono ?_); rintro e w2 ⟨rfl, hb⟩; rw [HZ.out.1, HZ.out.2.1]; clear o1_; have n0_ := pxs HB hb; have n1_ := Aside0.mk (GV.later HG.out hb); clear HB HG hb; have HB := n0_; have HG := n1_; clear n0_ n1_; have o1_ := HG.out.opt) | (clear tok_3; go_at_call 66; (with_reducible refine (strconv_bool2_uint64.calls false 0 _ rfl).mono ?_); rintro e w3 ⟨rfl, hd⟩; have hb : Below w2.heap.size w2 w3 := (by obtain ⟨m, rfl⟩ := hd; exact pw_below_drewN (Below.refl _ _) m); clear hd; clear o1_; have n0_ := pxs HB hb; have n1_ := Aside0.mk (GV.later HG.out hb); clear HB HG hb; have HB := n0_; have HG := n1_; clear n0_ n1_; have o1_ := HG.out.opt; have z1_ : bits .or .u64 0 0 = 0 := (by decide); have z0_ : ∀ W : World, (callFunc 67 #[.int .u64 0]).run Tryd.prog W = .ok (.value (.float .f64 0)) W := fun W => run_from2 0 W))
    exact bodyPost_ret (v := .tuple #[.float .f64 0, .int .i64 s.size, .nilIface]) (by simp [results, Tryd.results55, go_sem]) rfl ⟨by rw [HZ.out.2.2], pxb HB⟩
  · have hpd : pD s p = -((s.size - 1 - p : Nat) : Int) := by unfold pD; rw [if_neg hz]
    have HK := Lib.hid (show 1 ≤ s.size - 1 - p ∧ s.size - 1 - p ≤ 22 by have := h.h2; have := h.h3; omega)
    have HR := Lib.hid (fdV_some h)
    have hk := HK.out
    obtain ⟨k, hkk⟩ : ∃ k, s.size - 1 - p = k := ⟨_, rfl⟩
    rw [hkk] at hk HK HR hpd
    have HPD := Lib.hid hpd
    have kz : ((vD s p s.size : Int) == 0) = false := beq_eq_false_iff_ne.2 (by omega)
    have k1 : decide (310 < -(k : Int)) = false := decide_eq_false (by omega)
    have k2 : decide (-(k : Int) < -345) = false := decide_eq_false (by omega)
    have k3 : decide (345 < k) = false := decide_eq_false (by omega)
    have k4 : decide (345 < (k : Int)) = false := decide_eq_false (by omega)
    clear h hg hz hpd hk hkk
    go_enter Tryd.func55, Tryd.ntmps55
    go_wp2_with (first | (clear tok_1; go_at_call 57; (with_reducible refine (special_any s _ HSP.out.1 HSP.out.2).mono ?_); rintro e w1 ⟨rfl, hb⟩; have n0_ := pxs HB hb; have n1_ := Aside0.mk (GV.later HG.out hb); clear HB HG hb; have HB := n0_; have HG := n1_; clear n0_ n1_; have o1_ := HG.out.opt) | (clear tok_2; go_at_call 58; (with_reducible refine (readfloat_any s p _ HF.out).mono ?_); rintro e w2 ⟨rfl, hb⟩; rw [HPD.out]; clear o1_; have n0_ := pxs HB hb; have n1_ := Aside0.mk (GV.later HG.out hb); clear HB HG hb; have HB := n0_; have HG := n1_; clear n0_ n1_; have o1_ := HG.out.opt) | (clear tok_3; go_at_call 66; (with_reducible refine (strconv_bool2_uint64.calls false 0 _ rfl).mono ?_); rintro e w3 ⟨rfl, hd⟩; have hb : Below w2.heap.size w2 w3 := (by obtain ⟨m, rfl⟩ := hd; exact pw_below_drewN (Below.refl _ _) m); clear hd; clear o1_; have n0_ := pxs HB hb; have n1_ := Aside0.mk (GV.later HG.out hb); clear HB HG hb; have HB := n0_; have HG := n1_; clear n0_ n1_; have o1_ := HG.out.opt; have z1_ : bits .or .u64 0 0 = 0 := (by decide); have z0_ : ∀ W : World, (callFunc 67 #[.int .u64 0]).run Tryd.prog W = .ok (.value (.float .f64 0)) W := fun W => run_from2 0 W) | (clear tok_4; go_at_call 68; (with_reducible refine (exact_any _ k _ _ HG.out (by have := HV.out; omega) HK.out.1 HK.out.2 HR.out).mono ?_); rintro e w4 ⟨rfl, hb⟩; clear o1_; have n0_ := pxs HB hb; have n1_ := Aside0.mk (GV.later HG.out hb); clear HB HG hb; have HB := n0_; have HG := n1_; clear n0_ n1_; have o1_ := HG.out.opt))
    exact bodyPost_ret (v := .tuple #[.float .f64 (fdV s p), .int .i64 s.size, .nilIface]) (by simp [results, Tryd.results55, go_sem]) rfl ⟨rfl, pxb HB⟩
set_option maxRecDepth 100000 in
set_option maxHeartbeats 8000000 in
theorem prefix_any (s : ByteArray) (p : Nat) (w : World) (hg : GV w) (h : FD s p) : Calls Tryd.prog 48 #[.string s, .int .i64 64] w fun e w' => e = .returned (.tuple #[.float .f64 (fdV s p), .int .i64 s.size, .nilIface]) ∧ Below w.heap.size w w' := by
  have HB := Aside0.mk (Below.refl w.heap.size w)
  have HF := Lib.hid h
  have HG := Aside0.mk hg
  have kE : ((s.size : Int) != (s.size : Int)) = false := by simp
  clear h hg
  go_enter Tryd.func48, Tryd.ntmps48
  go_wp2_with (first | (go_at_call 55; (with_reducible refine (atof_any s p _ HG.out HF.out).mono ?_); rintro e w1 ⟨rfl, hb⟩; have n0_ := pxs HB hb; clear HB hb; have HB := n0_; clear n0_))
  exact bodyPost_ret (v := .tuple #[.float .f64 (fdV s p), .int .i64 s.size, .nilIface]) (by simp [results, Tryd.results48, go_sem]) rfl ⟨rfl, pxb HB⟩
set_option maxRecDepth 100000 in
set_option maxHeartbeats 8000000 in
theorem iparse_any (s : ByteArray) (p : Nat) (w : World) (hg : GV w) (h : FD s p) : Calls Tryd.prog 42 #[.string s, .int .i64 64] w fun e w' => e = .returned (.tuple #[.float .f64 (fdV s p), .nilIface]) ∧ Below w.heap.size w w' := by
  have HB := Aside0.mk (Below.refl w.heap.size w)
  have HF := Lib.hid h
  have HG := Aside0.mk hg
  have kE : ((s.size : Int) != (s.size : Int)) = false := by simp
  clear h hg
  go_enter Tryd.func42, Tryd.ntmps42
  go_wp2_with (first | (go_at_call 48; (with_reducible refine (prefix_any s p _ HG.out HF.out).mono ?_); rintro e w1 ⟨rfl, hb⟩; have n0_ := pxs HB hb; clear HB hb; have HB := n0_; clear n0_))
  exact bodyPost_ret (v := .tuple #[.float .f64 (fdV s p), .nilIface]) (by simp [results, Tryd.results42, go_sem]) rfl ⟨rfl, pxb HB⟩
set_option maxRecDepth 100000 in
set_option maxHeartbeats 8000000 in
theorem sparse_any (s : ByteArray) (p : Nat) (w : World) (hg : GV w) (h : FD s p) : Calls Tryd.prog 36 #[.string s, .int .i64 64] w fun e w' => e = .returned (.tuple #[.float .f64 (fdV s p), .nilIface]) ∧ Below w.heap.size w w' := by
  have HB := Aside0.mk (Below.refl w.heap.size w)
  have HF := Lib.hid h
  have HG := Aside0.mk hg
  have kE : ((s.size : Int) != (s.size : Int)) = false := by simp
  clear h hg
  go_enter Tryd.func36, Tryd.ntmps36
  go_wp2_with (first | (go_at_call 42; (with_reducible refine (iparse_any s p _ HG.out HF.out).mono ?_); rintro e w1 ⟨rfl, hb⟩; have n0_ := pxs HB hb; clear HB hb; have HB := n0_; clear n0_))
  exact bodyPost_ret (v := .tuple #[.float .f64 (fdV s p), .nilIface]) (by simp [results, Tryd.results36, go_sem]) rfl ⟨rfl, pxb HB⟩
end Go.Proofs.YtbnopcndjdpnkaaDoor.NuW
