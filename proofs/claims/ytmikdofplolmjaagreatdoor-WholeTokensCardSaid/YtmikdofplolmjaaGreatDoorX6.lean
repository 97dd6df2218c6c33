/- What the program's functions answer, as Lean functions, and that each call does just that; no condition. Written by a program (px.py) out of the translation. -/
import Derived.Test.YtmikdofplolmjaaGreatDoorX0
import Derived.Test.YtmikdofplolmjaaGreatDoorX20
namespace Go.Proofs.YtmikdofplolmjaaGreatDoor.X
open Go.RowKit Go.Proofs.YtmikdofplolmjaaGreatDoorW.PrintWords Go.Proofs.YtmikdofplolmjaaGreatDoorW.PrintLast Go.Proofs.YtmikdofplolmjaaGreatDoorW.PrintMore
attribute [local go_sem] max2_int min2_int max_two min_two max_three min_three max_four min_four   -- for this text's walks alone
set_option linter.unusedVariables false
set_option linter.unusedSimpArgs false

/-! ### lex_Say: function 6 -/
def lex_Say.f (a0 : ByteArray) (a1_0 : Int) (a1_1 : Int) (a1_2 : Int) : Option (ByteArray) := (span_Text.f a0 a1_1 a1_2).bind fun bt143 => (some bt143.1)
set_option maxHeartbeats 8000000 in
set_option maxRecDepth 100000 in
theorem lex_Say.calls (a0 : ByteArray) (a1_0 : Int) (a1_1 : Int) (a1_2 : Int) (r : ByteArray) (w : World) (h : lex_Say.f a0 a1_0 a1_1 a1_2 = some r) :
  Calls Tryz.prog 6 #[.string a0, .agg #[.int .i64 a1_0, .int .i64 a1_1, .int .i64 a1_2]] w fun e w' => e = .returned (.string r) ∧ Below w.heap.size w w' := by
 have hu33 := Tryz.underlying33
 have hu31 := Tryz.underlying31
 have HB := Aside0.mk (Below.refl w.heap.size w)
 have H : ((span_Text.f a0 a1_1 a1_2).bind fun bt143 => (some bt143.1)) = some r := h
 clear h
 replace H := Option.bind_eq_some_iff.mp H
 obtain ⟨⟨t143, t144⟩, A30, H⟩ := H
 replace H : (some t143) = some r := H
 have A3 := Aside0.mk A30
 clear A30
 obtain rfl := Option.some.inj H
 go_enter Tryz.func6, Tryz.ntmps6
 go_wp2_with (first | ((with_reducible refine gate_dst (N := 3) rfl ?_); refine box_event ?hg (N := 3) ?hd (cs := #[.int .i64 a1_0, .int .i64 a1_1, .int .i64 a1_2]) (t := 33) ?hr ?_; (case hd => rfl); (case hg => rfl); (case hr => first | (go_simp; done) | (go_simp; rfl)); intro gb142 hg w4 hbox hb; have n0_ := pxs HB hb; have n1_ := Aside0.mk (hbox); have n2_ := Aside0.mk ((by rw [hg]; exact (below_size (pxb HB)) : w.heap.size ≤ gb142)); have n3_ := Aside0.mk ((by rw [hg]; exact (below_size (pxb HB)) : w.heap.size ≤ gb142)); clear HB; have HB := n0_; have BK142 := n1_; have GW142 := n2_; have GE142 := n3_; clear n0_ n1_ n2_ n3_; clear hb hbox hg; have hcz5_0 : w4.cell? ⟨gb142, 0, none⟩ = some (.int .i64 a1_0) := (blk_cell BK142.out 0).trans rfl; have hcz5_1 : w4.cell? ⟨gb142, 1, none⟩ = some (.int .i64 a1_1) := (blk_cell BK142.out 1).trans rfl; have hcz5_2 : w4.cell? ⟨gb142, 2, none⟩ = some (.int .i64 a1_2) := (blk_cell BK142.out 2).trans rfl; have hfz5_0 := blk_frozen BK142.out 0; have hfz5_1 := blk_frozen BK142.out 1; have hfz5_2 := blk_frozen BK142.out 2) | ((with_reducible refine gate_callee (f := 20) rfl ?_); refine goesL_ (some 11) rfl rfl Tryz.func20 (by kernel_rfl) rfl #[.string a0, .agg #[.int .i64 a1_1, .int .i64 a1_2]] rfl (by (try simp only [List.map_toArray, List.map_cons, List.map_nil]); first | done | rfl | (simp only [List.length_drop, List.length_take]; rfl)) ?_; (with_reducible refine (span_Text.calls a0 a1_1 a1_2 t143 t144 _ A3.out).mono ?_); rintro e w6 ⟨rfl, hb⟩; refine ⟨_, rfl, ?_⟩; have n0_ := pxk BK142 hb; have n1_ := pxs HB hb; clear BK142; clear HB; have BK142 := n0_; have HB := n1_; clear n0_ n1_; (try clear hb); (try clear hb2); (try clear hk); (try clear hi)))
 go_ret
 exact ⟨by first | rfl | (simp [errW_none, errW_some] <;> rfl) | (simp [*, errW_none, errW_some] <;> rfl), pxb HB⟩

end Go.Proofs.YtmikdofplolmjaaGreatDoor.X
