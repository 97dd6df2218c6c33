/- What the program's functions answer, as Lean functions, and that each call does just that; no condition. Written by a program (px.py) out of the translation. -/
import Derived.Test.YtbnopcndjdpnkaaDoorX0
import Derived.Test.YtbnopcndjdpnkaaDoorX24
import Derived.Test.YtbnopcndjdpnkaaDoorX10
import Derived.Test.YtbnopcndjdpnkaaDoorX23
import Derived.Test.YtbnopcndjdpnkaaDoorX25
import Derived.Test.YtbnopcndjdpnkaaDoorX26
import Derived.Test.YtbnopcndjdpnkaaDoorLexW
namespace Go.Proofs.YtbnopcndjdpnkaaDoor.X
open Go.RowKit Go.Proofs.YtbnopcndjdpnkaaDoorW.PrintWords Go.Proofs.YtbnopcndjdpnkaaDoorW.PrintLast Go.Proofs.YtbnopcndjdpnkaaDoorW.PrintMore
attribute [local go_sem] max2_int min2_int max_two min_two max_three min_three max_four min_four   -- for this text's walks alone
set_option linter.unusedVariables false
set_option linter.unusedSimpArgs false

/-! ### caulkerlaw05_NumCompares: function 7 -/
def caulkerlaw05_NumCompares.f (k : Nat) (a0 : ByteArray) (a1 : Int) (a2 : Int) : Option (Bool) := (caulkerlaw05_reckons.f k).bind fun t211 => (if t211 = true then ((num_Compare.f a0 (wrap64 (a1)) (wrap64 (a2))).bind fun bt212 => ((num_FloatCompare.f a0 a1 a2).bind fun bt214 => ((caulkerref05_Less.f k a1 a2).bind fun t216 => ((caulkerref05_Less.f k a2 a1).bind fun t217 => ((caulkerref05_Same.f a1 a2).bind fun t218 => (if a0.toList = ([61, 61] : List UInt8) then (if bt212.2 = 0 then (if bt214.2 = 0 then (if (bt212.1 == ((Go.bits .xor .u64 a1 9223372036854775808) == (Go.bits .xor .u64 a2 9223372036854775808))) = true then (some (bt214.1 == t218)) else (none)) else (none)) else (none)) else (if a0.toList = ([33, 61] : List UInt8) then (if bt212.2 = 0 then (if bt214.2 = 0 then (if (bt212.1 == ((Go.bits .xor .u64 a1 9223372036854775808) != (Go.bits .xor .u64 a2 9223372036854775808))) = true then (some (bt214.1 == (!t218))) else (none)) else (none)) else (none)) else (if a0.toList = ([60] : List UInt8) then (if bt212.2 = 0 then (if bt214.2 = 0 then (if (bt212.1 == (decide ((Go.bits .xor .u64 a1 9223372036854775808) < (Go.bits .xor .u64 a2 9223372036854775808)))) = true then (some (bt214.1 == t216)) else (none)) else (none)) else (none)) else (if a0.toList = ([60, 61] : List UInt8) then (if t216 = true then (if bt212.2 = 0 then (if bt214.2 = 0 then (if (bt212.1 == (decide ((Go.bits .xor .u64 a1 9223372036854775808) ≤ (Go.bits .xor .u64 a2 9223372036854775808)))) = true then (some (bt214.1 == true)) else (none)) else (none)) else (none)) else (if bt212.2 = 0 then (if bt214.2 = 0 then (if (bt212.1 == (decide ((Go.bits .xor .u64 a1 9223372036854775808) ≤ (Go.bits .xor .u64 a2 9223372036854775808)))) = true then (some (bt214.1 == t218)) else (none)) else (none)) else (none))) else (if a0.toList = ([62] : List UInt8) then (if bt212.2 = 0 then (if bt214.2 = 0 then (if (bt212.1 == (decide ((Go.bits .xor .u64 a1 9223372036854775808) > (Go.bits .xor .u64 a2 9223372036854775808)))) = true then (some (bt214.1 == t217)) else (none)) else (none)) else (none)) else (if a0.toList = ([62, 61] : List UInt8) then (if t217 = true then (if bt212.2 = 0 then (if bt214.2 = 0 then (if (bt212.1 == (decide ((Go.bits .xor .u64 a1 9223372036854775808) ≥ (Go.bits .xor .u64 a2 9223372036854775808)))) = true then (some (bt214.1 == true)) else (none)) else (none)) else (none)) else (if bt212.2 = 0 then (if bt214.2 = 0 then (if (bt212.1 == (decide ((Go.bits .xor .u64 a1 9223372036854775808) ≥ (Go.bits .xor .u64 a2 9223372036854775808)))) = true then (some (bt214.1 == t218)) else (none)) else (none)) else (none))) else (if bt212.2 = 3 then (if bt214.2 = 3 then (if bt212.1 = true then (none) else (some (!bt214.1))) else (none)) else (none))))))))))))) else (none))
theorem caulkerlaw05_NumCompares.mono : ∀ a0 a1 a2 k, LeO (caulkerlaw05_NumCompares.f k a0 a1 a2) (caulkerlaw05_NumCompares.f (k + 1) a0 a1 a2) := by
 intro a0 a1 a2 k
 unfold caulkerlaw05_NumCompares.f
 repeat' first
   | (with_reducible exact caulkerlaw05_reckons.mono _)
   | (with_reducible exact caulkerref05_Less.mono _ _ _)
   | (with_reducible exact LeO.refl _)
   | (with_reducible exact LeO.none _)
   | (with_reducible refine LeO.ite ?_ ?_)
   | (with_reducible refine LeO.bind ?_ (fun _ => ?_))
   | exact caulkerlaw05_reckons.mono _
   | exact caulkerref05_Less.mono _ _ _
   | exact LeO.none _
   | refine LeO.ite ?_ ?_
   | refine LeO.bind ?_ (fun _ => ?_)
set_option maxHeartbeats 8000000 in
set_option maxRecDepth 100000 in
theorem caulkerlaw05_NumCompares.calls (k : Nat) (a0 : ByteArray) (a1 : Int) (a2 : Int) (r : Bool) (w : World) (h : caulkerlaw05_NumCompares.f k a0 a1 a2 = some r) (hgv : LexW.GV w) :
  Calls Tryd.prog 7 #[.string a0, .int .u64 a1, .int .u64 a2] w fun e w' => e = .returned (.bool r) ∧ Below w.heap.size w w' := by
 have HGV := Aside0.mk hgv
 clear hgv
 have HB := Aside0.mk (Below.refl w.heap.size w)
 have H : ((caulkerlaw05_reckons.f k).bind fun t211 => (if t211 = true then ((num_Compare.f a0 (wrap64 (a1)) (wrap64 (a2))).bind fun bt212 => ((num_FloatCompare.f a0 a1 a2).bind fun bt214 => ((caulkerref05_Less.f k a1 a2).bind fun t216 => ((caulkerref05_Less.f k a2 a1).bind fun t217 => ((caulkerref05_Same.f a1 a2).bind fun t218 => (if a0.toList = ([61, 61] : List UInt8) then (if bt212.2 = 0 then (if bt214.2 = 0 then (if (bt212.1 == ((Go.bits .xor .u64 a1 9223372036854775808) == (Go.bits .xor .u64 a2 9223372036854775808))) = true then (some (bt214.1 == t218)) else (none)) else (none)) else (none)) else (if a0.toList = ([33, 61] : List UInt8) then (if bt212.2 = 0 then (if bt214.2 = 0 then (if (bt212.1 == ((Go.bits .xor .u64 a1 9223372036854775808) != (Go.bits .xor .u64 a2 9223372036854775808))) = true then (some (bt214.1 == (!t218))) else (none)) else (none)) else (none)) else (if a0.toList = ([60] : List UInt8) then (if bt212.2 = 0 then (if bt214.2 = 0 then (if (bt212.1 == (decide ((Go.bits .xor .u64 a1 9223372036854775808) < (Go.bits .xor .u64 a2 9223372036854775808)))) = true then (some (bt214.1 == t216)) else (none)) else (none)) else (none)) else (if a0.toList = ([60, 61] : List UInt8) then (if t216 = true then (if bt212.2 = 0 then (if bt214.2 = 0 then (if (bt212.1 == (decide ((Go.bits .xor .u64 a1 9223372036854775808) ≤ (Go.bits .xor .u64 a2 9223372036854775808)))) = true then (some (bt214.1 == true)) else (none)) else (none)) else (none)) else (if bt212.2 = 0 then (if bt214.2 = 0 then (if (bt212.1 == (decide ((Go.bits .xor .u64 a1 9223372036854775808) ≤ (Go.bits .xor .u64 a2 9223372036854775808)))) = true then (some (bt214.1 == t218)) else (none)) else (none)) else (none))) else (if a0.toList = ([62] : List UInt8) then (if bt212.2 = 0 then (if bt214.2 = 0 then (if (bt212.1 == (decide ((Go.bits .xor .u64 a1 9223372036854775808) > (Go.bits .xor .u64 a2 9223372036854775808)))) = true then (some (bt214.1 == t217)) else (none)) else (none)) else (none)) else (if a0.toList = ([62, 61] : List UInt8) then (if t217 = true then (if bt212.2 = 0 then (if bt214.2 = 0 then (if (bt212.1 == (decide ((Go.bits .xor .u64 a1 9223372036854775808) ≥ (Go.bits .xor .u64 a2 9223372036854775808)))) = true then (some (bt214.1 == true)) else (none)) else (none)) else (none)) else (if bt212.2 = 0 then (if bt214.2 = 0 then (if (bt212.1 == (decide ((Go.bits .xor .u64 a1 9223372036854775808) ≥ (Go.bits .xor .u64 a2 9223372036854775808)))) = true then (some (bt214.1 == t218)) else (none)) else (none)) else (none))) else (if bt212.2 = 3 then (if bt214.2 = 3 then (if bt212.1 = true then (none) else (some (!bt214.1))) else (none)) else (none))))))))))))) else (none))) = some r := h
 clear h
 replace H := Option.bind_eq_some_iff.mp H
 obtain ⟨t211, A40, H⟩ := H
 replace H : (if t211 = true then ((num_Compare.f a0 (wrap64 (a1)) (wrap64 (a2))).bind fun bt212 => ((num_FloatCompare.f a0 a1 a2).bind fun bt214 => ((caulkerref05_Less.f k a1 a2).bind fun t216 => ((caulkerref05_Less.f k a2 a1).bind fun t217 => ((caulkerref05_Same.f a1 a2).bind fun t218 => (if a0.toList = ([61, 61] : List UInt8) then (if bt212.2 = 0 then (if bt214.2 = 0 then (if (bt212.1 == ((Go.bits .xor .u64 a1 9223372036854775808) == (Go.bits .xor .u64 a2 9223372036854775808))) = true then (some (bt214.1 == t218)) else (none)) else (none)) else (none)) else (if a0.toList = ([33, 61] : List UInt8) then (if bt212.2 = 0 then (if bt214.2 = 0 then (if (bt212.1 == ((Go.bits .xor .u64 a1 9223372036854775808) != (Go.bits .xor .u64 a2 9223372036854775808))) = true then (some (bt214.1 == (!t218))) else (none)) else (none)) else (none)) else (if a0.toList = ([60] : List UInt8) then (if bt212.2 = 0 then (if bt214.2 = 0 then (if (bt212.1 == (decide ((Go.bits .xor .u64 a1 9223372036854775808) < (Go.bits .xor .u64 a2 9223372036854775808)))) = true then (some (bt214.1 == t216)) else (none)) else (none)) else (none)) else (if a0.toList = ([60, 61] : List UInt8) then (if t216 = true then (if bt212.2 = 0 then (if bt214.2 = 0 then (if (bt212.1 == (decide ((Go.bits .xor .u64 a1 9223372036854775808) ≤ (Go.bits .xor .u64 a2 9223372036854775808)))) = true then (some (bt214.1 == true)) else (none)) else (none)) else (none)) else (if bt212.2 = 0 then (if bt214.2 = 0 then (if (bt212.1 == (decide ((Go.bits .xor .u64 a1 9223372036854775808) ≤ (Go.bits .xor .u64 a2 9223372036854775808)))) = true then (some (bt214.1 == t218)) else (none)) else (none)) else (none))) else (if a0.toList = ([62] : List UInt8) then (if bt212.2 = 0 then (if bt214.2 = 0 then (if (bt212.1 == (decide ((Go.bits .xor .u64 a1 9223372036854775808) > (Go.bits .xor .u64 a2 9223372036854775808)))) = true then (some (bt214.1 == t217)) else (none)) else (none)) else (none)) else (if a0.toList = ([62, 61] : List UInt8) then (if t217 = true then (if bt212.2 = 0 then (if bt214.2 = 0 then (if (bt212.1 == (decide ((Go.bits .xor .u64 a1 9223372036854775808) ≥ (Go.bits .xor .u64 a2 9223372036854775808)))) = true then (some (bt214.1 == true)) else (none)) else (none)) else (none)) else (if bt212.2 = 0 then (if bt214.2 = 0 then (if (bt212.1 == (decide ((Go.bits .xor .u64 a1 9223372036854775808) ≥ (Go.bits .xor .u64 a2 9223372036854775808)))) = true then (some (bt214.1 == t218)) else (none)) else (none)) else (none))) else (if bt212.2 = 3 then (if bt214.2 = 3 then (if bt212.1 = true then (none) else (some (!bt214.1))) else (none)) else (none))))))))))))) else (none)) = some r := H
 have A4 := Aside0.mk A40
 clear A40
 by_cases c5 : t211 = true
 ·subst c5
  have H1 : ((num_Compare.f a0 (wrap64 (a1)) (wrap64 (a2))).bind fun bt212 => ((num_FloatCompare.f a0 a1 a2).bind fun bt214 => ((caulkerref05_Less.f k a1 a2).bind fun t216 => ((caulkerref05_Less.f k a2 a1).bind fun t217 => ((caulkerref05_Same.f a1 a2).bind fun t218 => (if a0.toList = ([61, 61] : List UInt8) then (if bt212.2 = 0 then (if bt214.2 = 0 then (if (bt212.1 == ((Go.bits .xor .u64 a1 9223372036854775808) == (Go.bits .xor .u64 a2 9223372036854775808))) = true then (some (bt214.1 == t218)) else (none)) else (none)) else (none)) else (if a0.toList = ([33, 61] : List UInt8) then (if bt212.2 = 0 then (if bt214.2 = 0 then (if (bt212.1 == ((Go.bits .xor .u64 a1 9223372036854775808) != (Go.bits .xor .u64 a2 9223372036854775808))) = true then (some (bt214.1 == (!t218))) else (none)) else (none)) else (none)) else (if a0.toList = ([60] : List UInt8) then (if bt212.2 = 0 then (if bt214.2 = 0 then (if (bt212.1 == (decide ((Go.bits .xor .u64 a1 9223372036854775808) < (Go.bits .xor .u64 a2 9223372036854775808)))) = true then (some (bt214.1 == t216)) else (none)) else (none)) else (none)) else (if a0.toList = ([60, 61] : List UInt8) then (if t216 = true then (if bt212.2 = 0 then (if bt214.2 = 0 then (if (bt212.1 == (decide ((Go.bits .xor .u64 a1 9223372036854775808) ≤ (Go.bits .xor .u64 a2 9223372036854775808)))) = true then (some (bt214.1 == true)) else (none)) else (none)) else (none)) else (if bt212.2 = 0 then (if bt214.2 = 0 then (if (bt212.1 == (decide ((Go.bits .xor .u64 a1 9223372036854775808) ≤ (Go.bits .xor .u64 a2 9223372036854775808)))) = true then (some (bt214.1 == t218)) else (none)) else (none)) else (none))) else (if a0.toList = ([62] : List UInt8) then (if bt212.2 = 0 then (if bt214.2 = 0 then (if (bt212.1 == (decide ((Go.bits .xor .u64 a1 9223372036854775808) > (Go.bits .xor .u64 a2 9223372036854775808)))) = true then (some (bt214.1 == t217)) else (none)) else (none)) else (none)) else (if a0.toList = ([62, 61] : List UInt8) then (if t217 = true then (if bt212.2 = 0 then (if bt214.2 = 0 then (if (bt212.1 == (decide ((Go.bits .xor .u64 a1 9223372036854775808) ≥ (Go.bits .xor .u64 a2 9223372036854775808)))) = true then (some (bt214.1 == true)) else (none)) else (none)) else (none)) else (if bt212.2 = 0 then (if bt214.2 = 0 then (if (bt212.1 == (decide ((Go.bits .xor .u64 a1 9223372036854775808) ≥ (Go.bits .xor .u64 a2 9223372036854775808)))) = true then (some (bt214.1 == t218)) else (none)) else (none)) else (none))) else (if bt212.2 = 3 then (if bt214.2 = 3 then (if bt212.1 = true then (none) else (some (!bt214.1))) else (none)) else (none))))))))))))) = some r := by rw [if_pos rfl] at H; exact H
  clear H
  have H := H1
  clear H1
  replace H := Option.bind_eq_some_iff.mp H
  obtain ⟨⟨t212, t213⟩, A60, H⟩ := H
  replace H : ((num_FloatCompare.f a0 a1 a2).bind fun bt214 => ((caulkerref05_Less.f k a1 a2).bind fun t216 => ((caulkerref05_Less.f k a2 a1).bind fun t217 => ((caulkerref05_Same.f a1 a2).bind fun t218 => (if a0.toList = ([61, 61] : List UInt8) then (if t213 = 0 then (if bt214.2 = 0 then (if (t212 == ((Go.bits .xor .u64 a1 9223372036854775808) == (Go.bits .xor .u64 a2 9223372036854775808))) = true then (some (bt214.1 == t218)) else (none)) else (none)) else (none)) else (if a0.toList = ([33, 61] : List UInt8) then (if t213 = 0 then (if bt214.2 = 0 then (if (t212 == ((Go.bits .xor .u64 a1 9223372036854775808) != (Go.bits .xor .u64 a2 9223372036854775808))) = true then (some (bt214.1 == (!t218))) else (none)) else (none)) else (none)) else (if a0.toList = ([60] : List UInt8) then (if t213 = 0 then (if bt214.2 = 0 then (if (t212 == (decide ((Go.bits .xor .u64 a1 9223372036854775808) < (Go.bits .xor .u64 a2 9223372036854775808)))) = true then (some (bt214.1 == t216)) else (none)) else (none)) else (none)) else (if a0.toList = ([60, 61] : List UInt8) then (if t216 = true then (if t213 = 0 then (if bt214.2 = 0 then (if (t212 == (decide ((Go.bits .xor .u64 a1 9223372036854775808) ≤ (Go.bits .xor .u64 a2 9223372036854775808)))) = true then (some (bt214.1 == true)) else (none)) else (none)) else (none)) else (if t213 = 0 then (if bt214.2 = 0 then (if (t212 == (decide ((Go.bits .xor .u64 a1 9223372036854775808) ≤ (Go.bits .xor .u64 a2 9223372036854775808)))) = true then (some (bt214.1 == t218)) else (none)) else (none)) else (none))) else (if a0.toList = ([62] : List UInt8) then (if t213 = 0 then (if bt214.2 = 0 then (if (t212 == (decide ((Go.bits .xor .u64 a1 9223372036854775808) > (Go.bits .xor .u64 a2 9223372036854775808)))) = true then (some (bt214.1 == t217)) else (none)) else (none)) else (none)) else (if a0.toList = ([62, 61] : List UInt8) then (if t217 = true then (if t213 = 0 then (if bt214.2 = 0 then (if (t212 == (decide ((Go.bits .xor .u64 a1 9223372036854775808) ≥ (Go.bits .xor .u64 a2 9223372036854775808)))) = true then (some (bt214.1 == true)) else (none)) else (none)) else (none)) else (if t213 = 0 then (if bt214.2 = 0 then (if (t212 == (decide ((Go.bits .xor .u64 a1 9223372036854775808) ≥ (Go.bits .xor .u64 a2 9223372036854775808)))) = true then (some (bt214.1 == t218)) else (none)) else (none)) else (none))) else (if t213 = 3 then (if bt214.2 = 3 then (if t212 = true then (none) else (some (!bt214.1))) else (none)) else (none)))))))))))) = some r := H
  have A6 := Aside0.mk A60
  clear A60
  replace H := Option.bind_eq_some_iff.mp H
  obtain ⟨⟨t214, t215⟩, A70, H⟩ := H
  replace H : ((caulkerref05_Less.f k a1 a2).bind fun t216 => ((caulkerref05_Less.f k a2 a1).bind fun t217 => ((caulkerref05_Same.f a1 a2).bind fun t218 => (if a0.toList = ([61, 61] : List UInt8) then (if t213 = 0 then (if t215 = 0 then (if (t212 == ((Go.bits .xor .u64 a1 9223372036854775808) == (Go.bits .xor .u64 a2 9223372036854775808))) = true then (some (t214 == t218)) else (none)) else (none)) else (none)) else (if a0.toList = ([33, 61] : List UInt8) then (if t213 = 0 then (if t215 = 0 then (if (t212 == ((Go.bits .xor .u64 a1 9223372036854775808) != (Go.bits .xor .u64 a2 9223372036854775808))) = true then (some (t214 == (!t218))) else (none)) else (none)) else (none)) else (if a0.toList = ([60] : List UInt8) then (if t213 = 0 then (if t215 = 0 then (if (t212 == (decide ((Go.bits .xor .u64 a1 9223372036854775808) < (Go.bits .xor .u64 a2 9223372036854775808)))) = true then (some (t214 == t216)) else (none)) else (none)) else (none)) else (if a0.toList = ([60, 61] : List UInt8) then (if t216 = true then (if t213 = 0 then (if t215 = 0 then (if (t212 == (decide ((Go.bits .xor .u64 a1 9223372036854775808) ≤ (Go.bits .xor .u64 a2 9223372036854775808)))) = true then (some (t214 == true)) else (none)) else (none)) else (none)) else (if t213 = 0 then (if t215 = 0 then (if (t212 == (decide ((Go.bits .xor .u64 a1 9223372036854775808) ≤ (Go.bits .xor .u64 a2 9223372036854775808)))) = true then (some (t214 == t218)) else (none)) else (none)) else (none))) else (if a0.toList = ([62] : List UInt8) then (if t213 = 0 then (if t215 = 0 then (if (t212 == (decide ((Go.bits .xor .u64 a1 9223372036854775808) > (Go.bits .xor .u64 a2 9223372036854775808)))) = true then (some (t214 == t217)) else (none)) else (none)) else (none)) else (if a0.toList = ([62, 61] : List UInt8) then (if t217 = true then (if t213 = 0 then (if t215 = 0 then (if (t212 == (decide ((Go.bits .xor .u64 a1 9223372036854775808) ≥ (Go.bits .xor .u64 a2 9223372036854775808)))) = true then (some (t214 == true)) else (none)) else (none)) else (none)) else (if t213 = 0 then (if t215 = 0 then (if (t212 == (decide ((Go.bits .xor .u64 a1 9223372036854775808) ≥ (Go.bits .xor .u64 a2 9223372036854775808)))) = true then (some (t214 == t218)) else (none)) else (none)) else (none))) else (if t213 = 3 then (if t215 = 3 then (if t212 = true then (none) else (some (!t214))) else (none)) else (none))))))))))) = some r := H
  have A7 := Aside0.mk A70
  clear A70
  replace H := Option.bind_eq_some_iff.mp H
  obtain ⟨t216, A80, H⟩ := H
  replace H : ((caulkerref05_Less.f k a2 a1).bind fun t217 => ((caulkerref05_Same.f a1 a2).bind fun t218 => (if a0.toList = ([61, 61] : List UInt8) then (if t213 = 0 then (if t215 = 0 then (if (t212 == ((Go.bits .xor .u64 a1 9223372036854775808) == (Go.bits .xor .u64 a2 9223372036854775808))) = true then (some (t214 == t218)) else (none)) else (none)) else (none)) else (if a0.toList = ([33, 61] : List UInt8) then (if t213 = 0 then (if t215 = 0 then (if (t212 == ((Go.bits .xor .u64 a1 9223372036854775808) != (Go.bits .xor .u64 a2 9223372036854775808))) = true then (some (t214 == (!t218))) else (none)) else (none)) else (none)) else (if a0.toList = ([60] : List UInt8) then (if t213 = 0 then (if t215 = 0 then (if (t212 == (decide ((Go.bits .xor .u64 a1 9223372036854775808) < (Go.bits .xor .u64 a2 9223372036854775808)))) = true then (some (t214 == t216)) else (none)) else (none)) else (none)) else (if a0.toList = ([60, 61] : List UInt8) then (if t216 = true then (if t213 = 0 then (if t215 = 0 then (if (t212 == (decide ((Go.bits .xor .u64 a1 9223372036854775808) ≤ (Go.bits .xor .u64 a2 9223372036854775808)))) = true then (some (t214 == true)) else (none)) else (none)) else (none)) else (if t213 = 0 then (if t215 = 0 then (if (t212 == (decide ((Go.bits .xor .u64 a1 9223372036854775808) ≤ (Go.bits .xor .u64 a2 9223372036854775808)))) = true then (some (t214 == t218)) else (none)) else (none)) else (none))) else (if a0.toList = ([62] : List UInt8) then (if t213 = 0 then (if t215 = 0 then (if (t212 == (decide ((Go.bits .xor .u64 a1 9223372036854775808) > (Go.bits .xor .u64 a2 9223372036854775808)))) = true then (some (t214 == t217)) else (none)) else (none)) else (none)) else (if a0.toList = ([62, 61] : List UInt8) then (if t217 = true then (if t213 = 0 then (if t215 = 0 then (if (t212 == (decide ((Go.bits .xor .u64 a1 9223372036854775808) ≥ (Go.bits .xor .u64 a2 9223372036854775808)))) = true then (some (t214 == true)) else (none)) else (none)) else (none)) else (if t213 = 0 then (if t215 = 0 then (if (t212 == (decide ((Go.bits .xor .u64 a1 9223372036854775808) ≥ (Go.bits .xor .u64 a2 9223372036854775808)))) = true then (some (t214 == t218)) else (none)) else (none)) else (none))) else (if t213 = 3 then (if t215 = 3 then (if t212 = true then (none) else (some (!t214))) else (none)) else (none)))))))))) = some r := H
  have A8 := Aside0.mk A80
  clear A80
  replace H := Option.bind_eq_some_iff.mp H
  obtain ⟨t217, A90, H⟩ := H
  replace H : ((caulkerref05_Same.f a1 a2).bind fun t218 => (if a0.toList = ([61, 61] : List UInt8) then (if t213 = 0 then (if t215 = 0 then (if (t212 == ((Go.bits .xor .u64 a1 9223372036854775808) == (Go.bits .xor .u64 a2 9223372036854775808))) = true then (some (t214 == t218)) else (none)) else (none)) else (none)) else (if a0.toList = ([33, 61] : List UInt8) then (if t213 = 0 then (if t215 = 0 then (if (t212 == ((Go.bits .xor .u64 a1 9223372036854775808) != (Go.bits .xor .u64 a2 9223372036854775808))) = true then (some (t214 == (!t218))) else (none)) else (none)) else (none)) else (if a0.toList = ([60] : List UInt8) then (if t213 = 0 then (if t215 = 0 then (if (t212 == (decide ((Go.bits .xor .u64 a1 9223372036854775808) < (Go.bits .xor .u64 a2 9223372036854775808)))) = true then (some (t214 == t216)) else (none)) else (none)) else (none)) else (if a0.toList = ([60, 61] : List UInt8) then (if t216 = true then (if t213 = 0 then (if t215 = 0 then (if (t212 == (decide ((Go.bits .xor .u64 a1 9223372036854775808) ≤ (Go.bits .xor .u64 a2 9223372036854775808)))) = true then (some (t214 == true)) else (none)) else (none)) else (none)) else (if t213 = 0 then (if t215 = 0 then (if (t212 == (decide ((Go.bits .xor .u64 a1 9223372036854775808) ≤ (Go.bits .xor .u64 a2 9223372036854775808)))) = true then (some (t214 == t218)) else (none)) else (none)) else (none))) else (if a0.toList = ([62] : List UInt8) then (if t213 = 0 then (if t215 = 0 then (if (t212 == (decide ((Go.bits .xor .u64 a1 9223372036854775808) > (Go.bits .xor .u64 a2 9223372036854775808)))) = true then (some (t214 == t217)) else (none)) else (none)) else (none)) else (if a0.toList = ([62, 61] : List UInt8) then (if t217 = true then (if t213 = 0 then (if t215 = 0 then (if (t212 == (decide ((Go.bits .xor .u64 a1 9223372036854775808) ≥ (Go.bits .xor .u64 a2 9223372036854775808)))) = true then (some (t214 == true)) else (none)) else (none)) else (none)) else (if t213 = 0 then (if t215 = 0 then (if (t212 == (decide ((Go.bits .xor .u64 a1 9223372036854775808) ≥ (Go.bits .xor .u64 a2 9223372036854775808)))) = true then (some (t214 == t218)) else (none)) else (none)) else (none))) else (if t213 = 3 then (if t215 = 3 then (if t212 = true then (none) else (some (!t214))) else (none)) else (none))))))))) = some r := H
  have A9 := Aside0.mk A90
  clear A90
  replace H := Option.bind_eq_some_iff.mp H
  obtain ⟨t218, A100, H⟩ := H
  replace H : (if a0.toList = ([61, 61] : List UInt8) then (if t213 = 0 then (if t215 = 0 then (if (t212 == ((Go.bits .xor .u64 a1 9223372036854775808) == (Go.bits .xor .u64 a2 9223372036854775808))) = true then (some (t214 == t218)) else (none)) else (none)) else (none)) else (if a0.toList = ([33, 61] : List UInt8) then (if t213 = 0 then (if t215 = 0 then (if (t212 == ((Go.bits .xor .u64 a1 9223372036854775808) != (Go.bits .xor .u64 a2 9223372036854775808))) = true then (some (t214 == (!t218))) else (none)) else (none)) else (none)) else (if a0.toList = ([60] : List UInt8) then (if t213 = 0 then (if t215 = 0 then (if (t212 == (decide ((Go.bits .xor .u64 a1 9223372036854775808) < (Go.bits .xor .u64 a2 9223372036854775808)))) = true then (some (t214 == t216)) else (none)) else (none)) else (none)) else (if a0.toList = ([60, 61] : List UInt8) then (if t216 = true then (if t213 = 0 then (if t215 = 0 then (if (t212 == (decide ((Go.bits .xor .u64 a1 9223372036854775808) ≤ (Go.bits .xor .u64 a2 9223372036854775808)))) = true then (some (t214 == true)) else (none)) else (none)) else (none)) else (if t213 = 0 then (if t215 = 0 then (if (t212 == (decide ((Go.bits .xor .u64 a1 9223372036854775808) ≤ (Go.bits .xor .u64 a2 9223372036854775808)))) = true then (some (t214 == t218)) else (none)) else (none)) else (none))) else (if a0.toList = ([62] : List UInt8) then (if t213 = 0 then (if t215 = 0 then (if (t212 == (decide ((Go.bits .xor .u64 a1 9223372036854775808) > (Go.bits .xor .u64 a2 9223372036854775808)))) = true then (some (t214 == t217)) else (none)) else (none)) else (none)) else (if a0.toList = ([62, 61] : List UInt8) then (if t217 = true then (if t213 = 0 then (if t215 = 0 then (if (t212 == (decide ((Go.bits .xor .u64 a1 9223372036854775808) ≥ (Go.bits .xor .u64 a2 9223372036854775808)))) = true then (some (t214 == true)) else (none)) else (none)) else (none)) else (if t213 = 0 then (if t215 = 0 then (if (t212 == (decide ((Go.bits .xor .u64 a1 9223372036854775808) ≥ (Go.bits .xor .u64 a2 9223372036854775808)))) = true then (some (t214 == t218)) else (none)) else (none)) else (none))) else (if t213 = 3 then (if t215 = 3 then (if t212 = true then (none) else (some (!t214))) else (none)) else (none)))))))) = some r := H
  have A10 := Aside0.mk A100
  clear A100
  by_cases c11 : a0.toList = ([61, 61] : List UInt8)
  ·rw [if_pos c11] at H
   have c11b0 : (a0.toList == ([61, 61] : List UInt8)) = true := beq_iff_eq.mpr c11
   have c11b1 : (a0.toList != ([61, 61] : List UInt8)) = false := bne_eq_false_iff_eq.mpr c11
   clear c11
   by_cases c12 : t213 = 0
   ·rw [if_pos c12] at H
    have c12b0 : (t213 == 0) = true := beq_iff_eq.mpr c12
    have c12b1 : (t213 != 0) = false := bne_eq_false_iff_eq.mpr c12
    clear c12
    by_cases c13 : t215 = 0
    ·rw [if_pos c13] at H
     have c13b0 : (t215 == 0) = true := beq_iff_eq.mpr c13
     have c13b1 : (t215 != 0) = false := bne_eq_false_iff_eq.mpr c13
     clear c13
     by_cases c14 : (t212 == ((Go.bits .xor .u64 a1 9223372036854775808) == (Go.bits .xor .u64 a2 9223372036854775808))) = true
     ·rw [if_pos c14] at H
      have c14b0 : (t212 == ((Go.bits .xor .u64 a1 9223372036854775808) == (Go.bits .xor .u64 a2 9223372036854775808))) = true := c14
      (try (have c14b1 : decide (t212 = ((Go.bits .xor .u64 a1 9223372036854775808) == (Go.bits .xor .u64 a2 9223372036854775808))) = true := by simpa using c14))
      (try (have c14b2 : (t212 == ((Go.bits .xor .u64 a1 9223372036854775808) == (Go.bits .xor .u64 a2 9223372036854775808))) = true := by simpa using c14))
      clear c14
      obtain rfl := Option.some.inj H
      go_enter Tryd.func7, Tryd.ntmps7
      go_wp2_with (first | ((with_reducible refine gate_callee (f := 10) rfl ?_); refine goesL_ (some 18) rfl rfl Tryd.func10 (by kernel_rfl) rfl #[] rfl (by (try simp only [List.map_toArray, List.map_cons, List.map_nil]); first | done | rfl | (simp only [List.length_drop, List.length_take]; rfl)) ?_; (with_reducible refine (caulkerlaw05_reckons.calls k  true _ A4.out ?gv).mono ?_); (case gv => first | exact LexW.GV.later HGV.out (pxb HB) | (repeat (first | exact HGV.out | apply LexW.GV.drewN))); rintro e w15 ⟨rfl, hb⟩; refine ⟨_, rfl, ?_⟩; have n0_ := pxs HB hb; clear HB; have HB := n0_; clear n0_; (try clear hb); (try clear hb2); (try clear hk); (try clear hi)) | ((with_reducible refine gate_callee (f := 23) rfl ?_); refine goesL_ (some 26) rfl rfl Tryd.func23 (by kernel_rfl) rfl #[.string a0, .int .i64 (wrap64 (a1)), .int .i64 (wrap64 (a2))] rfl (by (try simp only [List.map_toArray, List.map_cons, List.map_nil]); first | done | rfl | (simp only [List.length_drop, List.length_take]; rfl)) ?_; (with_reducible refine (num_Compare.calls a0 (wrap64 (a1)) (wrap64 (a2)) t212 t213 _ A6.out).mono ?_); rintro e w' ⟨rfl, ⟨nd, rfl⟩⟩; refine ⟨_, rfl, ?_⟩) | ((with_reducible refine gate_callee (f := 24) rfl ?_); refine goesL_ (some 33) rfl rfl Tryd.func24 (by kernel_rfl) rfl #[.string a0, .int .u64 a1, .int .u64 a2] rfl (by (try simp only [List.map_toArray, List.map_cons, List.map_nil]); first | done | rfl | (simp only [List.length_drop, List.length_take]; rfl)) ?_; (with_reducible refine (num_FloatCompare.calls a0 a1 a2 t214 t215 _ A7.out).mono ?_); rintro e w' ⟨rfl, ⟨nd, rfl⟩⟩; refine ⟨_, rfl, ?_⟩) | ((with_reducible refine gate_callee (f := 25) rfl ?_); refine goesL_ (some 42) rfl rfl Tryd.func25 (by kernel_rfl) rfl #[.int .u64 a1, .int .u64 a2] rfl (by (try simp only [List.map_toArray, List.map_cons, List.map_nil]); first | done | rfl | (simp only [List.length_drop, List.length_take]; rfl)) ?_; (with_reducible refine (caulkerref05_Less.calls k a1 a2 t216 _ A8.out).mono ?_); rintro e w' ⟨rfl, ⟨nd, rfl⟩⟩; refine ⟨_, rfl, ?_⟩) | ((with_reducible refine gate_callee (f := 25) rfl ?_); refine goesL_ (some 45) rfl rfl Tryd.func25 (by kernel_rfl) rfl #[.int .u64 a2, .int .u64 a1] rfl (by (try simp only [List.map_toArray, List.map_cons, List.map_nil]); first | done | rfl | (simp only [List.length_drop, List.length_take]; rfl)) ?_; (with_reducible refine (caulkerref05_Less.calls k a2 a1 t217 _ A9.out).mono ?_); rintro e w' ⟨rfl, ⟨nd, rfl⟩⟩; refine ⟨_, rfl, ?_⟩) | ((with_reducible refine gate_callee (f := 26) rfl ?_); refine goesL_ (some 48) rfl rfl Tryd.func26 (by kernel_rfl) rfl #[.int .u64 a1, .int .u64 a2] rfl (by (try simp only [List.map_toArray, List.map_cons, List.map_nil]); first | done | rfl | (simp only [List.length_drop, List.length_take]; rfl)) ?_; (with_reducible refine (caulkerref05_Same.calls a1 a2 t218 _ A10.out).mono ?_); rintro e w' ⟨rfl, ⟨nd, rfl⟩⟩; refine ⟨_, rfl, ?_⟩))
      go_ret
      exact ⟨by first | rfl | (simp [errW_none, errW_some] <;> rfl) | (simp [*, errW_none, errW_some] <;> rfl), pxb HB⟩
     ·rw [if_neg c14] at H
      exact absurd H (by simp)
    ·rw [if_neg c13] at H
     exact absurd H (by simp)
   ·rw [if_neg c12] at H
    exact absurd H (by simp)
  ·rw [if_neg c11] at H
   have c11b0 : (a0.toList == ([61, 61] : List UInt8)) = false := beq_eq_false_iff_ne.mpr c11
   have c11b1 : (a0.toList != ([61, 61] : List UInt8)) = true := bne_iff_ne.mpr c11
   by_cases c16 : a0.toList = ([33, 61] : List UInt8)
   ·rw [if_pos c16] at H
    have c16b0 : (a0.toList == ([33, 61] : List UInt8)) = true := beq_iff_eq.mpr c16
    have c16b1 : (a0.toList != ([33, 61] : List UInt8)) = false := bne_eq_false_iff_eq.mpr c16
    clear c16
    by_cases c17 : t213 = 0
    ·rw [if_pos c17] at H
     have c17b0 : (t213 == 0) = true := beq_iff_eq.mpr c17
     have c17b1 : (t213 != 0) = false := bne_eq_false_iff_eq.mpr c17
     clear c17
     by_cases c18 : t215 = 0
     ·rw [if_pos c18] at H
      have c18b0 : (t215 == 0) = true := beq_iff_eq.mpr c18
      have c18b1 : (t215 != 0) = false := bne_eq_false_iff_eq.mpr c18
      clear c18
      by_cases c19 : (t212 == ((Go.bits .xor .u64 a1 9223372036854775808) != (Go.bits .xor .u64 a2 9223372036854775808))) = true
      ·rw [if_pos c19] at H
       have c19b0 : (t212 == ((Go.bits .xor .u64 a1 9223372036854775808) != (Go.bits .xor .u64 a2 9223372036854775808))) = true := c19
       (try (have c19b1 : decide (t212 = ((Go.bits .xor .u64 a1 9223372036854775808) != (Go.bits .xor .u64 a2 9223372036854775808))) = true := by simpa using c19))
       (try (have c19b2 : (t212 == ((Go.bits .xor .u64 a1 9223372036854775808) != (Go.bits .xor .u64 a2 9223372036854775808))) = true := by simpa using c19))
       clear c19
       obtain rfl := Option.some.inj H
       go_enter Tryd.func7, Tryd.ntmps7
       go_wp2_with (first | ((with_reducible refine gate_callee (f := 10) rfl ?_); refine goesL_ (some 18) rfl rfl Tryd.func10 (by kernel_rfl) rfl #[] rfl (by (try simp only [List.map_toArray, List.map_cons, List.map_nil]); first | done | rfl | (simp only [List.length_drop, List.length_take]; rfl)) ?_; (with_reducible refine (caulkerlaw05_reckons.calls k  true _ A4.out ?gv).mono ?_); (case gv => first | exact LexW.GV.later HGV.out (pxb HB) | (repeat (first | exact HGV.out | apply LexW.GV.drewN))); rintro e w20 ⟨rfl, hb⟩; refine ⟨_, rfl, ?_⟩; have n0_ := pxs HB hb; clear HB; have HB := n0_; clear n0_; (try clear hb); (try clear hb2); (try clear hk); (try clear hi)) | ((with_reducible refine gate_callee (f := 23) rfl ?_); refine goesL_ (some 26) rfl rfl Tryd.func23 (by kernel_rfl) rfl #[.string a0, .int .i64 (wrap64 (a1)), .int .i64 (wrap64 (a2))] rfl (by (try simp only [List.map_toArray, List.map_cons, List.map_nil]); first | done | rfl | (simp only [List.length_drop, List.length_take]; rfl)) ?_; (with_reducible refine (num_Compare.calls a0 (wrap64 (a1)) (wrap64 (a2)) t212 t213 _ A6.out).mono ?_); rintro e w' ⟨rfl, ⟨nd, rfl⟩⟩; refine ⟨_, rfl, ?_⟩) | ((with_reducible refine gate_callee (f := 24) rfl ?_); refine goesL_ (some 33) rfl rfl Tryd.func24 (by kernel_rfl) rfl #[.string a0, .int .u64 a1, .int .u64 a2] rfl (by (try simp only [List.map_toArray, List.map_cons, List.map_nil]); first | done | rfl | (simp only [List.length_drop, List.length_take]; rfl)) ?_; (with_reducible refine (num_FloatCompare.calls a0 a1 a2 t214 t215 _ A7.out).mono ?_); rintro e w' ⟨rfl, ⟨nd, rfl⟩⟩; refine ⟨_, rfl, ?_⟩) | ((with_reducible refine gate_callee (f := 25) rfl ?_); refine goesL_ (some 42) rfl rfl Tryd.func25 (by kernel_rfl) rfl #[.int .u64 a1, .int .u64 a2] rfl (by (try simp only [List.map_toArray, List.map_cons, List.map_nil]); first | done | rfl | (simp only [List.length_drop, List.length_take]; rfl)) ?_; (with_reducible refine (caulkerref05_Less.calls k a1 a2 t216 _ A8.out).mono ?_); rintro e w' ⟨rfl, ⟨nd, rfl⟩⟩; refine ⟨_, rfl, ?_⟩) | ((with_reducible refine gate_callee (f := 25) rfl ?_); refine goesL_ (some 45) rfl rfl Tryd.func25 (by kernel_rfl) rfl #[.int .u64 a2, .int .u64 a1] rfl (by (try simp only [List.map_toArray, List.map_cons, List.map_nil]); first | done | rfl | (simp only [List.length_drop, List.length_take]; rfl)) ?_; (with_reducible refine (caulkerref05_Less.calls k a2 a1 t217 _ A9.out).mono ?_); rintro e w' ⟨rfl, ⟨nd, rfl⟩⟩; refine ⟨_, rfl, ?_⟩) | ((with_reducible refine gate_callee (f := 26) rfl ?_); refine goesL_ (some 48) rfl rfl Tryd.func26 (by kernel_rfl) rfl #[.int .u64 a1, .int .u64 a2] rfl (by (try simp only [List.map_toArray, List.map_cons, List.map_nil]); first | done | rfl | (simp only [List.length_drop, List.length_take]; rfl)) ?_; (with_reducible refine (caulkerref05_Same.calls a1 a2 t218 _ A10.out).mono ?_); rintro e w' ⟨rfl, ⟨nd, rfl⟩⟩; refine ⟨_, rfl, ?_⟩))
       go_ret
       exact ⟨by first | rfl | (simp [errW_none, errW_some] <;> rfl) | (simp [*, errW_none, errW_some] <;> rfl), pxb HB⟩
      ·rw [if_neg c19] at H
       exact absurd H (by simp)
     ·rw [if_neg c18] at H
      exact absurd H (by simp)
    ·rw [if_neg c17] at H
     exact absurd H (by simp)
   ·rw [if_neg c16] at H
    have c16b0 : (a0.toList == ([33, 61] : List UInt8)) = false := beq_eq_false_iff_ne.mpr c16
    have c16b1 : (a0.toList != ([33, 61] : List UInt8)) = true := bne_iff_ne.mpr c16
    by_cases c21 : a0.toList = ([60] : List UInt8)
    ·rw [if_pos c21] at H
     have c21b0 : (a0.toList == ([60] : List UInt8)) = true := beq_iff_eq.mpr c21
     have c21b1 : (a0.toList != ([60] : List UInt8)) = false := bne_eq_false_iff_eq.mpr c21
     clear c21
     by_cases c22 : t213 = 0
     ·rw [if_pos c22] at H
      have c22b0 : (t213 == 0) = true := beq_iff_eq.mpr c22
      have c22b1 : (t213 != 0) = false := bne_eq_false_iff_eq.mpr c22
      clear c22
      by_cases c23 : t215 = 0
      ·rw [if_pos c23] at H
       have c23b0 : (t215 == 0) = true := beq_iff_eq.mpr c23
       have c23b1 : (t215 != 0) = false := bne_eq_false_iff_eq.mpr c23
       clear c23
       by_cases c24 : (t212 == (decide ((Go.bits .xor .u64 a1 9223372036854775808) < (Go.bits .xor .u64 a2 9223372036854775808)))) = true
       ·rw [if_pos c24] at H
        have c24b0 : (t212 == (decide ((Go.bits .xor .u64 a1 9223372036854775808) < (Go.bits .xor .u64 a2 9223372036854775808)))) = true := c24
        (try (have c24b1 : decide (t212 = (decide ((Go.bits .xor .u64 a1 9223372036854775808) < (Go.bits .xor .u64 a2 9223372036854775808)))) = true := by simpa using c24))
        (try (have c24b2 : (t212 == (decide ((Go.bits .xor .u64 a1 9223372036854775808) < (Go.bits .xor .u64 a2 9223372036854775808)))) = true := by simpa using c24))
        clear c24
        obtain rfl := Option.some.inj H
        go_enter Tryd.func7, Tryd.ntmps7
        go_wp2_with (first | ((with_reducible refine gate_callee (f := 10) rfl ?_); refine goesL_ (some 18) rfl rfl Tryd.func10 (by kernel_rfl) rfl #[] rfl (by (try simp only [List.map_toArray, List.map_cons, List.map_nil]); first | done | rfl | (simp only [List.length_drop, List.length_take]; rfl)) ?_; (with_reducible refine (caulkerlaw05_reckons.calls k  true _ A4.out ?gv).mono ?_); (case gv => first | exact LexW.GV.later HGV.out (pxb HB) | (repeat (first | exact HGV.out | apply LexW.GV.drewN))); rintro e w25 ⟨rfl, hb⟩; refine ⟨_, rfl, ?_⟩; have n0_ := pxs HB hb; clear HB; have HB := n0_; clear n0_; (try clear hb); (try clear hb2); (try clear hk); (try clear hi)) | ((with_reducible refine gate_callee (f := 23) rfl ?_); refine goesL_ (some 26) rfl rfl Tryd.func23 (by kernel_rfl) rfl #[.string a0, .int .i64 (wrap64 (a1)), .int .i64 (wrap64 (a2))] rfl (by (try simp only [List.map_toArray, List.map_cons, List.map_nil]); first | done | rfl | (simp only [List.length_drop, List.length_take]; rfl)) ?_; (with_reducible refine (num_Compare.calls a0 (wrap64 (a1)) (wrap64 (a2)) t212 t213 _ A6.out).mono ?_); rintro e w' ⟨rfl, ⟨nd, rfl⟩⟩; refine ⟨_, rfl, ?_⟩) | ((with_reducible refine gate_callee (f := 24) rfl ?_); refine goesL_ (some 33) rfl rfl Tryd.func24 (by kernel_rfl) rfl #[.string a0, .int .u64 a1, .int .u64 a2] rfl (by (try simp only [List.map_toArray, List.map_cons, List.map_nil]); first | done | rfl | (simp only [List.length_drop, List.length_take]; rfl)) ?_; (with_reducible refine (num_FloatCompare.calls a0 a1 a2 t214 t215 _ A7.out).mono ?_); rintro e w' ⟨rfl, ⟨nd, rfl⟩⟩; refine ⟨_, rfl, ?_⟩) | ((with_reducible refine gate_callee (f := 25) rfl ?_); refine goesL_ (some 42) rfl rfl Tryd.func25 (by kernel_rfl) rfl #[.int .u64 a1, .int .u64 a2] rfl (by (try simp only [List.map_toArray, List.map_cons, List.map_nil]); first | done | rfl | (simp only [List.length_drop, List.length_take]; rfl)) ?_; (with_reducible refine (caulkerref05_Less.calls k a1 a2 t216 _ A8.out).mono ?_); rintro e w' ⟨rfl, ⟨nd, rfl⟩⟩; refine ⟨_, rfl, ?_⟩) | ((with_reducible refine gate_callee (f := 25) rfl ?_); refine goesL_ (some 45) rfl rfl Tryd.func25 (by kernel_rfl) rfl #[.int .u64 a2, .int .u64 a1] rfl (by (try simp only [List.map_toArray, List.map_cons, List.map_nil]); first | done | rfl | (simp only [List.length_drop, List.length_take]; rfl)) ?_; (with_reducible refine (caulkerref05_Less.calls k a2 a1 t217 _ A9.out).mono ?_); rintro e w' ⟨rfl, ⟨nd, rfl⟩⟩; refine ⟨_, rfl, ?_⟩) | ((with_reducible refine gate_callee (f := 26) rfl ?_); refine goesL_ (some 48) rfl rfl Tryd.func26 (by kernel_rfl) rfl #[.int .u64 a1, .int .u64 a2] rfl (by (try simp only [List.map_toArray, List.map_cons, List.map_nil]); first | done | rfl | (simp only [List.length_drop, List.length_take]; rfl)) ?_; (with_reducible refine (caulkerref05_Same.calls a1 a2 t218 _ A10.out).mono ?_); rintro e w' ⟨rfl, ⟨nd, rfl⟩⟩; refine ⟨_, rfl, ?_⟩))
        go_ret
        exact ⟨by first | rfl | (simp [errW_none, errW_some] <;> rfl) | (simp [*, errW_none, errW_some] <;> rfl), pxb HB⟩
       ·rw [if_neg c24] at H
        exact absurd H (by simp)
      ·rw [if_neg c23] at H
       exact absurd H (by simp)
     ·rw [if_neg c22] at H
      exact absurd H (by simp)
    ·rw [if_neg c21] at H
     have c21b0 : (a0.toList == ([60] : List UInt8)) = false := beq_eq_false_iff_ne.mpr c21
     have c21b1 : (a0.toList != ([60] : List UInt8)) = true := bne_iff_ne.mpr c21
     by_cases c26 : a0.toList = ([60, 61] : List UInt8)
     ·rw [if_pos c26] at H
      have c26b0 : (a0.toList == ([60, 61] : List UInt8)) = true := beq_iff_eq.mpr c26
      have c26b1 : (a0.toList != ([60, 61] : List UInt8)) = false := bne_eq_false_iff_eq.mpr c26
      clear c26
      by_cases c27 : t216 = true
      ·subst c27
       have H1 : (if t213 = 0 then (if t215 = 0 then (if (t212 == (decide ((Go.bits .xor .u64 a1 9223372036854775808) ≤ (Go.bits .xor .u64 a2 9223372036854775808)))) = true then (some (t214 == true)) else (none)) else (none)) else (none)) = some r := by rw [if_pos rfl] at H; exact H
       clear H
       have H := H1
       clear H1
       by_cases c28 : t213 = 0
       ·rw [if_pos c28] at H
        have c28b0 : (t213 == 0) = true := beq_iff_eq.mpr c28
        have c28b1 : (t213 != 0) = false := bne_eq_false_iff_eq.mpr c28
        clear c28
        by_cases c29 : t215 = 0
        ·rw [if_pos c29] at H
         have c29b0 : (t215 == 0) = true := beq_iff_eq.mpr c29
         have c29b1 : (t215 != 0) = false := bne_eq_false_iff_eq.mpr c29
         clear c29
         by_cases c30 : (t212 == (decide ((Go.bits .xor .u64 a1 9223372036854775808) ≤ (Go.bits .xor .u64 a2 9223372036854775808)))) = true
         ·rw [if_pos c30] at H
          have c30b0 : (t212 == (decide ((Go.bits .xor .u64 a1 9223372036854775808) ≤ (Go.bits .xor .u64 a2 9223372036854775808)))) = true := c30
          (try (have c30b1 : decide (t212 = (decide ((Go.bits .xor .u64 a1 9223372036854775808) ≤ (Go.bits .xor .u64 a2 9223372036854775808)))) = true := by simpa using c30))
          (try (have c30b2 : (t212 == (decide ((Go.bits .xor .u64 a1 9223372036854775808) ≤ (Go.bits .xor .u64 a2 9223372036854775808)))) = true := by simpa using c30))
          clear c30
          obtain rfl := Option.some.inj H
          go_enter Tryd.func7, Tryd.ntmps7
          go_wp2_with (first | ((with_reducible refine gate_callee (f := 10) rfl ?_); refine goesL_ (some 18) rfl rfl Tryd.func10 (by kernel_rfl) rfl #[] rfl (by (try simp only [List.map_toArray, List.map_cons, List.map_nil]); first | done | rfl | (simp only [List.length_drop, List.length_take]; rfl)) ?_; (with_reducible refine (caulkerlaw05_reckons.calls k  true _ A4.out ?gv).mono ?_); (case gv => first | exact LexW.GV.later HGV.out (pxb HB) | (repeat (first | exact HGV.out | apply LexW.GV.drewN))); rintro e w31 ⟨rfl, hb⟩; refine ⟨_, rfl, ?_⟩; have n0_ := pxs HB hb; clear HB; have HB := n0_; clear n0_; (try clear hb); (try clear hb2); (try clear hk); (try clear hi)) | ((with_reducible refine gate_callee (f := 23) rfl ?_); refine goesL_ (some 26) rfl rfl Tryd.func23 (by kernel_rfl) rfl #[.string a0, .int .i64 (wrap64 (a1)), .int .i64 (wrap64 (a2))] rfl (by (try simp only [List.map_toArray, List.map_cons, List.map_nil]); first | done | rfl | (simp only [List.length_drop, List.length_take]; rfl)) ?_; (with_reducible refine (num_Compare.calls a0 (wrap64 (a1)) (wrap64 (a2)) t212 t213 _ A6.out).mono ?_); rintro e w' ⟨rfl, ⟨nd, rfl⟩⟩; refine ⟨_, rfl, ?_⟩) | ((with_reducible refine gate_callee (f := 24) rfl ?_); refine goesL_ (some 33) rfl rfl Tryd.func24 (by kernel_rfl) rfl #[.string a0, .int .u64 a1, .int .u64 a2] rfl (by (try simp only [List.map_toArray, List.map_cons, List.map_nil]); first | done | rfl | (simp only [List.length_drop, List.length_take]; rfl)) ?_; (with_reducible refine (num_FloatCompare.calls a0 a1 a2 t214 t215 _ A7.out).mono ?_); rintro e w' ⟨rfl, ⟨nd, rfl⟩⟩; refine ⟨_, rfl, ?_⟩) | ((with_reducible refine gate_callee (f := 25) rfl ?_); refine goesL_ (some 42) rfl rfl Tryd.func25 (by kernel_rfl) rfl #[.int .u64 a1, .int .u64 a2] rfl (by (try simp only [List.map_toArray, List.map_cons, List.map_nil]); first | done | rfl | (simp only [List.length_drop, List.length_take]; rfl)) ?_; (with_reducible refine (caulkerref05_Less.calls k a1 a2 true _ A8.out).mono ?_); rintro e w' ⟨rfl, ⟨nd, rfl⟩⟩; refine ⟨_, rfl, ?_⟩) | ((with_reducible refine gate_callee (f := 25) rfl ?_); refine goesL_ (some 45) rfl rfl Tryd.func25 (by kernel_rfl) rfl #[.int .u64 a2, .int .u64 a1] rfl (by (try simp only [List.map_toArray, List.map_cons, List.map_nil]); first | done | rfl | (simp only [List.length_drop, List.length_take]; rfl)) ?_; (with_reducible refine (caulkerref05_Less.calls k a2 a1 t217 _ A9.out).mono ?_); rintro e w' ⟨rfl, ⟨nd, rfl⟩⟩; refine ⟨_, rfl, ?_⟩) | ((with_reducible refine gate_callee (f := 26) rfl ?_); refine goesL_ (some 48) rfl rfl Tryd.func26 (by kernel_rfl) rfl #[.int .u64 a1, .int .u64 a2] rfl (by (try simp only [List.map_toArray, List.map_cons, List.map_nil]); first | done | rfl | (simp only [List.length_drop, List.length_take]; rfl)) ?_; (with_reducible refine (caulkerref05_Same.calls a1 a2 t218 _ A10.out).mono ?_); rintro e w' ⟨rfl, ⟨nd, rfl⟩⟩; refine ⟨_, rfl, ?_⟩))
          go_ret
          exact ⟨by first | rfl | (simp [errW_none, errW_some] <;> rfl) | (simp [*, errW_none, errW_some] <;> rfl), pxb HB⟩
         ·rw [if_neg c30] at H
          exact absurd H (by simp)
        ·rw [if_neg c29] at H
         exact absurd H (by simp)
       ·rw [if_neg c28] at H
        exact absurd H (by simp)
      ·replace c27 := Bool.eq_false_iff.mpr c27
       subst c27
       have H1 : (if t213 = 0 then (if t215 = 0 then (if (t212 == (decide ((Go.bits .xor .u64 a1 9223372036854775808) ≤ (Go.bits .xor .u64 a2 9223372036854775808)))) = true then (some (t214 == t218)) else (none)) else (none)) else (none)) = some r := by rw [if_neg (show ¬ (false = true) by decide)] at H; exact H
       clear H
       have H := H1
       clear H1
       by_cases c32 : t213 = 0
       ·rw [if_pos c32] at H
        have c32b0 : (t213 == 0) = true := beq_iff_eq.mpr c32
        have c32b1 : (t213 != 0) = false := bne_eq_false_iff_eq.mpr c32
        clear c32
        by_cases c33 : t215 = 0
        ·rw [if_pos c33] at H
         have c33b0 : (t215 == 0) = true := beq_iff_eq.mpr c33
         have c33b1 : (t215 != 0) = false := bne_eq_false_iff_eq.mpr c33
         clear c33
         by_cases c34 : (t212 == (decide ((Go.bits .xor .u64 a1 9223372036854775808) ≤ (Go.bits .xor .u64 a2 9223372036854775808)))) = true
         ·rw [if_pos c34] at H
          have c34b0 : (t212 == (decide ((Go.bits .xor .u64 a1 9223372036854775808) ≤ (Go.bits .xor .u64 a2 9223372036854775808)))) = true := c34
          (try (have c34b1 : decide (t212 = (decide ((Go.bits .xor .u64 a1 9223372036854775808) ≤ (Go.bits .xor .u64 a2 9223372036854775808)))) = true := by simpa using c34))
          (try (have c34b2 : (t212 == (decide ((Go.bits .xor .u64 a1 9223372036854775808) ≤ (Go.bits .xor .u64 a2 9223372036854775808)))) = true := by simpa using c34))
          clear c34
          obtain rfl := Option.some.inj H
          go_enter Tryd.func7, Tryd.ntmps7
          go_wp2_with (first | ((with_reducible refine gate_callee (f := 10) rfl ?_); refine goesL_ (some 18) rfl rfl Tryd.func10 (by kernel_rfl) rfl #[] rfl (by (try simp only [List.map_toArray, List.map_cons, List.map_nil]); first | done | rfl | (simp only [List.length_drop, List.length_take]; rfl)) ?_; (with_reducible refine (caulkerlaw05_reckons.calls k  true _ A4.out ?gv).mono ?_); (case gv => first | exact LexW.GV.later HGV.out (pxb HB) | (repeat (first | exact HGV.out | apply LexW.GV.drewN))); rintro e w35 ⟨rfl, hb⟩; refine ⟨_, rfl, ?_⟩; have n0_ := pxs HB hb; clear HB; have HB := n0_; clear n0_; (try clear hb); (try clear hb2); (try clear hk); (try clear hi)) | ((with_reducible refine gate_callee (f := 23) rfl ?_); refine goesL_ (some 26) rfl rfl Tryd.func23 (by kernel_rfl) rfl #[.string a0, .int .i64 (wrap64 (a1)), .int .i64 (wrap64 (a2))] rfl (by (try simp only [List.map_toArray, List.map_cons, List.map_nil]); first | done | rfl | (simp only [List.length_drop, List.length_take]; rfl)) ?_; (with_reducible refine (num_Compare.calls a0 (wrap64 (a1)) (wrap64 (a2)) t212 t213 _ A6.out).mono ?_); rintro e w' ⟨rfl, ⟨nd, rfl⟩⟩; refine ⟨_, rfl, ?_⟩) | ((with_reducible refine gate_callee (f := 24) rfl ?_); refine goesL_ (some 33) rfl rfl Tryd.func24 (by kernel_rfl) rfl #[.string a0, .int .u64 a1, .int .u64 a2] rfl (by (try simp only [List.map_toArray, List.map_cons, List.map_nil]); first | done | rfl | (simp only [List.length_drop, List.length_take]; rfl)) ?_; (with_reducible refine (num_FloatCompare.calls a0 a1 a2 t214 t215 _ A7.out).mono ?_); rintro e w' ⟨rfl, ⟨nd, rfl⟩⟩; refine ⟨_, rfl, ?_⟩) | ((with_reducible refine gate_callee (f := 25) rfl ?_); refine goesL_ (some 42) rfl rfl Tryd.func25 (by kernel_rfl) rfl #[.int .u64 a1, .int .u64 a2] rfl (by (try simp only [List.map_toArray, List.map_cons, List.map_nil]); first | done | rfl | (simp only [List.length_drop, List.length_take]; rfl)) ?_; (with_reducible refine (caulkerref05_Less.calls k a1 a2 false _ A8.out).mono ?_); rintro e w' ⟨rfl, ⟨nd, rfl⟩⟩; refine ⟨_, rfl, ?_⟩) | ((with_reducible refine gate_callee (f := 25) rfl ?_); refine goesL_ (some 45) rfl rfl Tryd.func25 (by kernel_rfl) rfl #[.int .u64 a2, .int .u64 a1] rfl (by (try simp only [List.map_toArray, List.map_cons, List.map_nil]); first | done | rfl | (simp only [List.length_drop, List.length_take]; rfl)) ?_; (with_reducible refine (caulkerref05_Less.calls k a2 a1 t217 _ A9.out).mono ?_); rintro e w' ⟨rfl, ⟨nd, rfl⟩⟩; refine ⟨_, rfl, ?_⟩) | ((with_reducible refine gate_callee (f := 26) rfl ?_); refine goesL_ (some 48) rfl rfl Tryd.func26 (by kernel_rfl) rfl #[.int .u64 a1, .int .u64 a2] rfl (by (try simp only [List.map_toArray, List.map_cons, List.map_nil]); first | done | rfl | (simp only [List.length_drop, List.length_take]; rfl)) ?_; (with_reducible refine (caulkerref05_Same.calls a1 a2 t218 _ A10.out).mono ?_); rintro e w' ⟨rfl, ⟨nd, rfl⟩⟩; refine ⟨_, rfl, ?_⟩))
          go_ret
          exact ⟨by first | rfl | (simp [errW_none, errW_some] <;> rfl) | (simp [*, errW_none, errW_some] <;> rfl), pxb HB⟩
         ·rw [if_neg c34] at H
          exact absurd H (by simp)
        ·rw [if_neg c33] at H
         exact absurd H (by simp)
       ·rw [if_neg c32] at H
        exact absurd H (by simp)
     ·rw [if_neg c26] at H
      have c26b0 : (a0.toList == ([60, 61] : List UInt8)) = false := beq_eq_false_iff_ne.mpr c26
      have c26b1 : (a0.toList != ([60, 61] : List UInt8)) = true := bne_iff_ne.mpr c26
      by_cases c36 : a0.toList = ([62] : List UInt8)
      ·rw [if_pos c36] at H
       have c36b0 : (a0.toList == ([62] : List UInt8)) = true := beq_iff_eq.mpr c36
       have c36b1 : (a0.toList != ([62] : List UInt8)) = false := bne_eq_false_iff_eq.mpr c36
       clear c36
       by_cases c37 : t213 = 0
       ·rw [if_pos c37] at H
        have c37b0 : (t213 == 0) = true := beq_iff_eq.mpr c37
        have c37b1 : (t213 != 0) = false := bne_eq_false_iff_eq.mpr c37
        clear c37
        by_cases c38 : t215 = 0
        ·rw [if_pos c38] at H
         have c38b0 : (t215 == 0) = true := beq_iff_eq.mpr c38
         have c38b1 : (t215 != 0) = false := bne_eq_false_iff_eq.mpr c38
         clear c38
         by_cases c39 : (t212 == (decide ((Go.bits .xor .u64 a1 9223372036854775808) > (Go.bits .xor .u64 a2 9223372036854775808)))) = true
         ·rw [if_pos c39] at H
          have c39b0 : (t212 == (decide ((Go.bits .xor .u64 a1 9223372036854775808) > (Go.bits .xor .u64 a2 9223372036854775808)))) = true := c39
          (try (have c39b1 : decide (t212 = (decide ((Go.bits .xor .u64 a1 9223372036854775808) > (Go.bits .xor .u64 a2 9223372036854775808)))) = true := by simpa using c39))
          (try (have c39b2 : (t212 == (decide ((Go.bits .xor .u64 a1 9223372036854775808) > (Go.bits .xor .u64 a2 9223372036854775808)))) = true := by simpa using c39))
          clear c39
          obtain rfl := Option.some.inj H
          go_enter Tryd.func7, Tryd.ntmps7
          go_wp2_with (first | ((with_reducible refine gate_callee (f := 10) rfl ?_); refine goesL_ (some 18) rfl rfl Tryd.func10 (by kernel_rfl) rfl #[] rfl (by (try simp only [List.map_toArray, List.map_cons, List.map_nil]); first | done | rfl | (simp only [List.length_drop, List.length_take]; rfl)) ?_; (with_reducible refine (caulkerlaw05_reckons.calls k  true _ A4.out ?gv).mono ?_); (case gv => first | exact LexW.GV.later HGV.out (pxb HB) | (repeat (first | exact HGV.out | apply LexW.GV.drewN))); rintro e w40 ⟨rfl, hb⟩; refine ⟨_, rfl, ?_⟩; have n0_ := pxs HB hb; clear HB; have HB := n0_; clear n0_; (try clear hb); (try clear hb2); (try clear hk); (try clear hi)) | ((with_reducible refine gate_callee (f := 23) rfl ?_); refine goesL_ (some 26) rfl rfl Tryd.func23 (by kernel_rfl) rfl #[.string a0, .int .i64 (wrap64 (a1)), .int .i64 (wrap64 (a2))] rfl (by (try simp only [List.map_toArray, List.map_cons, List.map_nil]); first | done | rfl | (simp only [List.length_drop, List.length_take]; rfl)) ?_; (with_reducible refine (num_Compare.calls a0 (wrap64 (a1)) (wrap64 (a2)) t212 t213 _ A6.out).mono ?_); rintro e w' ⟨rfl, ⟨nd, rfl⟩⟩; refine ⟨_, rfl, ?_⟩) | ((with_reducible refine gate_callee (f := 24) rfl ?_); refine goesL_ (some 33) rfl rfl Tryd.func24 (by kernel_rfl) rfl #[.string a0, .int .u64 a1, .int .u64 a2] rfl (by (try simp only [List.map_toArray, List.map_cons, List.map_nil]); first | done | rfl | (simp only [List.length_drop, List.length_take]; rfl)) ?_; (with_reducible refine (num_FloatCompare.calls a0 a1 a2 t214 t215 _ A7.out).mono ?_); rintro e w' ⟨rfl, ⟨nd, rfl⟩⟩; refine ⟨_, rfl, ?_⟩) | ((with_reducible refine gate_callee (f := 25) rfl ?_); refine goesL_ (some 42) rfl rfl Tryd.func25 (by kernel_rfl) rfl #[.int .u64 a1, .int .u64 a2] rfl (by (try simp only [List.map_toArray, List.map_cons, List.map_nil]); first | done | rfl | (simp only [List.length_drop, List.length_take]; rfl)) ?_; (with_reducible refine (caulkerref05_Less.calls k a1 a2 t216 _ A8.out).mono ?_); rintro e w' ⟨rfl, ⟨nd, rfl⟩⟩; refine ⟨_, rfl, ?_⟩) | ((with_reducible refine gate_callee (f := 25) rfl ?_); refine goesL_ (some 45) rfl rfl Tryd.func25 (by kernel_rfl) rfl #[.int .u64 a2, .int .u64 a1] rfl (by (try simp only [List.map_toArray, List.map_cons, List.map_nil]); first | done | rfl | (simp only [List.length_drop, List.length_take]; rfl)) ?_; (with_reducible refine (caulkerref05_Less.calls k a2 a1 t217 _ A9.out).mono ?_); rintro e w' ⟨rfl, ⟨nd, rfl⟩⟩; refine ⟨_, rfl, ?_⟩) | ((with_reducible refine gate_callee (f := 26) rfl ?_); refine goesL_ (some 48) rfl rfl Tryd.func26 (by kernel_rfl) rfl #[.int .u64 a1, .int .u64 a2] rfl (by (try simp only [List.map_toArray, List.map_cons, List.map_nil]); first | done | rfl | (simp only [List.length_drop, List.length_take]; rfl)) ?_; (with_reducible refine (caulkerref05_Same.calls a1 a2 t218 _ A10.out).mono ?_); rintro e w' ⟨rfl, ⟨nd, rfl⟩⟩; refine ⟨_, rfl, ?_⟩))
          go_ret
          exact ⟨by first | rfl | (simp [errW_none, errW_some] <;> rfl) | (simp [*, errW_none, errW_some] <;> rfl), pxb HB⟩
         ·rw [if_neg c39] at H
          exact absurd H (by simp)
        ·rw [if_neg c38] at H
         exact absurd H (by simp)
       ·rw [if_neg c37] at H
        exact absurd H (by simp)
      ·rw [if_neg c36] at H
       have c36b0 : (a0.toList == ([62] : List UInt8)) = false := beq_eq_false_iff_ne.mpr c36
       have c36b1 : (a0.toList != ([62] : List UInt8)) = true := bne_iff_ne.mpr c36
       by_cases c41 : a0.toList = ([62, 61] : List UInt8)
       ·rw [if_pos c41] at H
        have c41b0 : (a0.toList == ([62, 61] : List UInt8)) = true := beq_iff_eq.mpr c41
        have c41b1 : (a0.toList != ([62, 61] : List UInt8)) = false := bne_eq_false_iff_eq.mpr c41
        clear c41
        by_cases c42 : t217 = true
        ·subst c42
         have H1 : (if t213 = 0 then (if t215 = 0 then (if (t212 == (decide ((Go.bits .xor .u64 a1 9223372036854775808) ≥ (Go.bits .xor .u64 a2 9223372036854775808)))) = true then (some (t214 == true)) else (none)) else (none)) else (none)) = some r := by rw [if_pos rfl] at H; exact H
         clear H
         have H := H1
         clear H1
         by_cases c43 : t213 = 0
         ·rw [if_pos c43] at H
          have c43b0 : (t213 == 0) = true := beq_iff_eq.mpr c43
          have c43b1 : (t213 != 0) = false := bne_eq_false_iff_eq.mpr c43
          clear c43
          by_cases c44 : t215 = 0
          ·rw [if_pos c44] at H
           have c44b0 : (t215 == 0) = true := beq_iff_eq.mpr c44
           have c44b1 : (t215 != 0) = false := bne_eq_false_iff_eq.mpr c44
           clear c44
           by_cases c45 : (t212 == (decide ((Go.bits .xor .u64 a1 9223372036854775808) ≥ (Go.bits .xor .u64 a2 9223372036854775808)))) = true
           ·rw [if_pos c45] at H
            have c45b0 : (t212 == (decide ((Go.bits .xor .u64 a1 9223372036854775808) ≥ (Go.bits .xor .u64 a2 9223372036854775808)))) = true := c45
            (try (have c45b1 : decide (t212 = (decide ((Go.bits .xor .u64 a1 9223372036854775808) ≥ (Go.bits .xor .u64 a2 9223372036854775808)))) = true := by simpa using c45))
            (try (have c45b2 : (t212 == (decide ((Go.bits .xor .u64 a1 9223372036854775808) ≥ (Go.bits .xor .u64 a2 9223372036854775808)))) = true := by simpa using c45))
            clear c45
            obtain rfl := Option.some.inj H
            go_enter Tryd.func7, Tryd.ntmps7
            go_wp2_with (first | ((with_reducible refine gate_callee (f := 10) rfl ?_); refine goesL_ (some 18) rfl rfl Tryd.func10 (by kernel_rfl) rfl #[] rfl (by (try simp only [List.map_toArray, List.map_cons, List.map_nil]); first | done | rfl | (simp only [List.length_drop, List.length_take]; rfl)) ?_; (with_reducible refine (caulkerlaw05_reckons.calls k  true _ A4.out ?gv).mono ?_); (case gv => first | exact LexW.GV.later HGV.out (pxb HB) | (repeat (first | exact HGV.out | apply LexW.GV.drewN))); rintro e w46 ⟨rfl, hb⟩; refine ⟨_, rfl, ?_⟩; have n0_ := pxs HB hb; clear HB; have HB := n0_; clear n0_; (try clear hb); (try clear hb2); (try clear hk); (try clear hi)) | ((with_reducible refine gate_callee (f := 23) rfl ?_); refine goesL_ (some 26) rfl rfl Tryd.func23 (by kernel_rfl) rfl #[.string a0, .int .i64 (wrap64 (a1)), .int .i64 (wrap64 (a2))] rfl (by (try simp only [List.map_toArray, List.map_cons, List.map_nil]); first | done | rfl | (simp only [List.length_drop, List.length_take]; rfl)) ?_; (with_reducible refine (num_Compare.calls a0 (wrap64 (a1)) (wrap64 (a2)) t212 t213 _ A6.out).mono ?_); rintro e w' ⟨rfl, ⟨nd, rfl⟩⟩; refine ⟨_, rfl, ?_⟩) | ((with_reducible refine gate_callee (f := 24) rfl ?_); refine goesL_ (some 33) rfl rfl Tryd.func24 (by kernel_rfl) rfl #[.string a0, .int .u64 a1, .int .u64 a2] rfl (by (try simp only [List.map_toArray, List.map_cons, List.map_nil]); first | done | rfl | (simp only [List.length_drop, List.length_take]; rfl)) ?_; (with_reducible refine (num_FloatCompare.calls a0 a1 a2 t214 t215 _ A7.out).mono ?_); rintro e w' ⟨rfl, ⟨nd, rfl⟩⟩; refine ⟨_, rfl, ?_⟩) | ((with_reducible refine gate_callee (f := 25) rfl ?_); refine goesL_ (some 42) rfl rfl Tryd.func25 (by kernel_rfl) rfl #[.int .u64 a1, .int .u64 a2] rfl (by (try simp only [List.map_toArray, List.map_cons, List.map_nil]); first | done | rfl | (simp only [List.length_drop, List.length_take]; rfl)) ?_; (with_reducible refine (caulkerref05_Less.calls k a1 a2 t216 _ A8.out).mono ?_); rintro e w' ⟨rfl, ⟨nd, rfl⟩⟩; refine ⟨_, rfl, ?_⟩) | ((with_reducible refine gate_callee (f := 25) rfl ?_); refine goesL_ (some 45) rfl rfl Tryd.func25 (by kernel_rfl) rfl #[.int .u64 a2, .int .u64 a1] rfl (by (try simp only [List.map_toArray, List.map_cons, List.map_nil]); first | done | rfl | (simp only [List.length_drop, List.length_take]; rfl)) ?_; (with_reducible refine (caulkerref05_Less.calls k a2 a1 true _ A9.out).mono ?_); rintro e w' ⟨rfl, ⟨nd, rfl⟩⟩; refine ⟨_, rfl, ?_⟩) | ((with_reducible refine gate_callee (f := 26) rfl ?_); refine goesL_ (some 48) rfl rfl Tryd.func26 (by kernel_rfl) rfl #[.int .u64 a1, .int .u64 a2] rfl (by (try simp only [List.map_toArray, List.map_cons, List.map_nil]); first | done | rfl | (simp only [List.length_drop, List.length_take]; rfl)) ?_; (with_reducible refine (caulkerref05_Same.calls a1 a2 t218 _ A10.out).mono ?_); rintro e w' ⟨rfl, ⟨nd, rfl⟩⟩; refine ⟨_, rfl, ?_⟩))
            go_ret
            exact ⟨by first | rfl | (simp [errW_none, errW_some] <;> rfl) | (simp [*, errW_none, errW_some] <;> rfl), pxb HB⟩
           ·rw [if_neg c45] at H
            exact absurd H (by simp)
          ·rw [if_neg c44] at H
           exact absurd H (by simp)
         ·rw [if_neg c43] at H
          exact absurd H (by simp)
        ·replace c42 := Bool.eq_false_iff.mpr c42
         subst c42
         have H1 : (if t213 = 0 then (if t215 = 0 then (if (t212 == (decide ((Go.bits .xor .u64 a1 9223372036854775808) ≥ (Go.bits .xor .u64 a2 9223372036854775808)))) = true then (some (t214 == t218)) else (none)) else (none)) else (none)) = some r := by rw [if_neg (show ¬ (false = true) by decide)] at H; exact H
         clear H
         have H := H1
         clear H1
         by_cases c47 : t213 = 0
         ·rw [if_pos c47] at H
          have c47b0 : (t213 == 0) = true := beq_iff_eq.mpr c47
          have c47b1 : (t213 != 0) = false := bne_eq_false_iff_eq.mpr c47
          clear c47
          by_cases c48 : t215 = 0
          ·rw [if_pos c48] at H
           have c48b0 : (t215 == 0) = true := beq_iff_eq.mpr c48
           have c48b1 : (t215 != 0) = false := bne_eq_false_iff_eq.mpr c48
           clear c48
           by_cases c49 : (t212 == (decide ((Go.bits .xor .u64 a1 9223372036854775808) ≥ (Go.bits .xor .u64 a2 9223372036854775808)))) = true
           ·rw [if_pos c49] at H
            have c49b0 : (t212 == (decide ((Go.bits .xor .u64 a1 9223372036854775808) ≥ (Go.bits .xor .u64 a2 9223372036854775808)))) = true := c49
            (try (have c49b1 : decide (t212 = (decide ((Go.bits .xor .u64 a1 9223372036854775808) ≥ (Go.bits .xor .u64 a2 9223372036854775808)))) = true := by simpa using c49))
            (try (have c49b2 : (t212 == (decide ((Go.bits .xor .u64 a1 9223372036854775808) ≥ (Go.bits .xor .u64 a2 9223372036854775808)))) = true := by simpa using c49))
            clear c49
            obtain rfl := Option.some.inj H
            go_enter Tryd.func7, Tryd.ntmps7
            go_wp2_with (first | ((with_reducible refine gate_callee (f := 10) rfl ?_); refine goesL_ (some 18) rfl rfl Tryd.func10 (by kernel_rfl) rfl #[] rfl (by (try simp only [List.map_toArray, List.map_cons, List.map_nil]); first | done | rfl | (simp only [List.length_drop, List.length_take]; rfl)) ?_; (with_reducible refine (caulkerlaw05_reckons.calls k  true _ A4.out ?gv).mono ?_); (case gv => first | exact LexW.GV.later HGV.out (pxb HB) | (repeat (first | exact HGV.out | apply LexW.GV.drewN))); rintro e w50 ⟨rfl, hb⟩; refine ⟨_, rfl, ?_⟩; have n0_ := pxs HB hb; clear HB; have HB := n0_; clear n0_; (try clear hb); (try clear hb2); (try clear hk); (try clear hi)) | ((with_reducible refine gate_callee (f := 23) rfl ?_); refine goesL_ (some 26) rfl rfl Tryd.func23 (by kernel_rfl) rfl #[.string a0, .int .i64 (wrap64 (a1)), .int .i64 (wrap64 (a2))] rfl (by (try simp only [List.map_toArray, List.map_cons, List.map_nil]); first | done | rfl | (simp only [List.length_drop, List.length_take]; rfl)) ?_; (with_reducible refine (num_Compare.calls a0 (wrap64 (a1)) (wrap64 (a2)) t212 t213 _ A6.out).mono ?_); rintro e w' ⟨rfl, ⟨nd, rfl⟩⟩; refine ⟨_, rfl, ?_⟩) | ((with_reducible refine gate_callee (f := 24) rfl ?_); refine goesL_ (some 33) rfl rfl Tryd.func24 (by kernel_rfl) rfl #[.string a0, .int .u64 a1, .int .u64 a2] rfl (by (try simp only [List.map_toArray, List.map_cons, List.map_nil]); first | done | rfl | (simp only [List.length_drop, List.length_take]; rfl)) ?_; (with_reducible refine (num_FloatCompare.calls a0 a1 a2 t214 t215 _ A7.out).mono ?_); rintro e w' ⟨rfl, ⟨nd, rfl⟩⟩; refine ⟨_, rfl, ?_⟩) | ((with_reducible refine gate_callee (f := 25) rfl ?_); refine goesL_ (some 42) rfl rfl Tryd.func25 (by kernel_rfl) rfl #[.int .u64 a1, .int .u64 a2] rfl (by (try simp only [List.map_toArray, List.map_cons, List.map_nil]); first | done | rfl | (simp only [List.length_drop, List.length_take]; rfl)) ?_; (with_reducible refine (caulkerref05_Less.calls k a1 a2 t216 _ A8.out).mono ?_); rintro e w' ⟨rfl, ⟨nd, rfl⟩⟩; refine ⟨_, rfl, ?_⟩) | ((with_reducible refine gate_callee (f := 25) rfl ?_); refine goesL_ (some 45) rfl rfl Tryd.func25 (by kernel_rfl) rfl #[.int .u64 a2, .int .u64 a1] rfl (by (try simp only [List.map_toArray, List.map_cons, List.map_nil]); first | done | rfl | (simp only [List.length_drop, List.length_take]; rfl)) ?_; (with_reducible refine (caulkerref05_Less.calls k a2 a1 false _ A9.out).mono ?_); rintro e w' ⟨rfl, ⟨nd, rfl⟩⟩; refine ⟨_, rfl, ?_⟩) | ((with_reducible refine gate_callee (f := 26) rfl ?_); refine goesL_ (some 48) rfl rfl Tryd.func26 (by kernel_rfl) rfl #[.int .u64 a1, .int .u64 a2] rfl (by (try simp only [List.map_toArray, List.map_cons, List.map_nil]); first | done | rfl | (simp only [List.length_drop, List.length_take]; rfl)) ?_; (with_reducible refine (caulkerref05_Same.calls a1 a2 t218 _ A10.out).mono ?_); rintro e w' ⟨rfl, ⟨nd, rfl⟩⟩; refine ⟨_, rfl, ?_⟩))
            go_ret
            exact ⟨by first | rfl | (simp [errW_none, errW_some] <;> rfl) | (simp [*, errW_none, errW_some] <;> rfl), pxb HB⟩
           ·rw [if_neg c49] at H
            exact absurd H (by simp)
          ·rw [if_neg c48] at H
           exact absurd H (by simp)
         ·rw [if_neg c47] at H
          exact absurd H (by simp)
       ·rw [if_neg c41] at H
        have c41b0 : (a0.toList == ([62, 61] : List UInt8)) = false := beq_eq_false_iff_ne.mpr c41
        have c41b1 : (a0.toList != ([62, 61] : List UInt8)) = true := bne_iff_ne.mpr c41
        by_cases c51 : t213 = 3
        ·rw [if_pos c51] at H
         have c51b0 : (t213 == 3) = true := beq_iff_eq.mpr c51
         have c51b1 : (t213 != 3) = false := bne_eq_false_iff_eq.mpr c51
         clear c51
         by_cases c52 : t215 = 3
         ·rw [if_pos c52] at H
          have c52b0 : (t215 == 3) = true := beq_iff_eq.mpr c52
          have c52b1 : (t215 != 3) = false := bne_eq_false_iff_eq.mpr c52
          clear c52
          by_cases c53 : t212 = true
          ·subst c53
           have H1 : (none) = some r := by rw [if_pos rfl] at H; exact H
           clear H
           have H := H1
           clear H1
           exact absurd H (by simp)
          ·replace c53 := Bool.eq_false_iff.mpr c53
           subst c53
           have H1 : (some (!t214)) = some r := by rw [if_neg (show ¬ (false = true) by decide)] at H; exact H
           clear H
           have H := H1
           clear H1
           obtain rfl := Option.some.inj H
           go_enter Tryd.func7, Tryd.ntmps7
           go_wp2_with (first | ((with_reducible refine gate_callee (f := 10) rfl ?_); refine goesL_ (some 18) rfl rfl Tryd.func10 (by kernel_rfl) rfl #[] rfl (by (try simp only [List.map_toArray, List.map_cons, List.map_nil]); first | done | rfl | (simp only [List.length_drop, List.length_take]; rfl)) ?_; (with_reducible refine (caulkerlaw05_reckons.calls k  true _ A4.out ?gv).mono ?_); (case gv => first | exact LexW.GV.later HGV.out (pxb HB) | (repeat (first | exact HGV.out | apply LexW.GV.drewN))); rintro e w54 ⟨rfl, hb⟩; refine ⟨_, rfl, ?_⟩; have n0_ := pxs HB hb; clear HB; have HB := n0_; clear n0_; (try clear hb); (try clear hb2); (try clear hk); (try clear hi)) | ((with_reducible refine gate_callee (f := 23) rfl ?_); refine goesL_ (some 26) rfl rfl Tryd.func23 (by kernel_rfl) rfl #[.string a0, .int .i64 (wrap64 (a1)), .int .i64 (wrap64 (a2))] rfl (by (try simp only [List.map_toArray, List.map_cons, List.map_nil]); first | done | rfl | (simp only [List.length_drop, List.length_take]; rfl)) ?_; (with_reducible refine (num_Compare.calls a0 (wrap64 (a1)) (wrap64 (a2)) false t213 _ A6.out).mono ?_); rintro e w' ⟨rfl, ⟨nd, rfl⟩⟩; refine ⟨_, rfl, ?_⟩) | ((with_reducible refine gate_callee (f := 24) rfl ?_); refine goesL_ (some 33) rfl rfl Tryd.func24 (by kernel_rfl) rfl #[.string a0, .int .u64 a1, .int .u64 a2] rfl (by (try simp only [List.map_toArray, List.map_cons, List.map_nil]); first | done | rfl | (simp only [List.length_drop, List.length_take]; rfl)) ?_; (with_reducible refine (num_FloatCompare.calls a0 a1 a2 t214 t215 _ A7.out).mono ?_); rintro e w' ⟨rfl, ⟨nd, rfl⟩⟩; refine ⟨_, rfl, ?_⟩) | ((with_reducible refine gate_callee (f := 25) rfl ?_); refine goesL_ (some 42) rfl rfl Tryd.func25 (by kernel_rfl) rfl #[.int .u64 a1, .int .u64 a2] rfl (by (try simp only [List.map_toArray, List.map_cons, List.map_nil]); first | done | rfl | (simp only [List.length_drop, List.length_take]; rfl)) ?_; (with_reducible refine (caulkerref05_Less.calls k a1 a2 t216 _ A8.out).mono ?_); rintro e w' ⟨rfl, ⟨nd, rfl⟩⟩; refine ⟨_, rfl, ?_⟩) | ((with_reducible refine gate_callee (f := 25) rfl ?_); refine goesL_ (some 45) rfl rfl Tryd.func25 (by kernel_rfl) rfl #[.int .u64 a2, .int .u64 a1] rfl (by (try simp only [List.map_toArray, List.map_cons, List.map_nil]); first | done | rfl | (simp only [List.length_drop, List.length_take]; rfl)) ?_; (with_reducible refine (caulkerref05_Less.calls k a2 a1 t217 _ A9.out).mono ?_); rintro e w' ⟨rfl, ⟨nd, rfl⟩⟩; refine ⟨_, rfl, ?_⟩) | ((with_reducible refine gate_callee (f := 26) rfl ?_); refine goesL_ (some 48) rfl rfl Tryd.func26 (by kernel_rfl) rfl #[.int .u64 a1, .int .u64 a2] rfl (by (try simp only [List.map_toArray, List.map_cons, List.map_nil]); first | done | rfl | (simp only [List.length_drop, List.length_take]; rfl)) ?_; (with_reducible refine (caulkerref05_Same.calls a1 a2 t218 _ A10.out).mono ?_); rintro e w' ⟨rfl, ⟨nd, rfl⟩⟩; refine ⟨_, rfl, ?_⟩))
           go_ret
           exact ⟨by first | rfl | (simp [errW_none, errW_some] <;> rfl) | (simp [*, errW_none, errW_some] <;> rfl), pxb HB⟩
         ·rw [if_neg c52] at H
          exact absurd H (by simp)
        ·rw [if_neg c51] at H
         exact absurd H (by simp)
 ·replace c5 := Bool.eq_false_iff.mpr c5
  subst c5
  have H1 : (none) = some r := by rw [if_neg (show ¬ (false = true) by decide)] at H; exact H
  clear H
  have H := H1
  clear H1
  exact absurd H (by simp)

/-- THE ONE PURE STATEMENT of caulkerlaw05_NumCompares. -/
def caulkerlaw05_NumCompares.Pure : Prop := ∀ (a0 : ByteArray) (a1 : Int) (a2 : Int), a0.size ≤ 140737488351232 → (Lit.int .u64 a1).wf = true → (Lit.int .u64 a2).wf = true → ∃ k, caulkerlaw05_NumCompares.f k a0 a1 a2 = some true

end Go.Proofs.YtbnopcndjdpnkaaDoor.X
