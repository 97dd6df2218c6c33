import Derived.Test.YtbnopcndjdpnkaaDoorX10
namespace Go.Proofs.YtbnopcndjdpnkaaDoor.NumP
open Go.RowKit Go.Proofs.YtbnopcndjdpnkaaDoor.X Go.Proofs.YtbnopcndjdpnkaaDoorW.PrintWords Go.Proofs.YtbnopcndjdpnkaaDoorW.PrintLast
theorem p1 : num_Float.f (⟨#[48, 46, 50, 53]⟩ : ByteArray) = some (4598175219545276416, 0) := by decide +kernel
theorem p2 : num_Int.f (⟨#[52, 48]⟩ : ByteArray) = some (40, 0) := by decide +kernel
theorem p3 : num_ToFloat.f (-1) = some 13830554455654793216 := by decide +kernel
theorem p4 : num_FloatOp.f (⟨#[47]⟩ : ByteArray) 13830554455654793216 0 = some (18442240474082181120, 0) := by decide +kernel
theorem p5 : num_FloatCompare.f (⟨#[60]⟩ : ByteArray) 9221120237041090561 9221120237041090561 = some (false, 0) := by decide +kernel
theorem tl47 : (⟨#[47]⟩ : ByteArray).toList = ([47] : List UInt8) := by decide +kernel
theorem tl37 : (⟨#[37]⟩ : ByteArray).toList = ([37] : List UInt8) := by decide +kernel
theorem opq (k : Nat) (a b : Int) : num_Op.f k (⟨#[47]⟩ : ByteArray) a b = num_Op.j0 k (⟨#[47]⟩ : ByteArray) a b true := by unfold num_Op.f; rw [tl47]; rfl
theorem opr (k : Nat) (a b : Int) : num_Op.f k (⟨#[37]⟩ : ByteArray) a b = num_Op.j0 k (⟨#[37]⟩ : ByteArray) a b true := by unfold num_Op.f; rw [tl37]; rfl
theorem p6 (k : Nat) : num_Op.f (k + 1) (⟨#[47]⟩ : ByteArray) 1 0 = some (0, 1) := by rw [opq]; rfl
theorem p7 : (num_ToFloat.f 7).bind (fun t => num_ToInt.f t) = some 7 := by decide +kernel
theorem reckons (k : Nat) : caulkerlaw05_reckons.f (k + 1) = some true := by
  unfold caulkerlaw05_reckons.f
  rw [p1, Option.bind_some, p2, Option.bind_some, p3, Option.bind_some, p4, Option.bind_some, p5, Option.bind_some, p6, Option.bind_some]
  have h7 := p7
  obtain ⟨t, ht, h⟩ := Option.bind_eq_some_iff.1 h7
  rw [ht, Option.bind_some, h, Option.bind_some]
  decide +kernel
end Go.Proofs.YtbnopcndjdpnkaaDoor.NumP
