/- strings.Repeat at this program's numbers, by the library's contract; for counts and lengths as named. -/
import Derived.Test.YtljchkghnmnpgaaProg
import Derived.Shelf.Strings.Repeat
import Derived.Shelf.Lay
import Derived.Ground.NamesProg
import Derived.Lib.Agree
namespace Go.Proofs.Ytljchkghnmnpgaa.Rep
open Go.Shelf Go.RowKit

shelf_lay Lays.n105 Nm 105 at Try as laysRepeat

theorem extraRepeat : Builder.Extra Try.prog laysRepeat_ren where
  sizeBuilder := by kernel_rfl
  liesBuilder := by kernel_rfl
  t5 := laysRepeat.t5
  a5 := laysRepeat.a5
  z5 := laysRepeat.z5
  v5 := laysRepeat.v5
  infoByte := by kernel_rfl
  cellsByte := by kernel_rfl
  sizeByte := by kernel_rfl
  neB5 := by decide

theorem fRepeat : laysRepeat_ren.f 105 = 33 := by kernel_rfl
theorem repeat_any (s : ByteArray) (c : Nat) (w : World) (hc : c ≤ 9223372036854775807) (hlen : s.size * c ≤ 140737488355328) :
    Calls Try.prog 33 #[.string s, .int .i64 c] w fun e w' => e = .returned (.string ⟨(Lib.repeatL s.data.toList c).toArray⟩) ∧ Below w.heap.size w w' := by
  have h := Any.strings_Repeat laysRepeat extraRepeat s c w hc hlen
  rw [fRepeat] at h
  exact h
end Go.Proofs.Ytljchkghnmnpgaa.Rep
