/- strings.Repeat at this program's numbers, by the library's contract; for counts and lengths as named. -/
import Derived.Test.YtljchkghnmnpgaaProg
import Derived.Shelf.Strings.Repeat
namespace Go.Proofs.Ytljchkghnmnpgaa.Rep
open Go.Shelf Go.RowKit

def laysRepeat_ren : Go.Shelf.Ren := ⟨fun | 105 => 33 | 212 => 36 | 99 => 37 | 165 => 38 | 166 => 39 | 170 => 40 | 169 => 41 | 263 => 43 | 264 => 44 | 206 => 45 | 240 => 46 | 241 => 47 | 276 => 48 | 277 => 49 | n => n, fun | 9 => 9 | 3 => 3 | 4 => 4 | 20 => 20 | 0 => 0 | 46 => 49 | 109 => 50 | 5 => 5 | 72 => 55 | 76 => 59 | 51 => 63 | 146 => 64 | 53 => 66 | 148 => 67 | 70 => 53 | 37 => 32 | 75 => 58 | 127 => 69 | 164 => 70 | 80 => 62 | n => n, fun | n => n⟩
theorem laysRepeat : Go.Proofs.Lays.n105 Try.prog laysRepeat_ren := {
  mixed := by kernel_rfl
  f99 := Try.func37.trans (congrArg some (by kernel_rfl))
  f105 := Try.func33.trans (congrArg some (by kernel_rfl))
  f165 := Try.func38.trans (congrArg some (by kernel_rfl))
  f166 := Try.func39.trans (congrArg some (by kernel_rfl))
  f169 := Try.func41.trans (congrArg some (by kernel_rfl))
  f170 := Try.func40.trans (congrArg some (by kernel_rfl))
  f206 := Try.func45.trans (congrArg some (by kernel_rfl))
  f212 := Try.func36.trans (congrArg some (by kernel_rfl))
  f240 := Try.func46.trans (congrArg some (by kernel_rfl))
  f241 := Try.func47.trans (congrArg some (by kernel_rfl))
  f263 := Try.func43.trans (congrArg some (by kernel_rfl))
  f264 := Try.func44.trans (congrArg some (by kernel_rfl))
  f276 := Try.func48.trans (congrArg some (by kernel_rfl))
  f277 := Try.func49.trans (congrArg some (by kernel_rfl))
  t0 := Try.underlying0
  a0 := Try.isAgg0
  z0 := Try.sizeOf0
  v0 := Try.zeroValue0
  t3 := Try.underlying3
  a3 := Try.isAgg3
  z3 := Try.sizeOf3
  v3 := Try.zeroValue3
  t4 := Try.underlying4
  a4 := Try.isAgg4
  z4 := Try.sizeOf4
  v4 := Try.zeroValue4
  t5 := Try.underlying5
  a5 := Try.isAgg5
  z5 := Try.sizeOf5
  v5 := Try.zeroValue5
  t9 := Try.underlying9
  a9 := Try.isAgg9
  z9 := Try.sizeOf9
  v9 := Try.zeroValue9
  t20 := Try.underlying20
  a20 := Try.isAgg20
  z20 := Try.sizeOf20
  v20 := Try.zeroValue20
  t37 := Try.underlying32
  a37 := Try.isAgg32
  z37 := Try.sizeOf32
  v37 := Try.zeroValue32
  t46 := Try.underlying49
  a46 := Try.isAgg49
  z46 := Try.sizeOf49
  v46 := Try.zeroValue49
  t51 := Try.underlying63
  a51 := Try.isAgg63
  z51 := Try.sizeOf63
  v51 := Try.zeroValue63
  t53 := Try.underlying66
  a53 := Try.isAgg66
  z53 := Try.sizeOf66
  v53 := Try.zeroValue66
  t70 := Try.underlying53
  a70 := Try.isAgg53
  z70 := Try.sizeOf53
  v70 := Try.zeroValue53
  t72 := Try.underlying55
  a72 := Try.isAgg55
  z72 := Try.sizeOf55
  v72 := Try.zeroValue55
  t75 := Try.underlying58
  a75 := Try.isAgg58
  z75 := Try.sizeOf58
  v75 := Try.zeroValue58
  t76 := Try.underlying59
  a76 := Try.isAgg59
  z76 := Try.sizeOf59
  v76 := Try.zeroValue59
  t109 := Try.underlying50
  a109 := Try.isAgg50
  z109 := Try.sizeOf50
  v109 := Try.zeroValue50
  t127 := Try.underlying69
  a127 := Try.isAgg69
  z127 := Try.sizeOf69
  v127 := Try.zeroValue69
  t146 := Try.underlying64
  a146 := Try.isAgg64
  z146 := Try.sizeOf64
  v146 := Try.zeroValue64
  t148 := Try.underlying67
  a148 := Try.isAgg67
  z148 := Try.sizeOf67
  v148 := Try.zeroValue67
  t164 := Try.underlying70
  a164 := Try.isAgg70
  z164 := Try.sizeOf70
  v164 := Try.zeroValue70 }

theorem extraRepeat : Builder.Extra Try.prog laysRepeat_ren := {
  sizeBuilder := by kernel_rfl
  liesBuilder := by kernel_rfl
  t5 := laysRepeat.t5
  a5 := laysRepeat.a5
  z5 := laysRepeat.z5
  v5 := laysRepeat.v5
  infoByte := by kernel_rfl
  cellsByte := by kernel_rfl
  sizeByte := by kernel_rfl
  neB5 := by decide }

theorem fRepeat : laysRepeat_ren.f 105 = 33 := by kernel_rfl
theorem repeat_any (s : ByteArray) (c : Nat) (w : World) (hc : c ≤ 9223372036854775807) (hlen : s.size * c ≤ 140737488355328) :
    Calls Try.prog 33 #[.string s, .int .i64 c] w fun e w' => e = .returned (.string ⟨(Lib.repeatL s.data.toList c).toArray⟩) ∧ Below w.heap.size w w' := by
  have h := Any.strings_Repeat laysRepeat extraRepeat s c w hc hlen
  rw [fRepeat] at h
  exact h
end Go.Proofs.Ytljchkghnmnpgaa.Rep
