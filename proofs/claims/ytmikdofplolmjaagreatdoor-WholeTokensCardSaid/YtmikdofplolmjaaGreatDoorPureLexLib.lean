/- What the program's cutting and the document's skipping answer, in plain Lean; no condition but the lengths named. -/
import Derived.Test.YtmikdofplolmjaaGreatDoorM9
import Derived.Test.YtmikdofplolmjaaGreatDoorLexTheory2
import Derived.Test.YtmikdofplolmjaaGreatDoorX5
namespace Go.Proofs.YtmikdofplolmjaaGreatDoor.Pure
open Go.RowKit Go.Proofs.YtmikdofplolmjaaGreatDoor.X Go.Proofs.YtmikdofplolmjaaGreatDoorW.PrintWords Go.Proofs.YtmikdofplolmjaaGreatDoorW.PrintLast Go.Proofs.YtmikdofplolmjaaGreatDoor.Lx
set_option linter.unusedVariables false
set_option linter.unusedSimpArgs false
theorem btn {s : ByteArray} {i : Nat} (h : i < s.size) : bt s (i : Int) = ((s[i]'h).toNat : Int) := by
  unfold bt
  rw [dif_pos (by rw [Int.toNat_natCast]; exact h)]
  simp only [Int.toNat_natCast]
theorem bt_is {s : ByteArray} {i : Nat} (h : i < s.size) (k : Int) (u : UInt8) (hk : ((u.toNat : Nat) : Int) = k := by decide) : bt s (i : Int) = k ↔ s[i]'h = u := by
  rw [btn h, ← UInt8.toNat_inj, ← hk]
  omega
theorem dropn {s : ByteArray} {j : Nat} (h : j < s.size) : s.data.toList.drop j = s[j] :: s.data.toList.drop (j + 1) := by
  rw [List.drop_eq_getElem_cons (by rw [Array.length_toList]; exact h)]
  rfl
theorem drope {s : ByteArray} {j : Nat} (h : s.size ≤ j) : s.data.toList.drop j = [] := List.drop_eq_nil_of_le (by rw [Array.length_toList]; exact h)
theorem lenl (s : ByteArray) : s.data.toList.length = s.size := Array.length_toList
theorem ext0 (s : ByteArray) (n : Nat) : (s.extract 0 n).data.toList = s.data.toList.take n := by simp [ByteArray.data_extract]
theorem extn (s : ByteArray) (i j : Nat) : (s.extract i j).data.toList = (s.data.toList.drop i).take (j - i) := by simp [ByteArray.data_extract]
theorem sizen {s : ByteArray} {l : List UInt8} (h : s.data.toList = l) : s.size = l.length := by rw [← h, Array.length_toList]; rfl
theorem lex_eq (s : ByteArray) (hs : s.size ≤ 65536) : lex_Lex.f s = some ((lexN (s.size + 1) 0 0 s.data.toList).1.map tokS, (((lexN (s.size + 1) 0 0 s.data.toList).2.1 : Nat) : Int), (((lexN (s.size + 1) 0 0 s.data.toList).2.2 : Nat) : Int)) := by
  unfold lex_Lex.f
  rw [if_neg (by omega)]
theorem lex_ev (s : ByteArray) (hs : s.size ≤ 65536) : Ev (fun _ => lex_Lex.f s) ((lexN (s.size + 1) 0 0 s.data.toList).1.map tokS, (((lexN (s.size + 1) 0 0 s.data.toList).2.1 : Nat) : Int), (((lexN (s.size + 1) 0 0 s.data.toList).2.2 : Nat) : Int)) := Ev.eq (lex_eq s hs)
theorem rd32_map {T : List (Nat × Nat × Nat)} {i : Nat} (h : i < T.length) : rd_T33 (T.map tokS) (i : Int) = tokS T[i] := by
  unfold rd_T33
  rw [Int.toNat_natCast, List.getD_eq_getElem?_getD, List.getElem?_map, List.getElem?_eq_getElem h]
  rfl
end Go.Proofs.YtmikdofplolmjaaGreatDoor.Pure
