/- Which words the language keeps, what a text in quotes says, and a text in quotes that says something: what these functions answer; the library's variable that is looked at may be any whole number. -/
import Derived.Test.YtmikdofplolmjaaGreatDoorLexW5
import Derived.Test.YtmikdofplolmjaaGreatDoorLexTheory2
import Derived.Test.YtmikdofplolmjaaGreatDoorBldByte
namespace Go.Proofs.YtmikdofplolmjaaGreatDoor.Lx
def wordsL : List UInt8 := [32, 99, 108, 97, 115, 115, 32, 101, 120, 116, 101, 110, 100, 115, 32, 105, 110, 105, 116, 32, 105, 110, 116, 32, 98, 111, 111, 108, 32, 100, 111, 117, 98, 108, 101, 32, 115, 116, 114, 32, 118, 111, 105, 100, 32, 79, 112, 116, 105, 111, 110, 32, 105, 102, 32, 101, 108, 115, 101, 32, 119, 104, 105, 108, 101, 32, 98, 114, 101, 97, 107, 32, 99, 111, 110, 116, 105, 110, 117, 101, 32, 114, 101, 116, 117, 114, 110, 32, 112, 114, 105, 110, 116, 32, 115, 117, 112, 101, 114, 32, 116, 104, 105, 115, 32, 110, 117, 108, 108, 32, 110, 111, 110, 101, 32, 115, 111, 109, 101, 32, 105, 115, 32, 116, 114, 117, 101, 32, 102, 97, 108, 115, 101, 32, 110, 101, 119, 32, 99, 97, 115, 116, 32, 116, 111, 105, 110, 116, 32, 116, 111, 100, 111, 117, 98, 108, 101, 32, 105, 110, 112, 117, 116, 32, 97, 115, 107, 32, 108, 101, 110, 103, 116, 104, 32, 118, 97, 108, 32]
def keptL : List (List UInt8) := [[99, 108, 97, 115, 115], [101, 120, 116, 101, 110, 100, 115], [105, 110, 105, 116], [105, 110, 116], [98, 111, 111, 108], [100, 111, 117, 98, 108, 101], [115, 116, 114], [118, 111, 105, 100], [79, 112, 116, 105, 111, 110], [105, 102], [101, 108, 115, 101], [119, 104, 105, 108, 101], [98, 114, 101, 97, 107], [99, 111, 110, 116, 105, 110, 117, 101], [114, 101, 116, 117, 114, 110], [112, 114, 105, 110, 116], [115, 117, 112, 101, 114], [116, 104, 105, 115], [110, 117, 108, 108], [110, 111, 110, 101], [115, 111, 109, 101], [105, 115], [116, 114, 117, 101], [102, 97, 108, 115, 101], [110, 101, 119], [99, 97, 115, 116], [116, 111, 105, 110, 116], [116, 111, 100, 111, 117, 98, 108, 101], [105, 110, 112, 117, 116], [97, 115, 107], [108, 101, 110, 103, 116, 104], [118, 97, 108]]
/-- Does the language keep a word? -/
def keptB (s : List UInt8) : Bool := keptL.contains s
/-- What a text in quotes says, and an error's number. -/
def unqV (s : ByteArray) : ByteArray × Int := match s.data.toList with
  | [] => (⟨#[]⟩, 5)
  | c :: l => if c = 34 then (if (quotN l).2 = 0 then (if (quotN l).1 = l.length then (⟨(unqL l).toArray⟩, 0) else (⟨#[]⟩, 5)) else (⟨#[]⟩, ((quotN l).2 : Nat))) else (⟨#[]⟩, 5)
end Go.Proofs.YtmikdofplolmjaaGreatDoor.Lx
namespace Go.Proofs.YtmikdofplolmjaaGreatDoor.LexW
open Go.RowKit Go.Shelf Go.Proofs.YtmikdofplolmjaaGreatDoorW.PrintWords Go.Proofs.YtmikdofplolmjaaGreatDoor.Lx
set_option linter.unusedVariables false
set_option linter.unusedSimpArgs false
/-! ### Words that the language keeps -/
theorem words_all : (List.range wordsL.length).all (fun i => !(wordsL[i]? == some 32) || piece (wordsL.drop (i + 1)) == [] || keptL.contains (piece (wordsL.drop (i + 1)))) = true := by decide +kernel
theorem kept_all : keptL.all (fun s => !s.isEmpty && !s.contains 32 && Lib.contains wordsL (32 :: (s ++ [32]))) = true := by decide +kernel
theorem kept_eq (s : List UInt8) : keptB s = (!s.isEmpty && (decide (Lib.indexByte s 32 < 0) && Lib.contains wordsL (32 :: (s ++ [32])))) := by
  rw [Bool.eq_iff_iff]
  constructor
  · intro h
    have h1 := List.all_eq_true.1 kept_all s (by simpa [keptB] using h)
    simp only [Bool.and_eq_true] at h1 ⊢
    refine ⟨h1.1.1, ?_, h1.2⟩
    rw [decide_eq_true_iff, index_neg]
    simpa using h1.1.2
  · intro h
    simp only [Bool.and_eq_true, decide_eq_true_iff, index_neg] at h
    obtain ⟨h1, h2, h3⟩ := h
    obtain ⟨i, k1, k2, k3, k4⟩ := (contains_word (fun c hc e => h2 (e ▸ hc))).1 h3
    have h4 := List.all_eq_true.1 words_all i (List.mem_range.2 k1)
    rw [k2, k3] at h4
    unfold keptB
    cases s with
    | nil => simp at h1
    | cons c s => simpa using h4
theorem words_contains (x0 x : ByteArray) (b : Bool) (w : World) (h0 : x0.data.toList = wordsL) (hb : Lib.contains wordsL x.data.toList = b) (h : GVl w) :
    Calls Tryz.prog 34 #[.string x0, .string x] w fun e w' => e = .returned (.bool b) ∧ w' = w := by
  obtain ⟨m, hm⟩ := h
  have hs : x0.size < 4294967281 := by
    have : x0.size = wordsL.length := by rw [← h0, Array.length_toList]; rfl
    rw [this]
    decide +kernel
  refine (Any.strings_Contains Shelf.lays144 x0 x m w hs hm).mono ?_
  rintro e w' ⟨rfl, rfl⟩
  exact ⟨by rw [← hb, ← h0], rfl⟩
theorem blank_index (s : ByteArray) (w : World) : Calls Tryz.prog 33 #[.string s, .int .u8 32] w fun e w' => e = .returned (.int .i64 (Lib.indexByte s.data.toList 32)) ∧ w' = w := by
  refine (Any.strings_IndexByte Shelf.lays137 s 32 w).mono ?_
  rintro e w' ⟨rfl, rfl⟩
  exact ⟨rfl, rfl⟩
set_option maxHeartbeats 4000000 in
set_option maxRecDepth 100000 in
theorem kept_any (s : ByteArray) (w : World) (hs : s.size ≤ 4000000000) (hv : GVl w) : Calls Tryz.prog 15 #[.string s] w fun e w' => e = .returned (.bool (keptB s.data.toList)) ∧ w' = w := by
  rw [kept_eq]
  have HV := Lib.hid hv
  have HS := Lib.hid hs
  clear hv hs
  have q1 : (9223372036854775807 < 1 + s.size) = False := eq_false (by have := HS.out; omega)
  have q2 : (9223372036854775807 < 1 + s.size + 1) = False := eq_false (by have := HS.out; omega)
  have hn : (s.toList = []) = (s.data.toList.isEmpty = true) := by rw [Lib.toList_data]; simp
  cases h1 : s.data.toList.isEmpty
  · have h1' : ¬ s.toList = [] := by rw [hn, h1]; decide
    have h1'' : s.toList.isEmpty = false := by rw [Lib.toList_data]; exact h1
    clear hn
    cases h2 : decide (Lib.indexByte s.data.toList 32 < 0)
    · go_enter Tryz.func15, Tryz.ntmps15
      go_wp2_with (go_at_call 33; refine (blank_index s _).mono ?_; rintro e w' ⟨rfl, rfl⟩)
      go_ret
      exact ⟨rfl, rfl⟩
    · have hl : (⟨#[32]⟩ ++ s ++ ⟨#[32]⟩ : ByteArray).data.toList = 32 :: (s.data.toList ++ [32]) := by simp
      rw [← hl]
      have HL := Lib.hid hl
      clear hl
      cases h3 : Lib.contains wordsL (⟨#[32]⟩ ++ s ++ ⟨#[32]⟩ : ByteArray).data.toList
      · have HC := Lib.hid h3
        clear h3
        go_enter Tryz.func15, Tryz.ntmps15
        go_wp2_with (first | (go_at_call 33; refine (blank_index s _).mono ?_; rintro e w' ⟨rfl, rfl⟩) | (go_at_call 34; refine (words_contains _ _ false _ ?h0 HC.out HV.out).mono ?_; (case h0 => decide +kernel); rintro e w' ⟨rfl, rfl⟩))
        go_ret
        exact ⟨rfl, rfl⟩
      · have HC := Lib.hid h3
        clear h3
        go_enter Tryz.func15, Tryz.ntmps15
        go_wp2_with (first | (go_at_call 33; refine (blank_index s _).mono ?_; rintro e w' ⟨rfl, rfl⟩) | (go_at_call 34; refine (words_contains _ _ true _ ?h0 HC.out HV.out).mono ?_; (case h0 => decide +kernel); rintro e w' ⟨rfl, rfl⟩))
        go_ret
        exact ⟨rfl, rfl⟩
  · have h1' : s.toList = [] := by rw [hn, h1]
    have h1'' : s.toList.isEmpty = true := by rw [Lib.toList_data]; exact h1
    clear hn
    go_enter Tryz.func15, Tryz.ntmps15
    go_wp2
    go_ret
    exact ⟨rfl, rfl⟩
/-! ### A text in quotes that says something -/
def qv (bs l : List UInt8) : ByteArray × Int := match quoteL l with
  | some r => (⟨(bs ++ r).toArray⟩, 0)
  | none => (⟨#[]⟩, 60)
theorem qv_map {bs a l m : List UInt8} (h : quoteL m = (quoteL l).map fun q => a ++ q) : qv bs m = qv (bs ++ a) l := by
  unfold qv
  rw [h]
  cases quoteL l with
  | none => rfl
  | some q => simp
theorem qv_nl (bs l : List UInt8) : qv bs (10 :: l) = qv (bs ++ [92, 110]) l := qv_map (by rw [quoteL, if_pos rfl]; rfl)
theorem qv_tab (bs l : List UInt8) : qv bs (9 :: l) = qv (bs ++ [92, 116]) l := qv_map (by rw [quoteL, if_neg (by decide), if_pos rfl]; rfl)
theorem qv_esc (bs l : List UInt8) {c : UInt8} (h : c = 34 ∨ c = 92) : qv bs (c :: l) = qv (bs ++ [92, c]) l := qv_map (by
  rw [quoteL, if_neg (by rcases h with rfl | rfl <;> decide), if_neg (by rcases h with rfl | rfl <;> decide), if_pos h]; rfl)
theorem qv_bad (bs l : List UInt8) {c : UInt8} (h1 : c ≠ 10) (h2 : c ≠ 9) (h3 : ¬ (c = 34 ∨ c = 92)) (h4 : c < 32 ∨ 126 < c) : qv bs (c :: l) = (⟨#[]⟩, 60) := by
  unfold qv
  rw [quoteL, if_neg h1, if_neg h2, if_neg h3, if_pos h4]
theorem qv_else (bs l : List UInt8) {c : UInt8} (h1 : c ≠ 10) (h2 : c ≠ 9) (h3 : ¬ (c = 34 ∨ c = 92)) (h4 : ¬ (c < 32 ∨ 126 < c)) : qv bs (c :: l) = qv (bs ++ [c]) l := qv_map (by
  rw [quoteL, if_neg h1, if_neg h2, if_neg h3, if_neg h4]; rfl)
theorem qv_end (bs : List UInt8) : qv bs [] = (⟨(bs ++ [34]).toArray⟩, 0) := rfl
/-- What is so behind a text that was quoted. -/
def QuoteP (r : ByteArray × Int) (w : World) (e : Ending) (w' : World) : Prop := e = .returned (.tuple #[.string r.1, .int .i64 r.2]) ∧ Below w.heap.size w w'
set_option maxHeartbeats 8000000 in
set_option maxRecDepth 100000 in
theorem quote_any (s : ByteArray) (w : World) (hs : s.size ≤ 1000000000) : Calls Tryz.prog 13 #[.string s] w (QuoteP (qv [34] s.data.toList) w) := by
  have HB := Aside0.mk (Below.refl w.heap.size w)
  have HS := Lib.hid hs
  have HLEN := Lib.hid (show ([] : List UInt8).length ≤ 2 * 0 + 1 by decide)
  obtain ⟨R, hR⟩ : ∃ R, qv [34] s.data.toList = R := ⟨_, rfl⟩
  rw [hR]
  have HR := Lib.hid hR
  clear hR hs
  go_enter Tryz.func13, Tryz.ntmps13
  go_wp2_with (first | ((with_reducible refine gate_dst (N := 4) rfl ?_); refine box_event ?hg (N := 4) ?hd (cs := #[.pointer none, .slice none 0 0]) (t := 67) ?hr ?_; (case hd => rfl); (case hg => rfl); (case hr => first | (go_simp; done) | (go_simp; rfl)); intro gb hg w3 hbox hb; have HBL := Aside0.mk (Bld.fresh (B := w.heap.size) (by rw [hg]; exact (below_size (pxb HB))) hbox); have n0_ := pxs HB hb; clear HB; have HB := n0_; clear n0_ hb hbox hg) | (go_at_call 28; refine (BldByte.WriteByte w.heap.size gb _ _ _ HBL.out (by have := HLEN.out; have := HS.out; simp only [List.length_append, Bld.byteCells_length, List.length_cons, List.length_nil]; omega) HB.out.size).mono ?_; rintro e wx ⟨rfl, hbl, hb, hfr⟩; have n0_ := Aside0.mk (show Lib.IsBuilder 67 5 w.heap.size gb _ wx from .inr hbl); have n1_ := Aside0.mk (HB.out.trans hb); clear HBL HB; have HBL := n0_; have HB := n1_; clear n0_ n1_ hbl hb hfr))
  go_loopg [10] s.size (fun kq v10 w' => ∃ (j : Nat) (bs : List UInt8), v10 = .int .i64 j ∧ Hid (j ≤ s.size ∧ kq = s.size - j ∧ bs.length ≤ 2 * j + 1 ∧ qv bs (s.data.toList.drop j) = R ∧ Lib.IsBuilder 67 5 w.heap.size gb (Lib.byteCells bs) w' ∧ Below w.heap.size w w'))
  case atStart => exact ⟨0, [34], rfl, Nat.zero_le _, rfl, by decide, HR.out, HBL.out, HB.out⟩
  case round =>
    clear HBL HB HLEN HR
    obtain ⟨j, bs, rfl, hrel⟩ := hrel
    obtain ⟨hj, hk, hl, hq, hb, hbel⟩ := hrel.out
    have HJ := Lib.hid hj
    have HK := Lib.hid hk
    have HLEN := Lib.hid hl
    have HQ := Lib.hid hq
    have HBL := Aside0.mk hb
    have HB := Aside0.mk hbel
    clear hrel hj hk hl hq hb hbel
    by_cases hlt : j < s.size
    · have bj : j < 1000000000 := by have := HS.out; omega
      have HD := Lib.hid (drop_at hlt)
      obtain ⟨c, hc⟩ : ∃ c, s[j] = c := ⟨_, rfl⟩
      rw [hc] at HD
      have hq := HQ.out
      rw [HD.out] at hq
      clear HQ HD
      have k1 : ((c.toNat : Int) == 10) = (c == 10) := u8_eq _ 10 (by decide)
      have k2 : ((c.toNat : Int) == 9) = (c == 9) := u8_eq _ 9 (by decide)
      have k3 : ((c.toNat : Int) == 34) = (c == 34) := u8_eq _ 34 (by decide)
      have k4 : ((c.toNat : Int) == 92) = (c == 92) := u8_eq _ 92 (by decide)
      have k5 : decide ((c.toNat : Int) < 32) = decide (c < 32) := u8_lt _ 32 (by decide)
      have k6 : decide (126 < (c.toNat : Int)) = decide (126 < c) := u8_gt _ 126 (by decide)
      cases t1 : (c == 10)
      · rw [t1] at k1
        cases t2 : (c == 9)
        · rw [t2] at k2
          by_cases t3 : c = 34 ∨ c = 92
          · rw [qv_esc _ _ t3] at hq
            have HQ := Lib.hid hq
            have T3 := Lib.hid t3
            clear hq t3
            cases t4 : (c == 34)
            · have t5 : (c == 92) = true := by
                rcases T3.out with h | h
                · rw [h] at t4; cases t4
                · exact beq_iff_eq.2 h
              rw [t4] at k3
              rw [t5] at k4
              go_wp2_with (go_at_call 28; refine (BldByte.WriteByte w.heap.size gb _ _ _ HBL.out (by have := HLEN.out; have := HS.out; simp only [List.length_append, Bld.byteCells_length, List.length_cons, List.length_nil]; omega) HB.out.size).mono ?_; rintro e wx ⟨rfl, hbl, hb, hfr⟩; have n0_ := Aside0.mk (show Lib.IsBuilder 67 5 w.heap.size gb _ wx from .inr hbl); have n1_ := Aside0.mk (HB.out.trans hb); clear HBL HB; have HBL := n0_; have HB := n1_; clear n0_ n1_ hbl hb hfr)
              go_roundg (s.size - (j + 1))
              case measure => have := HK.out; omega
              case rel => exact ⟨j + 1, _, by go_num, by omega, rfl, by have := HLEN.out; simp; omega, HQ.out, by have h := HBL.out; rw [show ([.int .u8 92] : List Value) = [.int .u8 (92 : UInt8).toNat] from rfl, BldByte.byteCells_snoc, BldByte.byteCells_snoc, List.append_assoc] at h; exact h, HB.out⟩
            · rw [t4] at k3
              clear k4
              go_wp2_with (go_at_call 28; refine (BldByte.WriteByte w.heap.size gb _ _ _ HBL.out (by have := HLEN.out; have := HS.out; simp only [List.length_append, Bld.byteCells_length, List.length_cons, List.length_nil]; omega) HB.out.size).mono ?_; rintro e wx ⟨rfl, hbl, hb, hfr⟩; have n0_ := Aside0.mk (show Lib.IsBuilder 67 5 w.heap.size gb _ wx from .inr hbl); have n1_ := Aside0.mk (HB.out.trans hb); clear HBL HB; have HBL := n0_; have HB := n1_; clear n0_ n1_ hbl hb hfr)
              go_roundg (s.size - (j + 1))
              case measure => have := HK.out; omega
              case rel => exact ⟨j + 1, _, by go_num, by omega, rfl, by have := HLEN.out; simp; omega, HQ.out, by have h := HBL.out; rw [show ([.int .u8 92] : List Value) = [.int .u8 (92 : UInt8).toNat] from rfl, BldByte.byteCells_snoc, BldByte.byteCells_snoc, List.append_assoc] at h; exact h, HB.out⟩
          · have h34 : (c == 34) = false := beq_eq_false_iff_ne.2 (fun h => t3 (.inl h))
            have h92 : (c == 92) = false := beq_eq_false_iff_ne.2 (fun h => t3 (.inr h))
            rw [h34] at k3
            rw [h92] at k4
            by_cases t6 : c < 32 ∨ 126 < c
            · rw [qv_bad _ _ (beq_eq_false_iff_ne.1 t1) (beq_eq_false_iff_ne.1 t2) t3 t6] at hq
              have HQ := Lib.hid hq
              have T6 := Lib.hid t6
              clear hq t3 t6 h34 h92
              cases t7 : decide (c < 32)
              · have t8 : decide (126 < c) = true := by
                  rcases T6.out with h | h
                  · rw [decide_eq_true h] at t7; cases t7
                  · exact decide_eq_true h
                rw [t7] at k5
                rw [t8] at k6
                go_wp2
                go_ret2
                exact ⟨by rw [← HQ.out]; rfl, pxb HB⟩
              · rw [t7] at k5
                go_wp2
                go_ret2
                exact ⟨by rw [← HQ.out]; rfl, pxb HB⟩
            · rw [qv_else _ _ (beq_eq_false_iff_ne.1 t1) (beq_eq_false_iff_ne.1 t2) t3 t6] at hq
              have HQ := Lib.hid hq
              rw [decide_eq_false (fun h => t6 (.inl h))] at k5
              rw [decide_eq_false (fun h => t6 (.inr h))] at k6
              clear hq t3 t6 h34 h92
              go_wp2_with (go_at_call 28; refine (BldByte.WriteByte w.heap.size gb _ _ _ HBL.out (by have := HLEN.out; have := HS.out; simp only [List.length_append, Bld.byteCells_length, List.length_cons, List.length_nil]; omega) HB.out.size).mono ?_; rintro e wx ⟨rfl, hbl, hb, hfr⟩; have n0_ := Aside0.mk (show Lib.IsBuilder 67 5 w.heap.size gb _ wx from .inr hbl); have n1_ := Aside0.mk (HB.out.trans hb); clear HBL HB; have HBL := n0_; have HB := n1_; clear n0_ n1_ hbl hb hfr)
              go_roundg (s.size - (j + 1))
              case measure => have := HK.out; omega
              case rel => exact ⟨j + 1, _, by go_num, by omega, rfl, by have := HLEN.out; simp; omega, HQ.out, by rw [← BldByte.byteCells_snoc]; exact HBL.out, HB.out⟩
        · rw [t2] at k2
          rw [beq_iff_eq.1 t2, qv_tab] at hq
          have HQ := Lib.hid hq
          clear hq
          go_wp2_with (go_at_call 30; refine (Bld.WriteString w.heap.size gb _ _ _ HBL.out (by have := HLEN.out; have := HS.out; simp only [List.length_append, Bld.byteCells_length, List.length_cons, List.length_nil]; have e : ∀ (a b : UInt8), (⟨#[a, b]⟩ : ByteArray).size = 2 := fun _ _ => rfl; simp only [e]; omega) HB.out.size).mono ?_; rintro e wx ⟨rfl, hbl, hb, hfr⟩; have n0_ := Aside0.mk (show Lib.IsBuilder 67 5 w.heap.size gb _ wx from .inr hbl); have n1_ := Aside0.mk (HB.out.trans hb); clear HBL HB; have HBL := n0_; have HB := n1_; clear n0_ n1_ hbl hb hfr)
          go_roundg (s.size - (j + 1))
          case measure => have := HK.out; omega
          case rel => exact ⟨j + 1, _, by go_num, by omega, rfl, by have := HLEN.out; simp; omega, HQ.out, by have h := HBL.out; rw [Bld.byteCells_append] at h; exact h, HB.out⟩
      · rw [t1] at k1
        rw [beq_iff_eq.1 t1, qv_nl] at hq
        have HQ := Lib.hid hq
        clear hq
        go_wp2_with (go_at_call 30; refine (Bld.WriteString w.heap.size gb _ _ _ HBL.out (by have := HLEN.out; have := HS.out; simp only [List.length_append, Bld.byteCells_length, List.length_cons, List.length_nil]; have e : ∀ (a b : UInt8), (⟨#[a, b]⟩ : ByteArray).size = 2 := fun _ _ => rfl; simp only [e]; omega) HB.out.size).mono ?_; rintro e wx ⟨rfl, hbl, hb, hfr⟩; have n0_ := Aside0.mk (show Lib.IsBuilder 67 5 w.heap.size gb _ wx from .inr hbl); have n1_ := Aside0.mk (HB.out.trans hb); clear HBL HB; have HBL := n0_; have HB := n1_; clear n0_ n1_ hbl hb hfr)
        go_roundg (s.size - (j + 1))
        case measure => have := HK.out; omega
        case rel => exact ⟨j + 1, _, by go_num, by omega, rfl, by have := HLEN.out; simp; omega, HQ.out, by have h := HBL.out; rw [Bld.byteCells_append] at h; exact h, HB.out⟩
    · have hq := HQ.out
      rw [drop_end (by omega), qv_end] at hq
      have HQ2 := Lib.hid hq
      have HS2 := Lib.hid (show j ≤ 1000000000 by have := HJ.out; have := HS.out; omega)
      clear hq HQ
      go_wp2_with (first | (go_at_call 28; refine (BldByte.WriteByte w.heap.size gb _ _ _ HBL.out (by have := HLEN.out; have := HS2.out; simp only [List.length_append, Bld.byteCells_length, List.length_cons, List.length_nil]; omega) HB.out.size).mono ?_; rintro e wx ⟨rfl, hbl, hb, hfr⟩; rw [show ([.int .u8 34] : List Value) = [.int .u8 (34 : UInt8).toNat] from rfl, BldByte.byteCells_snoc] at hbl; have n0_ := Aside0.mk (show Lib.IsBuilder 67 5 w.heap.size gb _ wx from .inr hbl); have n1_ := Aside0.mk (HB.out.trans hb); clear HBL HB; have HBL := n0_; have HB := n1_; clear n0_ n1_ hbl hb hfr) | (go_at_call 29; refine (Bld.String w.heap.size gb (bs ++ [34]) _ HBL.out HB.out.size).mono ?_; rintro e wx ⟨rfl, hb⟩; have n1_ := Aside0.mk (HB.out.trans hb); clear HBL HB; have HB := n1_; clear n1_ hb))
      go_ret2
      exact ⟨by rw [← HQ2.out]; rfl, pxb HB⟩
/-! ### What a text in quotes says -/
theorem unqV_eq {s : ByteArray} {c : UInt8} {l : List UInt8} (h : s.data.toList = c :: l) : unqV s = if c = 34 then (if (quotN l).2 = 0 then (if (quotN l).1 = l.length then ((⟨(unqL l).toArray⟩ : ByteArray), (0 : Int)) else ((⟨#[]⟩ : ByteArray), (5 : Int))) else ((⟨#[]⟩ : ByteArray), (((quotN l).2 : Nat) : Int))) else ((⟨#[]⟩ : ByteArray), (5 : Int)) := by
  unfold unqV
  rw [h]
theorem unqL_esc (d : UInt8) (l : List UInt8) : unqL (92 :: d :: l) = escB d :: unqL l := by rw [unqL, if_pos rfl]
theorem unqL_else {c : UInt8} (d : UInt8) (l : List UInt8) (h : c ≠ 92) : unqL (c :: d :: l) = c :: unqL (d :: l) := by rw [unqL, if_neg h]
theorem unqL_last (c : UInt8) : unqL [c] = [] := rfl
set_option maxHeartbeats 8000000 in
set_option maxRecDepth 100000 in
theorem unquote_any (s : ByteArray) (w : World) (hs : s.size ≤ 1000000000) : Calls Tryz.prog 12 #[.string s] w (QuoteP (unqV s) w) := by
  have HB := Aside0.mk (Below.refl w.heap.size w)
  have HS := Lib.hid hs
  have HS4 := Lib.hid (show s.size ≤ 4611686018427387904 by omega)
  rcases Nat.eq_zero_or_pos s.size with h0 | h0
  · have hnil : s.data.toList = [] := List.eq_nil_of_length_eq_zero (by rw [Array.length_toList]; exact h0)
    have h1' : s.toList = [] := by rw [Lib.toList_data]; exact hnil
    have h1'' : s.toList.isEmpty = true := by rw [h1']; rfl
    have e : unqV s = (⟨#[]⟩, 5) := by unfold unqV; rw [hnil]
    have HE := Lib.hid e
    clear hs hnil e h0
    go_enter Tryz.func12, Tryz.ntmps12
    go_wp2_with ((with_reducible refine gate_dst (N := 11) rfl ?_); refine box_event ?hg (N := 11) ?hd (cs := #[.string s, .int .i64 0, .slice none 0 0]) (t := 52) ?hr ?_; (case hd => rfl); (case hg => rfl); (case hr => first | (go_simp; done) | (go_simp; rfl)); intro gr hg w4 hbox hb; have n0_ := pxs HB hb; have GW2 := Aside0.mk ((by rw [hg]; exact (below_size (pxb HB)) : w.heap.size ≤ gr)); have HRD := Aside0.mk (hbox); clear HB; have HB := n0_; clear n0_ hb hbox hg)
    go_ret2
    exact ⟨by rw [HE.out]; rfl, pxb HB⟩
  · have hd0 := drop_at (s := s) (j := 0) h0
    rw [List.drop_zero, Nat.zero_add] at hd0
    have hne : ¬ s.toList = [] := by rw [Lib.toList_data, hd0]; simp
    have hne2 : s.toList.isEmpty = false := by rw [Lib.toList_data, hd0]; rfl
    have HSZ := Lib.hid h0
    obtain ⟨c, hc⟩ : ∃ c, s[(0 : Nat)]'h0 = c := ⟨_, rfl⟩
    rw [hc] at hd0
    have hu := unqV_eq hd0
    have k0 : ((c.toNat : Int) == 34) = (c == 34) := u8_eq _ 34 (by decide)
    cases t0 : (c == 34)
    · rw [if_neg (beq_eq_false_iff_ne.1 t0)] at hu
      have HU := Lib.hid hu
      have k0' : ((c.toNat : Int) != 34) = true := by rw [bne, k0, t0]; rfl
      rw [t0] at k0
      clear hs hd0 hu
      go_enter Tryz.func12, Tryz.ntmps12
      go_wp2_with ((with_reducible refine gate_dst (N := 11) rfl ?_); refine box_event ?hg (N := 11) ?hd (cs := #[.string s, .int .i64 0, .slice none 0 0]) (t := 52) ?hr ?_; (case hd => rfl); (case hg => rfl); (case hr => first | (go_simp; done) | (go_simp; rfl)); intro gr hg w4 hbox hb; have n0_ := pxs HB hb; have GW2 := Aside0.mk ((by rw [hg]; exact (below_size (pxb HB)) : w.heap.size ≤ gr)); have HRD := Aside0.mk (hbox); clear HB; have HB := n0_; clear n0_ hb hbox hg)
      go_ret2
      exact ⟨by rw [HU.out]; rfl, pxb HB⟩
    · rw [if_pos (beq_iff_eq.1 t0)] at hu
      have k0' : ((c.toNat : Int) != 34) = false := by rw [bne, k0, t0]; rfl
      rw [t0] at k0
      obtain ⟨C, hC⟩ : ∃ C, (quotN (s.data.toList.drop 1)).2 = C := ⟨_, rfl⟩
      rw [hC] at hu
      have HC := Lib.hid hC
      clear hs hC
      by_cases hC0 : C = 0
      · rw [if_pos hC0] at hu
        have hlen : (s.data.toList.drop 1).length = s.size - 1 := by rw [List.length_drop, Array.length_toList]; rfl
        rw [hlen] at hu
        subst hC0
        obtain ⟨m, hm⟩ : ∃ m, 0 + 1 + (quotN (s.data.toList.drop (0 + 1))).1 = m := ⟨_, rfl⟩
        have HM := Lib.hid hm
        clear hm hlen hd0
        by_cases hlast : (quotN (s.data.toList.drop 1)).1 = s.size - 1
        · rw [if_pos hlast] at hu
          obtain rfl : m = s.size := by have := HM.out; rw [Nat.zero_add] at this; omega
          have HU := Lib.hid hu
          clear hu hlast
          go_enter Tryz.func12, Tryz.ntmps12
          go_wp2_with (first | ((with_reducible refine gate_dst (N := 11) rfl ?_); refine box_event ?hg (N := 11) ?hd (cs := #[.string s, .int .i64 0, .slice none 0 0]) (t := 52) ?hr ?_; (case hd => rfl); (case hg => rfl); (case hr => first | (go_simp; done) | (go_simp; rfl)); intro gr hg w4 hbox hb; have n0_ := pxs HB hb; have GW2 := Aside0.mk ((by rw [hg]; exact (below_size (pxb HB)) : w.heap.size ≤ gr)); have HRD := Aside0.mk (hbox); clear HB; have HB := n0_; clear n0_ hb hbox hg) | (go_at_call 27; refine (quoted_any gr s (.slice none 0 0) 0 _ HSZ.out HS4.out HRD.out).mono ?_; rw [Nat.zero_add, HC.out]; rintro e w5 ⟨rfl, ⟨j, hR1, hj⟩, hO1⟩; have n0_ := Aside0.mk (HB.out.trans (hO1.to GW2.out)); clear HB; have HB := n0_; clear n0_; obtain rfl := (hj rfl).trans HM.out; obtain ⟨c0, c1, c2, f0, f1, f2⟩ := hR1.at; clear hR1 hO1 hj c2 f0 f1 f2) | ((with_reducible refine gate_dst (N := 6) rfl ?_); refine box_event ?hg (N := 6) ?hd (cs := #[.pointer none, .slice none 0 0]) (t := 67) ?hr ?_; (case hd => rfl); (case hg => rfl); (case hr => first | (go_simp; done) | (go_simp; rfl)); intro gb hg w3 hbox hb; have HBL := Aside0.mk (Bld.fresh (B := w.heap.size) (by rw [hg]; exact (below_size (pxb HB))) hbox); have n0_ := pxs HB hb; clear HB; have HB := n0_; clear n0_ hb hbox hg))
          clear c0 c1 k0 k0' hne hne2 HRD
          have HLEN0 := Lib.hid (show ([] : List UInt8).length ≤ 1 by decide)
          have bs9 : s.size ≤ 1000000000 := HS.out
          go_loopg [7] (s.size - 1) (fun kq v7 w' => ∃ (j : Nat) (bs : List UInt8), v7 = .int .i64 j ∧ Hid (j ≤ s.size ∧ kq = s.size - j ∧ 1 ≤ j ∧ bs.length ≤ j ∧ bs ++ unqL (s.data.toList.drop j) = unqL (s.data.toList.drop 1) ∧ Lib.IsBuilder 67 5 w.heap.size gb (Lib.byteCells bs) w' ∧ Below w.heap.size w w'))
          case atStart => exact ⟨1, [], rfl, h0, rfl, Nat.le_refl _, by decide, rfl, HBL.out, HB.out⟩
          case round =>
            clear HBL HB HLEN0 HM HC
            obtain ⟨j, bs, rfl, hrel⟩ := hrel
            obtain ⟨hj, hk, h1j, hl, hq, hb, hbel⟩ := hrel.out
            have HJ := Lib.hid hj
            have HK := Lib.hid hk
            have HLEN := Lib.hid hl
            have HBL := Aside0.mk hb
            have HB := Aside0.mk hbel
            clear hrel hj hk hl hb hbel
            by_cases hlt : j + 1 < s.size
            · have q1 : decide ((j : Int) < (s.size : Int) - 1) = true := decide_eq_true (by omega)
              have bj : j < 1000000000 := by omega
              rw [drop_at (by omega : j < s.size), drop_at hlt] at hq
              have q2 : (j < s.size) = True := eq_true (by omega)
              obtain ⟨c1, hc1⟩ : ∃ c1, s[j] = c1 := ⟨_, rfl⟩
              obtain ⟨d, hd⟩ : ∃ d, s[j + 1] = d := ⟨_, rfl⟩
              rw [hc1, hd] at hq
              have e1 : ((c1.toNat : Int) == 92) = (c1 == 92) := u8_eq _ 92 (by decide)
              cases t1 : (c1 == 92)
              · rw [t1] at e1
                rw [unqL_else _ _ (beq_eq_false_iff_ne.1 t1), ← hd, ← drop_at hlt, ← List.singleton_append, ← List.append_assoc] at hq
                have HQ := Lib.hid hq
                clear hq hd
                go_wp2_with (go_at_call 28; refine (BldByte.WriteByte w.heap.size gb _ _ _ HBL.out (by have := HLEN.out; have := HS.out; simp only [List.length_append, Bld.byteCells_length, List.length_cons, List.length_nil]; omega) HB.out.size).mono ?_; rintro e wx ⟨rfl, hbl, hb, hfr⟩; have n0_ := Aside0.mk (show Lib.IsBuilder 67 5 w.heap.size gb _ wx from .inr hbl); have n1_ := Aside0.mk (HB.out.trans hb); clear HBL HB; have HBL := n0_; have HB := n1_; clear n0_ n1_ hbl hb hfr)
                go_roundg (s.size - (j + 1))
                case measure => have := HK.out; omega
                case rel => exact ⟨j + 1, _, by go_num, by omega, rfl, by omega, by have := HLEN.out; simp; omega, HQ.out, by have h := HBL.out; rw [ BldByte.byteCells_snoc] at h; exact h, HB.out⟩
              · rw [t1] at e1
                rw [beq_iff_eq.1 t1, unqL_esc, ← List.singleton_append, ← List.append_assoc] at hq
                have p1 : ((j : Int) + 1).toNat = j + 1 := by omega
                have e2 : ((d.toNat : Int) == 110) = (d == 110) := u8_eq _ 110 (by decide)
                have e3 : ((d.toNat : Int) == 116) = (d == 116) := u8_eq _ 116 (by decide)
                cases t2 : (d == 110)
                · rw [t2] at e2
                  cases t3 : (d == 116)
                  · rw [t3] at e3
                    rw [show escB d = d by unfold escB; rw [if_neg (beq_eq_false_iff_ne.1 t2), if_neg (beq_eq_false_iff_ne.1 t3)]] at hq
                    have HQ := Lib.hid hq
                    clear hq
                    go_wp2_with (go_at_call 28; refine (BldByte.WriteByte w.heap.size gb _ _ _ HBL.out (by have := HLEN.out; have := HS.out; simp only [List.length_append, Bld.byteCells_length, List.length_cons, List.length_nil]; omega) HB.out.size).mono ?_; rintro e wx ⟨rfl, hbl, hb, hfr⟩; have n0_ := Aside0.mk (show Lib.IsBuilder 67 5 w.heap.size gb _ wx from .inr hbl); have n1_ := Aside0.mk (HB.out.trans hb); clear HBL HB; have HBL := n0_; have HB := n1_; clear n0_ n1_ hbl hb hfr)
                    go_roundg (s.size - (j + 2))
                    case measure => have := HK.out; omega
                    case rel => exact ⟨j + 2, _, by go_num, by omega, rfl, by omega, by have := HLEN.out; simp; omega, HQ.out, by have h := HBL.out; rw [ BldByte.byteCells_snoc] at h; exact h, HB.out⟩
                  · rw [t3] at e3
                    rw [show escB d = 9 by rw [beq_iff_eq.1 t3]; rfl] at hq
                    have HQ := Lib.hid hq
                    clear hq
                    go_wp2_with (go_at_call 28; refine (BldByte.WriteByte w.heap.size gb _ _ _ HBL.out (by have := HLEN.out; have := HS.out; simp only [List.length_append, Bld.byteCells_length, List.length_cons, List.length_nil]; omega) HB.out.size).mono ?_; rintro e wx ⟨rfl, hbl, hb, hfr⟩; have n0_ := Aside0.mk (show Lib.IsBuilder 67 5 w.heap.size gb _ wx from .inr hbl); have n1_ := Aside0.mk (HB.out.trans hb); clear HBL HB; have HBL := n0_; have HB := n1_; clear n0_ n1_ hbl hb hfr)
                    go_roundg (s.size - (j + 2))
                    case measure => have := HK.out; omega
                    case rel => exact ⟨j + 2, _, by go_num, by omega, rfl, by omega, by have := HLEN.out; simp; omega, HQ.out, by have h := HBL.out; rw [show ([.int .u8 9] : List Value) = [.int .u8 (9 : UInt8).toNat] from rfl, BldByte.byteCells_snoc] at h; exact h, HB.out⟩
                · rw [t2] at e2
                  rw [show escB d = 10 by rw [beq_iff_eq.1 t2]; rfl] at hq
                  have HQ := Lib.hid hq
                  clear hq
                  go_wp2_with (go_at_call 28; refine (BldByte.WriteByte w.heap.size gb _ _ _ HBL.out (by have := HLEN.out; have := HS.out; simp only [List.length_append, Bld.byteCells_length, List.length_cons, List.length_nil]; omega) HB.out.size).mono ?_; rintro e wx ⟨rfl, hbl, hb, hfr⟩; have n0_ := Aside0.mk (show Lib.IsBuilder 67 5 w.heap.size gb _ wx from .inr hbl); have n1_ := Aside0.mk (HB.out.trans hb); clear HBL HB; have HBL := n0_; have HB := n1_; clear n0_ n1_ hbl hb hfr)
                  go_roundg (s.size - (j + 2))
                  case measure => have := HK.out; omega
                  case rel => exact ⟨j + 2, _, by go_num, by omega, rfl, by omega, by have := HLEN.out; simp; omega, HQ.out, by have h := HBL.out; rw [show ([.int .u8 10] : List Value) = [.int .u8 (10 : UInt8).toNat] from rfl, BldByte.byteCells_snoc] at h; exact h, HB.out⟩
            · have q1 : decide ((j : Int) < (s.size : Int) - 1) = false := decide_eq_false (by omega)
              have hz : unqL (s.data.toList.drop j) = [] := by
                rcases Nat.lt_or_ge j s.size with h | h
                · rw [drop_at h, drop_end (by omega)]; rfl
                · rw [drop_end h]; rfl
              rw [hz, List.append_nil] at hq
              have HQ := Lib.hid hq
              clear hq hz
              go_wp2_with (go_at_call 29; refine (Bld.String w.heap.size gb bs _ HBL.out HB.out.size).mono ?_; rintro e wx ⟨rfl, hb⟩; have n1_ := Aside0.mk (HB.out.trans hb); clear HBL HB; have HB := n1_; clear n1_ hb)
              go_ret2
              exact ⟨by rw [HU.out, HQ.out]; rfl, pxb HB⟩
        · rw [if_neg hlast] at hu
          have HU := Lib.hid hu
          have n1 : ((m : Int) == (s.size : Int)) = false := beq_eq_false_iff_ne.2 (by have := HM.out; rw [Nat.zero_add] at this; omega)
          have n2 : ((m : Int) != (s.size : Int)) = true := by rw [bne, n1]; rfl
          have n3 : (m == s.size) = false := beq_eq_false_iff_ne.2 (by have := HM.out; rw [Nat.zero_add] at this; omega)
          have n4 : (m != s.size) = true := by rw [bne, n3]; rfl
          clear hu hlast
          go_enter Tryz.func12, Tryz.ntmps12
          go_wp2_with (first | ((with_reducible refine gate_dst (N := 11) rfl ?_); refine box_event ?hg (N := 11) ?hd (cs := #[.string s, .int .i64 0, .slice none 0 0]) (t := 52) ?hr ?_; (case hd => rfl); (case hg => rfl); (case hr => first | (go_simp; done) | (go_simp; rfl)); intro gr hg w4 hbox hb; have n0_ := pxs HB hb; have GW2 := Aside0.mk ((by rw [hg]; exact (below_size (pxb HB)) : w.heap.size ≤ gr)); have HRD := Aside0.mk (hbox); clear HB; have HB := n0_; clear n0_ hb hbox hg) | (go_at_call 27; refine (quoted_any gr s (.slice none 0 0) 0 _ HSZ.out HS4.out HRD.out).mono ?_; rw [Nat.zero_add, HC.out]; rintro e w5 ⟨rfl, ⟨j, hR1, hj⟩, hO1⟩; have n0_ := Aside0.mk (HB.out.trans (hO1.to GW2.out)); clear HB; have HB := n0_; clear n0_; obtain rfl := (hj rfl).trans HM.out; obtain ⟨c0, c1, c2, f0, f1, f2⟩ := hR1.at; clear hR1 hO1 hj c2 f0 f1 f2))
          go_ret2
          exact ⟨by rw [HU.out]; rfl, pxb HB⟩
      · rw [if_neg hC0] at hu
        have HU := Lib.hid hu
        have n1 : ((C : Int) == 0) = false := beq_eq_false_iff_ne.2 (by omega)
        have n2 : ((C : Int) != 0) = true := by rw [bne, n1]; rfl
        clear hu hC0 hd0
        go_enter Tryz.func12, Tryz.ntmps12
        go_wp2_with (first | ((with_reducible refine gate_dst (N := 11) rfl ?_); refine box_event ?hg (N := 11) ?hd (cs := #[.string s, .int .i64 0, .slice none 0 0]) (t := 52) ?hr ?_; (case hd => rfl); (case hg => rfl); (case hr => first | (go_simp; done) | (go_simp; rfl)); intro gr hg w4 hbox hb; have n0_ := pxs HB hb; have GW2 := Aside0.mk ((by rw [hg]; exact (below_size (pxb HB)) : w.heap.size ≤ gr)); have HRD := Aside0.mk (hbox); clear HB; have HB := n0_; clear n0_ hb hbox hg) | (go_at_call 27; refine (quoted_any gr s (.slice none 0 0) 0 _ HSZ.out HS4.out HRD.out).mono ?_; rw [Nat.zero_add, HC.out]; rintro e w5 ⟨rfl, ⟨j, hR1, hj⟩, hO1⟩; have n0_ := Aside0.mk (HB.out.trans (hO1.to GW2.out)); clear HB; have HB := n0_; clear n0_; clear hR1 hO1 hj))
        go_ret2
        exact ⟨by rw [HU.out]; rfl, pxb HB⟩
end Go.Proofs.YtmikdofplolmjaaGreatDoor.LexW
