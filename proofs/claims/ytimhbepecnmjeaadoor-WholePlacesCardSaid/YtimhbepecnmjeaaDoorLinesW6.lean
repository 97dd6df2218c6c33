/- How a span is pointed at: what the method answers; every table that Of makes. -/
import Derived.Test.YtimhbepecnmjeaaDoorLinesW5
import Derived.Test.YtimhbepecnmjeaaDoorBldByte
import Derived.Test.YtimhbepecnmjeaaDoorX19
namespace Go.Proofs.YtimhbepecnmjeaaDoor.LiW
open Go.RowKit Go.Shelf Go.Proofs.YtimhbepecnmjeaaDoorW.PrintWords Go.Proofs.YtimhbepecnmjeaaDoorW.PrintLast Go.Proofs.YtimhbepecnmjeaaDoorW.PrintMore Go.Proofs.YtimhbepecnmjeaaDoor.Li
theorem max2_mx (k k' : IntKind) (x y : Int) : Builtin.max2 (.int k x) (.int k' y) = pure (.int k (mx x y)) := max2_int k k' x y
theorem min2_mn (k k' : IntKind) (x y : Int) : Builtin.min2 (.int k x) (.int k' y) = pure (.int k (mn x y)) := min2_int k k' x y
attribute [local go_sem] max2_mx min2_mn max_two min_two
set_option linter.unusedVariables false
set_option linter.unusedSimpArgs false
theorem repeat_any (s : ByteArray) (c : Nat) (w : World) (hc : c ≤ 9223372036854775807) (hlen : s.size * c ≤ 140737488355328) : Calls Tryd.prog 36 #[.string s, .int .i64 c] w fun e w' => e = .returned (.string ⟨(Lib.repeatL s.data.toList c).toArray⟩) ∧ Below w.heap.size w w' :=
  Any.strings_Repeat Shelf.lays105 { sizeBuilder := by kernel_rfl, liesBuilder := by kernel_rfl, t5 := Tryd.underlying5, a5 := Tryd.isAgg5, z5 := Tryd.sizeOf5, v5 := Tryd.zeroValue5, infoByte := by kernel_rfl, cellsByte := by kernel_rfl, sizeByte := by kernel_rfl, neB5 := by decide } s c w hc hlen
set_option maxHeartbeats 8000000 in
set_option maxRecDepth 100000 in
theorem point_bad1 (g B : Nat) (s : ByteArray) (f t : Int) (w : World) (hf : ¬ (0 ≤ f ∧ f ≤ s.size)) (hs : s.size ≤ 65536) (h : Tab g B s w) : Calls Tryd.prog 18 #[.pointer (some ⟨g, 0, none⟩), .agg #[.int .i64 f, .int .i64 t]] w fun e w' => e = .returned (.tuple #[.string ⟨#[]⟩, .int .i64 1]) ∧ Below w.heap.size w w' := by
  have HB := Aside0.mk (Below.refl w.heap.size w)
  have HAF := Lib.hid (at_from hs h f (atV_bad hf))
  obtain ⟨lv, h⟩ := h
  have TB := Aside0.mk h.bk
  clear hf hs h
  have tok_w2 : True := trivial
  go_enter Tryd.func18, Tryd.ntmps18
  go_wp2_with (first | ((with_reducible refine gate_dst (N := 3) rfl ?_); refine box_event ?hg (N := 3) ?hd (cs := #[.int .i64 f, .int .i64 t]) (t := 24) ?hr ?_; (case hd => rfl); (case hg => rfl); (case hr => first | (go_simp; done) | (go_simp; rfl)); intro gs hg w1 hbox hb; have NWBS := Aside0.mk hbox; have GWBS := Aside0.mk ((by rw [hg]; exact (below_size (pxb HB)) : w.heap.size ≤ gs)); have NETBBS := Aside0.mk (show g ≠ gs by rw [hg]; exact Nat.ne_of_lt (blk_lt (pxp (o := .cells #[.string s, lv] 66 (0, 0)) TB))); have NEBSTB := Aside0.mk (Ne.symm NETBBS.out); have eTBBS := NETBBS.out; have eBSTB := NEBSTB.out; clear hg hbox; have n0_ := pxs HB hb; have nTB_ : Aside0 (w1.heap[g]? = some (.cells #[.string s, lv] 66 (0, 0))) := ⟨blk_below (pxp TB) hb⟩; clear HB TB; have HB := n0_; clear n0_; have TB := nTB_; clear nTB_; have BS := NWBS; clear NWBS hb; obtain ⟨xTB0, xTB1, yTB0, yTB1⟩ := pxf2 TB; obtain ⟨xBS0, xBS1, yBS0, yBS1⟩ := pxf2 BS) | (clear tok_w2; go_at_call 13; (with_reducible refine (HAF.out _ (pxb HB)).mono ?_); rintro e w2 ⟨rfl, hb⟩; have n0_ := pxs HB hb; have nTB_ : Aside0 (w2.heap[g]? = some (.cells #[.string s, lv] 66 (0, 0))) := ⟨blk_below (pxp TB) hb⟩; have nBS_ : Aside0 (w2.heap[gs]? = some (.cells #[.int .i64 f, .int .i64 t] 24 (0, 0))) := ⟨blk_below (pxp BS) hb⟩; clear HB TB BS; have HB := n0_; clear n0_; have TB := nTB_; clear nTB_; have BS := nBS_; clear nBS_; clear hb; obtain ⟨xTB0, xTB1, yTB0, yTB1⟩ := pxf2 TB; obtain ⟨xBS0, xBS1, yBS0, yBS1⟩ := pxf2 BS) | ((with_reducible refine gate_dst (N := 6) rfl ?_); refine box_event ?hg (N := 6) ?hd (cs := #[.int .i64 0, .int .i64 0]) (t := 35) ?hr ?_; (case hd => rfl); (case hg => rfl); (case hr => first | (go_simp; done) | (go_simp; rfl)); intro ga hg w3 hbox hb; have NWBA := Aside0.mk hbox; have GWBA := Aside0.mk ((by rw [hg]; exact (below_size (pxb HB)) : w.heap.size ≤ ga)); have NETBBA := Aside0.mk (show g ≠ ga by rw [hg]; exact Nat.ne_of_lt (blk_lt (pxp (o := .cells #[.string s, lv] 66 (0, 0)) TB))); have NEBATB := Aside0.mk (Ne.symm NETBBA.out); have eTBBA := NETBBA.out; have eBATB := NEBATB.out; have NEBSBA := Aside0.mk (show gs ≠ ga by rw [hg]; exact Nat.ne_of_lt (blk_lt (pxp (o := .cells #[.int .i64 f, .int .i64 t] 24 (0, 0)) BS))); have NEBABS := Aside0.mk (Ne.symm NEBSBA.out); have eBSBA := NEBSBA.out; have eBABS := NEBABS.out; clear hg hbox; have n0_ := pxs HB hb; have nTB_ : Aside0 (w3.heap[g]? = some (.cells #[.string s, lv] 66 (0, 0))) := ⟨blk_below (pxp TB) hb⟩; have nBS_ : Aside0 (w3.heap[gs]? = some (.cells #[.int .i64 f, .int .i64 t] 24 (0, 0))) := ⟨blk_below (pxp BS) hb⟩; clear HB TB BS; have HB := n0_; clear n0_; have TB := nTB_; clear nTB_; have BS := nBS_; clear nBS_; have BA := NWBA; clear NWBA hb; obtain ⟨xTB0, xTB1, yTB0, yTB1⟩ := pxf2 TB; obtain ⟨xBS0, xBS1, yBS0, yBS1⟩ := pxf2 BS; obtain ⟨xBA0, xBA1, yBA0, yBA1⟩ := pxf2 BA))
  go_quiet (fail)
  go_wp2
  go_ret2
  exact ⟨rfl, pxb HB⟩
set_option maxHeartbeats 8000000 in
set_option maxRecDepth 100000 in
theorem point_bad2 (g B : Nat) (s : ByteArray) (f t : Int) (w : World) (hf : 0 ≤ f ∧ f ≤ s.size) (hn : ¬ (f ≤ t ∧ t ≤ s.size)) (hs : s.size ≤ 65536) (h : Tab g B s w) : Calls Tryd.prog 18 #[.pointer (some ⟨g, 0, none⟩), .agg #[.int .i64 f, .int .i64 t]] w fun e w' => e = .returned (.tuple #[.string ⟨#[]⟩, .int .i64 1]) ∧ Below w.heap.size w w' := by
  have HB := Aside0.mk (Below.refl w.heap.size w)
  have HAF := Lib.hid (at_from hs h f (atV_ok hf))
  have HCK := Lib.hid (fun W => X.span_Check.calls f t s.size 1 W (by
    unfold X.span_Check.f
    rw [if_neg (by omega), if_neg (by omega), if_neg (by omega)]
    by_cases h1 : t < f
    · rw [if_pos h1]
    · rw [if_neg h1, if_pos (by omega)]))
  generalize ((plN s.data.toList f.toNat).1 : Int) = a at HAF
  generalize ((plN s.data.toList f.toNat).2 : Int) = b at HAF
  obtain ⟨lv, h⟩ := h
  have TB := Aside0.mk h.bk
  clear hf hs h hn
  have tok_w2 : True := trivial
  go_enter Tryd.func18, Tryd.ntmps18
  go_wp2_with (first | ((with_reducible refine gate_dst (N := 3) rfl ?_); refine box_event ?hg (N := 3) ?hd (cs := #[.int .i64 f, .int .i64 t]) (t := 24) ?hr ?_; (case hd => rfl); (case hg => rfl); (case hr => first | (go_simp; done) | (go_simp; rfl)); intro gs hg w1 hbox hb; have NWBS := Aside0.mk hbox; have GWBS := Aside0.mk ((by rw [hg]; exact (below_size (pxb HB)) : w.heap.size ≤ gs)); have NETBBS := Aside0.mk (show g ≠ gs by rw [hg]; exact Nat.ne_of_lt (blk_lt (pxp (o := .cells #[.string s, lv] 66 (0, 0)) TB))); have NEBSTB := Aside0.mk (Ne.symm NETBBS.out); have eTBBS := NETBBS.out; have eBSTB := NEBSTB.out; clear hg hbox; have n0_ := pxs HB hb; have nTB_ : Aside0 (w1.heap[g]? = some (.cells #[.string s, lv] 66 (0, 0))) := ⟨blk_below (pxp TB) hb⟩; clear HB TB; have HB := n0_; clear n0_; have TB := nTB_; clear nTB_; have BS := NWBS; clear NWBS hb; obtain ⟨xTB0, xTB1, yTB0, yTB1⟩ := pxf2 TB; obtain ⟨xBS0, xBS1, yBS0, yBS1⟩ := pxf2 BS) | (clear tok_w2; go_at_call 13; (with_reducible refine (HAF.out _ (pxb HB)).mono ?_); rintro e w2 ⟨rfl, hb⟩; have n0_ := pxs HB hb; have nTB_ : Aside0 (w2.heap[g]? = some (.cells #[.string s, lv] 66 (0, 0))) := ⟨blk_below (pxp TB) hb⟩; have nBS_ : Aside0 (w2.heap[gs]? = some (.cells #[.int .i64 f, .int .i64 t] 24 (0, 0))) := ⟨blk_below (pxp BS) hb⟩; clear HB TB BS; have HB := n0_; clear n0_; have TB := nTB_; clear nTB_; have BS := nBS_; clear nBS_; clear hb; obtain ⟨xTB0, xTB1, yTB0, yTB1⟩ := pxf2 TB; obtain ⟨xBS0, xBS1, yBS0, yBS1⟩ := pxf2 BS) | ((with_reducible refine gate_dst (N := 6) rfl ?_); refine box_event ?hg (N := 6) ?hd (cs := #[.int .i64 0, .int .i64 0]) (t := 35) ?hr ?_; (case hd => rfl); (case hg => rfl); (case hr => first | (go_simp; done) | (go_simp; rfl)); intro ga hg w3 hbox hb; have NWBA := Aside0.mk hbox; have GWBA := Aside0.mk ((by rw [hg]; exact (below_size (pxb HB)) : w.heap.size ≤ ga)); have NETBBA := Aside0.mk (show g ≠ ga by rw [hg]; exact Nat.ne_of_lt (blk_lt (pxp (o := .cells #[.string s, lv] 66 (0, 0)) TB))); have NEBATB := Aside0.mk (Ne.symm NETBBA.out); have eTBBA := NETBBA.out; have eBATB := NEBATB.out; have NEBSBA := Aside0.mk (show gs ≠ ga by rw [hg]; exact Nat.ne_of_lt (blk_lt (pxp (o := .cells #[.int .i64 f, .int .i64 t] 24 (0, 0)) BS))); have NEBABS := Aside0.mk (Ne.symm NEBSBA.out); have eBSBA := NEBSBA.out; have eBABS := NEBABS.out; clear hg hbox; have n0_ := pxs HB hb; have nTB_ : Aside0 (w3.heap[g]? = some (.cells #[.string s, lv] 66 (0, 0))) := ⟨blk_below (pxp TB) hb⟩; have nBS_ : Aside0 (w3.heap[gs]? = some (.cells #[.int .i64 f, .int .i64 t] 24 (0, 0))) := ⟨blk_below (pxp BS) hb⟩; clear HB TB BS; have HB := n0_; clear n0_; have TB := nTB_; clear nTB_; have BS := nBS_; clear nBS_; have BA := NWBA; clear NWBA hb; obtain ⟨xTB0, xTB1, yTB0, yTB1⟩ := pxf2 TB; obtain ⟨xBS0, xBS1, yBS0, yBS1⟩ := pxf2 BS; obtain ⟨xBA0, xBA1, yBA0, yBA1⟩ := pxf2 BA))
  refine start_ (n := 12) (S := fun w' => w'.cell? ⟨g, 0, none⟩ = some (.string s) ∧ w'.cell? ⟨g, 1, none⟩ = some (lv) ∧ w'.cell? ⟨gs, 0, none⟩ = some (.int .i64 f) ∧ w'.cell? ⟨gs, 1, none⟩ = some (.int .i64 t) ∧ w'.cell? ⟨ga, 0, none⟩ = some (.int .i64 a) ∧ w'.cell? ⟨ga, 1, none⟩ = some (.int .i64 b)) (ds := []) #[false, false, false, false, false, false, false, false, false, false, false, false] (by kernel_rfl) rfl rfl ⟨(pxf2 ⟨blk_drew (pxp (o := .cells #[.string s, lv] 66 (0, 0)) TB)⟩).1, (pxf2 ⟨blk_drew (pxp (o := .cells #[.string s, lv] 66 (0, 0)) TB)⟩).2.1, (pxf2 ⟨blk_drew (pxp (o := .cells #[.int .i64 f, .int .i64 t] 24 (0, 0)) BS)⟩).1, (pxf2 ⟨blk_drew (pxp (o := .cells #[.int .i64 f, .int .i64 t] 24 (0, 0)) BS)⟩).2.1, (pxf2 ⟨blk_drew (pxp (o := .cells #[.int .i64 a, .int .i64 b] 35 (0, 0)) BA)⟩).1, (pxf2 ⟨blk_drew (pxp (o := .cells #[.int .i64 a, .int .i64 b] 35 (0, 0)) BA)⟩).2.1⟩ (fun hHeld => ?_); refine with_tab rfl (fun HT_ => ?_)
  generalize hW_ : World.drew _ = w4 at hHeld ⊢
  have n0_ : Aside0 (Below w.heap.size w w4) := ⟨by rw [← hW_]; exact below_drew1 (pxb HB)⟩
  have nTB_ : Aside0 (w4.heap[g]? = some (.cells #[.string s, lv] 66 (0, 0))) := ⟨by rw [← hW_]; exact blk_drew (pxp TB)⟩
  have nBS_ : Aside0 (w4.heap[gs]? = some (.cells #[.int .i64 f, .int .i64 t] 24 (0, 0))) := ⟨by rw [← hW_]; exact blk_drew (pxp BS)⟩
  have nBA_ : Aside0 (w4.heap[ga]? = some (.cells #[.int .i64 a, .int .i64 b] 35 (0, 0))) := ⟨by rw [← hW_]; exact blk_drew (pxp BA)⟩
  clear hW_ HB TB BS BA
  have HB := n0_
  have TB := nTB_
  have BS := nBS_
  have BA := nBA_
  clear n0_ nTB_ nBS_ nBA_
  refine pS 0 23 HT_ ?_
  refine pS 1 24 HT_ ?_
  refine pS 2 25 HT_ ?_
  refine tT 3 26 HT_ hHeld ?_
  refine pS 4 27 HT_ ?_
  refine pS 5 28 HT_ ?_
  refine pS 6 29 HT_ ?_
  refine tT 7 30 HT_ hHeld ?_
  refine pS 8 31 HT_ ?_
  refine oS 9 HT_ (fun K hK => ?_)
  refine goes_ Tryd.func19 (by kernel_rfl) rfl #[.agg #[.int .i64 f, .int .i64 t], .int .i64 s.size] (by rfl) rfl rfl (by (try simp only [List.map_toArray, List.map_cons, List.map_nil]); first | done | rfl) ?_
  (with_reducible refine (HCK.out _).mono ?_)
  rintro e w5 ⟨rfl, hb⟩
  refine ⟨_, rfl, ?_⟩
  have n0_ := pxs HB hb; have nTB_ : Aside0 (w5.heap[g]? = some (.cells #[.string s, lv] 66 (0, 0))) := ⟨blk_below (pxp TB) hb⟩; have nBS_ : Aside0 (w5.heap[gs]? = some (.cells #[.int .i64 f, .int .i64 t] 24 (0, 0))) := ⟨blk_below (pxp BS) hb⟩; have nBA_ : Aside0 (w5.heap[ga]? = some (.cells #[.int .i64 a, .int .i64 b] 35 (0, 0))) := ⟨blk_below (pxp BA) hb⟩; clear HB TB BS BA; have HB := n0_; clear n0_; have TB := nTB_; clear nTB_; have BS := nBS_; clear nBS_; have BA := nBA_; clear nBA_
  refine hK.out _ _ ⟨(pxf2 TB).1, (pxf2 TB).2.1, (pxf2 BS).1, (pxf2 BS).2.1, (pxf2 BA).1, (pxf2 BA).2.1⟩ (fun hHeld => ?_)
  clear hK K hb
  refine nS 32 ?_
  refine pS 10 33 HT_ ?_
  refine pS 11 34 HT_ ?_
  refine done_ (done_of HT_.out (by kernel_rfl)) ?_
  clear HT_ hHeld
  go_wp2
  go_ret2
  exact ⟨rfl, pxb HB⟩
/-- Blanks, and tabs where there are some. -/
def blankL (l : List UInt8) : List UInt8 := l.map fun c => if c = 9 then 9 else 32
/-- A line, and below it so many signs behind so many places. -/
def pointL (tx : List UInt8) (lead n : Nat) : List UInt8 := tx ++ [10] ++ blankL (tx.take lead) ++ List.replicate n 94 ++ [10]
theorem repeatL_one (c : UInt8) : ∀ n, Lib.repeatL [c] n = List.replicate n c
  | 0 => rfl
  | n + 1 => by
    have ih := repeatL_one c n
    show c :: Lib.repeatL [c] n = _
    rw [ih, List.replicate_succ]
theorem carets (n : Nat) (R : ByteArray) (W : World) (hn : n ≤ 65536) (hR : R = ⟨(List.replicate n (94 : UInt8)).toArray⟩) : Calls Tryd.prog 36 #[.string ⟨#[94]⟩, .int .i64 n] W fun e w' => e = .returned (.string R) ∧ Below W.heap.size W w' := by
  have h := repeat_any ⟨#[94]⟩ n W (by omega) (by show 1 * n ≤ _; omega)
  have e : (⟨#[94]⟩ : ByteArray).data.toList = [94] := rfl
  rw [e, repeatL_one, ← hR] at h
  exact h
set_option maxHeartbeats 8000000 in
set_option maxRecDepth 100000 in
theorem point_walk (g B : Nat) (s tx : ByteArray) (f t j c F E lead n : Nat) (w : World) (hs : s.size ≤ 65536) (h : Tab g B s w) (hft : f ≤ t) (hts : t ≤ s.size) (hj : j < 65537)
    (HAF : ∀ W : World, Below w.heap.size w W → Calls Tryd.prog 13 #[.pointer (some ⟨g, 0, none⟩), .int .i64 (f : Int)] W fun e w' => e = .returned (.tuple #[.agg #[.int .i64 ((j : Int) + 1), .int .i64 ((c : Int) + 1)], .int .i64 0]) ∧ Below W.heap.size W w')
    (HLN : ∀ W : World, Below w.heap.size w W → Calls Tryd.prog 12 #[.pointer (some ⟨g, 0, none⟩), .int .i64 ((j : Int) + 1)] W fun e w' => e = .returned (.tuple #[.agg #[.int .i64 (F : Int), .int .i64 (E : Int)], .int .i64 0]) ∧ Below W.heap.size W w')
    (HTX : ∀ W : World, Below w.heap.size w W → Calls Tryd.prog 27 #[.pointer (some ⟨g, 0, none⟩), .int .i64 ((j : Int) + 1)] W fun e w' => e = .returned (.tuple #[.string tx, .int .i64 0]) ∧ Below W.heap.size W w')
    (htx : tx.size ≤ 65536) (hE : E ≤ 65536) (hc : c ≤ 65536) (hlead : lead = min c tx.size) (hn : n = max 1 (min t E - f)) :
    Calls Tryd.prog 18 #[.pointer (some ⟨g, 0, none⟩), .agg #[.int .i64 (f : Int), .int .i64 (t : Int)]] w fun e w' => e = .returned (.tuple #[.string ⟨(pointL tx.data.toList lead n).toArray⟩, .int .i64 0]) ∧ Below w.heap.size w w' := by
  have HB := Aside0.mk (Below.refl w.heap.size w)
  have HAF := Lib.hid HAF
  have HLN := Lib.hid HLN
  have HTX := Lib.hid HTX
  have HCK := Lib.hid (fun W => X.span_Check.calls f t s.size 0 W (by
    unfold X.span_Check.f
    rw [if_neg (by omega), if_neg (by omega), if_neg (by omega), if_neg (by omega), if_neg (by omega)]))
  obtain ⟨lv, h⟩ := h
  have TB := Aside0.mk h.bk
  clear h
  have hz1 : (tx ++ (⟨#[10]⟩ : ByteArray)).size = tx.size + 1 := ByteArray.size_append
  have kz1 : (9223372036854775807 < tx.size + 1) = False := eq_false (by omega)
  obtain ⟨R, hR⟩ : ∃ R : ByteArray, R = ⟨(List.replicate n (94 : UInt8)).toArray⟩ := ⟨_, rfl⟩
  have hRs : R.size = n := by rw [hR]; show (List.replicate n (94 : UInt8)).toArray.size = n; simp
  have hRl : R.data.toList = List.replicate n 94 := by rw [hR]
  have HRP := Lib.hid (fun W => carets n R W (by omega) hR)
  have hz2 : (R ++ (⟨#[10]⟩ : ByteArray)).size = R.size + 1 := ByteArray.size_append
  have kz2 : (9223372036854775807 < R.size + 1) = False := eq_false (by omega)
  have HZ2 := Lib.hid hRs
  have HRL := Lib.hid hRl
  clear hR hRs hRl
  have ht9 : t ≤ 65536 := by omega
  have hf9 : f ≤ 65536 := by omega
  obtain ⟨K, hK⟩ : ∃ K, min t E = K := ⟨_, rfl⟩
  have m1 : mn (c : Int) (tx.size : Int) = (lead : Int) := by unfold mn; split <;> omega
  have m2 : mn (t : Int) (E : Int) = (K : Int) := by unfold mn; split <;> omega
  have m3 : mx 1 ((K : Int) - (f : Int)) = (n : Int) := by unfold mx; split <;> omega
  have hK9 : K ≤ 65536 := by omega
  have hl9 : lead ≤ tx.size := by omega
  have hn9 : n ≤ 65536 := by omega
  clear hs hft hts hlead hn hK
  have tok_w2 : True := trivial
  go_enter Tryd.func18, Tryd.ntmps18
  go_wp2_with (first | ((with_reducible refine gate_dst (N := 3) rfl ?_); refine box_event ?hg (N := 3) ?hd (cs := #[.int .i64 (f : Int), .int .i64 (t : Int)]) (t := 24) ?hr ?_; (case hd => rfl); (case hg => rfl); (case hr => first | (go_simp; done) | (go_simp; rfl)); intro gs hg w1 hbox hb; have NWBS := Aside0.mk hbox; have GWBS := Aside0.mk ((by rw [hg]; exact (below_size (pxb HB)) : w.heap.size ≤ gs)); have NETBBS := Aside0.mk (show g ≠ gs by rw [hg]; exact Nat.ne_of_lt (blk_lt (pxp (o := .cells #[.string s, lv] 66 (0, 0)) TB))); have NEBSTB := Aside0.mk (Ne.symm NETBBS.out); have eTBBS := NETBBS.out; have eBSTB := NEBSTB.out; clear hg hbox; have n0_ := pxs HB hb; have nTB_ : Aside0 (w1.heap[g]? = some (.cells #[.string s, lv] 66 (0, 0))) := ⟨blk_below (pxp TB) hb⟩; clear HB TB; have HB := n0_; clear n0_; have TB := nTB_; clear nTB_; have BS := NWBS; clear NWBS hb; obtain ⟨xTB0, xTB1, yTB0, yTB1⟩ := pxf2 TB; obtain ⟨xBS0, xBS1, yBS0, yBS1⟩ := pxf2 BS) | (clear tok_w2; go_at_call 13; (with_reducible refine (HAF.out _ (pxb HB)).mono ?_); rintro e w2 ⟨rfl, hb⟩; have n0_ := pxs HB hb; have nTB_ : Aside0 (w2.heap[g]? = some (.cells #[.string s, lv] 66 (0, 0))) := ⟨blk_below (pxp TB) hb⟩; have nBS_ : Aside0 (w2.heap[gs]? = some (.cells #[.int .i64 (f : Int), .int .i64 (t : Int)] 24 (0, 0))) := ⟨blk_below (pxp BS) hb⟩; clear HB TB BS; have HB := n0_; clear n0_; have TB := nTB_; clear nTB_; have BS := nBS_; clear nBS_; clear hb; obtain ⟨xTB0, xTB1, yTB0, yTB1⟩ := pxf2 TB; obtain ⟨xBS0, xBS1, yBS0, yBS1⟩ := pxf2 BS) | ((with_reducible refine gate_dst (N := 6) rfl ?_); refine box_event ?hg (N := 6) ?hd (cs := #[.int .i64 0, .int .i64 0]) (t := 35) ?hr ?_; (case hd => rfl); (case hg => rfl); (case hr => first | (go_simp; done) | (go_simp; rfl)); intro ga hg w3 hbox hb; have NWBA := Aside0.mk hbox; have GWBA := Aside0.mk ((by rw [hg]; exact (below_size (pxb HB)) : w.heap.size ≤ ga)); have NETBBA := Aside0.mk (show g ≠ ga by rw [hg]; exact Nat.ne_of_lt (blk_lt (pxp (o := .cells #[.string s, lv] 66 (0, 0)) TB))); have NEBATB := Aside0.mk (Ne.symm NETBBA.out); have eTBBA := NETBBA.out; have eBATB := NEBATB.out; have NEBSBA := Aside0.mk (show gs ≠ ga by rw [hg]; exact Nat.ne_of_lt (blk_lt (pxp (o := .cells #[.int .i64 (f : Int), .int .i64 (t : Int)] 24 (0, 0)) BS))); have NEBABS := Aside0.mk (Ne.symm NEBSBA.out); have eBSBA := NEBSBA.out; have eBABS := NEBABS.out; clear hg hbox; have n0_ := pxs HB hb; have nTB_ : Aside0 (w3.heap[g]? = some (.cells #[.string s, lv] 66 (0, 0))) := ⟨blk_below (pxp TB) hb⟩; have nBS_ : Aside0 (w3.heap[gs]? = some (.cells #[.int .i64 (f : Int), .int .i64 (t : Int)] 24 (0, 0))) := ⟨blk_below (pxp BS) hb⟩; clear HB TB BS; have HB := n0_; clear n0_; have TB := nTB_; clear nTB_; have BS := nBS_; clear nBS_; have BA := NWBA; clear NWBA hb; obtain ⟨xTB0, xTB1, yTB0, yTB1⟩ := pxf2 TB; obtain ⟨xBS0, xBS1, yBS0, yBS1⟩ := pxf2 BS; obtain ⟨xBA0, xBA1, yBA0, yBA1⟩ := pxf2 BA))
  refine start_ (n := 12) (S := fun w' => w'.cell? ⟨g, 0, none⟩ = some (.string s) ∧ w'.cell? ⟨g, 1, none⟩ = some (lv) ∧ w'.cell? ⟨gs, 0, none⟩ = some (.int .i64 (f : Int)) ∧ w'.cell? ⟨gs, 1, none⟩ = some (.int .i64 (t : Int)) ∧ w'.cell? ⟨ga, 0, none⟩ = some (.int .i64 ((j : Int) + 1)) ∧ w'.cell? ⟨ga, 1, none⟩ = some (.int .i64 ((c : Int) + 1))) (ds := []) #[false, false, false, false, false, false, false, false, false, false, false, false] (by kernel_rfl) rfl rfl ⟨(pxf2 ⟨blk_drew (pxp (o := .cells #[.string s, lv] 66 (0, 0)) TB)⟩).1, (pxf2 ⟨blk_drew (pxp (o := .cells #[.string s, lv] 66 (0, 0)) TB)⟩).2.1, (pxf2 ⟨blk_drew (pxp (o := .cells #[.int .i64 (f : Int), .int .i64 (t : Int)] 24 (0, 0)) BS)⟩).1, (pxf2 ⟨blk_drew (pxp (o := .cells #[.int .i64 (f : Int), .int .i64 (t : Int)] 24 (0, 0)) BS)⟩).2.1, (pxf2 ⟨blk_drew (pxp (o := .cells #[.int .i64 ((j : Int) + 1), .int .i64 ((c : Int) + 1)] 35 (0, 0)) BA)⟩).1, (pxf2 ⟨blk_drew (pxp (o := .cells #[.int .i64 ((j : Int) + 1), .int .i64 ((c : Int) + 1)] 35 (0, 0)) BA)⟩).2.1⟩ (fun hHeld => ?_); refine with_tab rfl (fun HT_ => ?_)
  generalize hW_ : World.drew _ = w4 at hHeld ⊢
  have n0_ : Aside0 (Below w.heap.size w w4) := ⟨by rw [← hW_]; exact below_drew1 (pxb HB)⟩
  have nTB_ : Aside0 (w4.heap[g]? = some (.cells #[.string s, lv] 66 (0, 0))) := ⟨by rw [← hW_]; exact blk_drew (pxp TB)⟩
  have nBS_ : Aside0 (w4.heap[gs]? = some (.cells #[.int .i64 (f : Int), .int .i64 (t : Int)] 24 (0, 0))) := ⟨by rw [← hW_]; exact blk_drew (pxp BS)⟩
  have nBA_ : Aside0 (w4.heap[ga]? = some (.cells #[.int .i64 ((j : Int) + 1), .int .i64 ((c : Int) + 1)] 35 (0, 0))) := ⟨by rw [← hW_]; exact blk_drew (pxp BA)⟩
  clear hW_ HB TB BS BA
  have HB := n0_
  have TB := nTB_
  have BS := nBS_
  have BA := nBA_
  clear n0_ nTB_ nBS_ nBA_
  refine pS 0 23 HT_ ?_
  refine pS 1 24 HT_ ?_
  refine pS 2 25 HT_ ?_
  refine tT 3 26 HT_ hHeld ?_
  refine pS 4 27 HT_ ?_
  refine pS 5 28 HT_ ?_
  refine pS 6 29 HT_ ?_
  refine tT 7 30 HT_ hHeld ?_
  refine pS 8 31 HT_ ?_
  refine oS 9 HT_ (fun K hK => ?_)
  refine goes_ Tryd.func19 (by kernel_rfl) rfl #[.agg #[.int .i64 (f : Int), .int .i64 (t : Int)], .int .i64 s.size] (by rfl) rfl rfl (by (try simp only [List.map_toArray, List.map_cons, List.map_nil]); first | done | rfl) ?_
  (with_reducible refine (HCK.out _).mono ?_)
  rintro e w5 ⟨rfl, hb⟩
  refine ⟨_, rfl, ?_⟩
  have n0_ := pxs HB hb; have nTB_ : Aside0 (w5.heap[g]? = some (.cells #[.string s, lv] 66 (0, 0))) := ⟨blk_below (pxp TB) hb⟩; have nBS_ : Aside0 (w5.heap[gs]? = some (.cells #[.int .i64 (f : Int), .int .i64 (t : Int)] 24 (0, 0))) := ⟨blk_below (pxp BS) hb⟩; have nBA_ : Aside0 (w5.heap[ga]? = some (.cells #[.int .i64 ((j : Int) + 1), .int .i64 ((c : Int) + 1)] 35 (0, 0))) := ⟨blk_below (pxp BA) hb⟩; clear HB TB BS BA; have HB := n0_; clear n0_; have TB := nTB_; clear nTB_; have BS := nBS_; clear nBS_; have BA := nBA_; clear nBA_
  refine hK.out _ _ ⟨(pxf2 TB).1, (pxf2 TB).2.1, (pxf2 BS).1, (pxf2 BS).2.1, (pxf2 BA).1, (pxf2 BA).2.1⟩ (fun hHeld => ?_)
  clear hK K hb
  refine nS 32 ?_
  refine pS 10 33 HT_ ?_
  refine pS 11 34 HT_ ?_
  refine done_ (done_of HT_.out (by kernel_rfl)) ?_
  clear HT_ hHeld
  obtain ⟨xBS0, xBS1, yBS0, yBS1⟩ := pxf2 BS
  obtain ⟨xBA0, xBA1, yBA0, yBA1⟩ := pxf2 BA
  have tok_w6 : True := trivial
  have tok_w8 : True := trivial
  have tok_w10 : True := trivial
  go_wp2_with (first | (clear tok_w6; go_at_call 12; (with_reducible refine (HLN.out _ (pxb HB)).mono ?_); rintro e w6 ⟨rfl, hb⟩; have n0_ := pxs HB hb; have nBS_ : Aside0 (w6.heap[gs]? = some (.cells #[.int .i64 (f : Int), .int .i64 (t : Int)] 24 (0, 0))) := ⟨blk_below (pxp BS) hb⟩; have nBA_ : Aside0 (w6.heap[ga]? = some (.cells #[.int .i64 ((j : Int) + 1), .int .i64 ((c : Int) + 1)] 35 (0, 0))) := ⟨blk_below (pxp BA) hb⟩; clear HB BS BA; have HB := n0_; clear n0_; have BS := nBS_; clear nBS_; have BA := nBA_; clear nBA_; clear hb; obtain ⟨xBS0, xBS1, yBS0, yBS1⟩ := pxf2 BS; obtain ⟨xBA0, xBA1, yBA0, yBA1⟩ := pxf2 BA) | ((with_reducible refine gate_dst (N := 8) rfl ?_); refine box_event ?hg (N := 8) ?hd (cs := #[.int .i64 0, .int .i64 0]) (t := 24) ?hr ?_; (case hd => rfl); (case hg => rfl); (case hr => first | (go_simp; done) | (go_simp; rfl)); intro gl hg w7 hbox hb; have NWBL := Aside0.mk hbox; have GWBL := Aside0.mk ((by rw [hg]; exact (below_size (pxb HB)) : w.heap.size ≤ gl)); have NEBSBL := Aside0.mk (show gs ≠ gl by rw [hg]; exact Nat.ne_of_lt (blk_lt (pxp (o := .cells #[.int .i64 (f : Int), .int .i64 (t : Int)] 24 (0, 0)) BS))); have NEBLBS := Aside0.mk (Ne.symm NEBSBL.out); have eBSBL := NEBSBL.out; have eBLBS := NEBLBS.out; have NEBABL := Aside0.mk (show ga ≠ gl by rw [hg]; exact Nat.ne_of_lt (blk_lt (pxp (o := .cells #[.int .i64 ((j : Int) + 1), .int .i64 ((c : Int) + 1)] 35 (0, 0)) BA))); have NEBLBA := Aside0.mk (Ne.symm NEBABL.out); have eBABL := NEBABL.out; have eBLBA := NEBLBA.out; clear hg hbox; have n0_ := pxs HB hb; have nBS_ : Aside0 (w7.heap[gs]? = some (.cells #[.int .i64 (f : Int), .int .i64 (t : Int)] 24 (0, 0))) := ⟨blk_below (pxp BS) hb⟩; have nBA_ : Aside0 (w7.heap[ga]? = some (.cells #[.int .i64 ((j : Int) + 1), .int .i64 ((c : Int) + 1)] 35 (0, 0))) := ⟨blk_below (pxp BA) hb⟩; clear HB BS BA; have HB := n0_; clear n0_; have BS := nBS_; clear nBS_; have BA := nBA_; clear nBA_; have BL := NWBL; clear NWBL hb; obtain ⟨xBS0, xBS1, yBS0, yBS1⟩ := pxf2 BS; obtain ⟨xBA0, xBA1, yBA0, yBA1⟩ := pxf2 BA; obtain ⟨xBL0, xBL1, yBL0, yBL1⟩ := pxf2 BL) | (clear tok_w8; go_at_call 27; (with_reducible refine (HTX.out _ (pxb HB)).mono ?_); rintro e w8 ⟨rfl, hb⟩; have n0_ := pxs HB hb; have nBS_ : Aside0 (w8.heap[gs]? = some (.cells #[.int .i64 (f : Int), .int .i64 (t : Int)] 24 (0, 0))) := ⟨blk_below (pxp BS) hb⟩; have nBA_ : Aside0 (w8.heap[ga]? = some (.cells #[.int .i64 ((j : Int) + 1), .int .i64 ((c : Int) + 1)] 35 (0, 0))) := ⟨blk_below (pxp BA) hb⟩; have nBL_ : Aside0 (w8.heap[gl]? = some (.cells #[.int .i64 F, .int .i64 E] 24 (0, 0))) := ⟨blk_below (pxp BL) hb⟩; clear HB BS BA BL; have HB := n0_; clear n0_; have BS := nBS_; clear nBS_; have BA := nBA_; clear nBA_; have BL := nBL_; clear nBL_; clear hb; obtain ⟨xBS0, xBS1, yBS0, yBS1⟩ := pxf2 BS; obtain ⟨xBA0, xBA1, yBA0, yBA1⟩ := pxf2 BA; obtain ⟨xBL0, xBL1, yBL0, yBL1⟩ := pxf2 BL) | ((with_reducible refine gate_dst (N := 14) rfl ?_); refine box_event ?hg (N := 14) ?hd (cs := #[.pointer none, .slice none 0 0]) (t := 72) ?hr ?_; (case hd => rfl); (case hg => rfl); (case hr => first | (go_simp; done) | (go_simp; rfl)); intro gb hg w9 hbox hb; have HBL := Aside0.mk (show Lib.IsBuilder 72 5 w.heap.size gb (Lib.byteCells []) w9 from Bld.fresh (B := w.heap.size) (by rw [hg]; exact (below_size (pxb HB))) hbox); have n0_ := pxs HB hb; clear HB; have HB := n0_; clear n0_ hb hbox hg) | (clear tok_w10; go_at_call 34; (with_reducible refine (Bld.WriteString w.heap.size gb (Lib.byteCells ([])) _ _ HBL.out (by rw [Bld.byteCells_length]; have := htx; rw [hz1]; simp; omega) HB.out.size).mono ?_); rintro e w10 ⟨rfl, hbl, hb, hfr⟩; rw [Bld.byteCells_append] at hbl; have n0_ := Aside0.mk (show Lib.IsBuilder 72 5 w.heap.size gb (Lib.byteCells ([] ++ (tx ++ ⟨#[10]⟩).data.toList)) w10 from .inr hbl); have n1_ := Aside0.mk (HB.out.trans hb); clear HBL HB; have HBL := n0_; have HB := n1_; clear n0_ n1_ hbl hb hfr))
  have hbl0 : Lib.IsBuilder 72 5 w.heap.size gb (Lib.byteCells (tx.data.toList ++ [10] ++ blankL (tx.data.toList.take 0))) w10 := by
    have h := HBL.out
    rw [show [] ++ (tx ++ (⟨#[10]⟩ : ByteArray)).data.toList = tx.data.toList ++ [10] ++ blankL (tx.data.toList.take 0) by simp [blankL]] at h
    exact h
  have HBL0 := Lib.hid hbl0
  clear hbl0 HBL
  clear m1 m2 m3 hj hE hc ht9 hf9 hK9 hz1 kz1
  go_loopg [68] lead (fun kq v68 w' => ∃ k : Nat, v68 = .int .i64 k ∧ Hid (k ≤ lead ∧ kq = lead - k) ∧ Hid (Lib.IsBuilder 72 5 w.heap.size gb (Lib.byteCells (tx.data.toList ++ [10] ++ blankL (tx.data.toList.take k))) w') ∧ Aside0 (Below w.heap.size w w'))
  case atStart => exact ⟨0, rfl, ⟨Nat.zero_le _, rfl⟩, HBL0, HB⟩
  case round =>
    clear HBL0 HB
    obtain ⟨k, rfl, HJ, HBL, HB⟩ := hrel
    have hlen : (tx.data.toList ++ [10] ++ blankL (tx.data.toList.take k)).length ≤ 140000 := by
      have h1 : (tx.data.toList.take k).length ≤ k := List.length_take_le _ _
      have h2 : tx.data.toList.length = tx.size := Array.length_toList
      have h3 := HJ.out.1
      simp only [List.length_append, blankL, List.length_map, List.length_cons, List.length_nil]
      omega
    by_cases hlt : k < lead
    · have hk : k < tx.size := by omega
      have hk9 : k < 65536 := by omega
      have hst : blankL (tx.data.toList.take (k + 1)) = blankL (tx.data.toList.take k) ++ [if tx[k] = 9 then 9 else 32] := by
        rw [take_snoc tx k hk, blankL, List.map_append]
        rfl
      have HLEN : Hid ((tx.data.toList ++ [10] ++ blankL (tx.data.toList.take k)).length + 1 ≤ 140737488355328) := by
        show _ + 1 ≤ _
        omega
      clear hlen
      by_cases hc : tx[k] = 9
      · have k2 : ((tx[k].toNat : Int) == 9) = true := by rw [hc]; rfl
        rw [if_pos hc] at hst
        have HST := Lib.hid hst
        clear hc hst
        have tok_w11 : True := trivial
        go_wp2_with (first | (clear tok_w11; go_at_call 35; (with_reducible refine (BldByte.WriteByte w.heap.size gb (Lib.byteCells (tx.data.toList ++ [10] ++ blankL (tx.data.toList.take k))) _ _ HBL.out (by rw [Bld.byteCells_length]; exact HLEN.out) HB.out.size).mono ?_); rintro e w11 ⟨rfl, hbl, hb, hfr⟩; have n0_ : Hid (Lib.IsBuilder 72 5 w.heap.size gb (Lib.byteCells (tx.data.toList ++ [10] ++ blankL (tx.data.toList.take (k + 1)))) w11) := (by rw [HST.out, ← List.append_assoc, ← BldByte.byteCells_snoc]; exact .inr hbl); have n1_ := Aside0.mk (HB.out.trans hb); clear HBL HB; have HBL := n0_; have HB := n1_; clear n0_ n1_ hbl hb hfr))
        go_roundg (lead - (k + 1))
        case measure => have := HJ.out; omega
        case rel => exact ⟨k + 1, by go_num, ⟨by omega, rfl⟩, HBL, HB⟩
      · have k2 : ((tx[k].toNat : Int) == 9) = false := (u8_eq _ 9 (by decide)).trans (beq_eq_false_iff_ne.2 hc)
        rw [if_neg hc] at hst
        have HST := Lib.hid hst
        clear hc hst
        have tok_w11 : True := trivial
        go_wp2_with (first | (clear tok_w11; go_at_call 35; (with_reducible refine (BldByte.WriteByte w.heap.size gb (Lib.byteCells (tx.data.toList ++ [10] ++ blankL (tx.data.toList.take k))) _ _ HBL.out (by rw [Bld.byteCells_length]; exact HLEN.out) HB.out.size).mono ?_); rintro e w11 ⟨rfl, hbl, hb, hfr⟩; have n0_ : Hid (Lib.IsBuilder 72 5 w.heap.size gb (Lib.byteCells (tx.data.toList ++ [10] ++ blankL (tx.data.toList.take (k + 1)))) w11) := (by rw [HST.out, ← List.append_assoc, ← BldByte.byteCells_snoc]; exact .inr hbl); have n1_ := Aside0.mk (HB.out.trans hb); clear HBL HB; have HBL := n0_; have HB := n1_; clear n0_ n1_ hbl hb hfr))
        go_roundg (lead - (k + 1))
        case measure => have := HJ.out; omega
        case rel => exact ⟨k + 1, by go_num, ⟨by omega, rfl⟩, HBL, HB⟩
    · obtain rfl : k = lead := by have := HJ.out; omega
      have HLEN := Lib.hid hlen
      clear hlen
      have tok_w12 : True := trivial
      have tok_w13 : True := trivial
      have tok_w14 : True := trivial
      go_wp2_with (first | (clear tok_w12; go_at_call 36; (with_reducible refine (HRP.out _).mono ?_); rintro e w12 ⟨rfl, hb⟩; have n0_ := pxs HB hb; have n1_ := Aside0.mk (Bld.below HBL.out hb); clear HB HBL; have HB := n0_; have HBL := n1_; clear n0_ n1_ hb) | (clear tok_w13; go_at_call 34; (with_reducible refine (Bld.WriteString w.heap.size gb (Lib.byteCells (tx.data.toList ++ [10] ++ blankL (tx.data.toList.take k))) _ _ HBL.out (by rw [Bld.byteCells_length]; have := HLEN.out; have := HZ2.out; rw [hz2]; omega) HB.out.size).mono ?_); rintro e w13 ⟨rfl, hbl, hb, hfr⟩; rw [Bld.byteCells_append] at hbl; have n0_ := Aside0.mk (show Lib.IsBuilder 72 5 w.heap.size gb (Lib.byteCells (tx.data.toList ++ [10] ++ blankL (tx.data.toList.take k) ++ (R ++ ⟨#[10]⟩).data.toList)) w13 from .inr hbl); have n1_ := Aside0.mk (HB.out.trans hb); clear HBL HB; have HBL := n0_; have HB := n1_; clear n0_ n1_ hbl hb hfr) | (clear tok_w14; go_at_call 37; (with_reducible refine (Bld.String w.heap.size gb _ _ HBL.out HB.out.size).mono ?_); rintro e w14 ⟨rfl, hb⟩; have n1_ := Aside0.mk (HB.out.trans hb); clear HB; have HB := n1_; clear n1_ hb))
      go_ret2
      have e : pointL tx.data.toList k n = tx.data.toList ++ 10 :: (blankL (List.take k tx.data.toList) ++ (R.data.toList ++ [10])) := by simp [pointL, HRL.out]
      exact ⟨by rw [e]; rfl, HB.out⟩
/-- What Point answers. -/
def pointV (s : ByteArray) (f t : Int) : ByteArray × Int :=
  if 0 ≤ f ∧ f ≤ t ∧ t ≤ s.size then (⟨(pointL (bareN s.data.toList (cnN s.data.toList f.toNat - 1)) (min (f.toNat - sN s.data.toList (cnN s.data.toList f.toNat - 1)) (bareN s.data.toList (cnN s.data.toList f.toNat - 1)).length) (max 1 (min t.toNat (enN s.data.toList (cnN s.data.toList f.toNat - 1)) - f.toNat))).toArray⟩, 0) else (⟨#[]⟩, 1)
theorem extract_bare (s : ByteArray) (j : Nat) : (s.extract (sN s.data.toList j) (enN s.data.toList j)).data.toList = bareN s.data.toList j := by
  rw [bareN, ByteArray.data_extract, Array.toList_extract]
  simp [List.extract, List.drop_take]
theorem point_any (g B : Nat) (s : ByteArray) (f t : Int) (w : World) (hs : s.size ≤ 65536) (h : Tab g B s w) : Calls Tryd.prog 18 #[.pointer (some ⟨g, 0, none⟩), .agg #[.int .i64 f, .int .i64 t]] w fun e w' => e = .returned (.tuple #[.string (pointV s f t).1, .int .i64 (pointV s f t).2]) ∧ Below w.heap.size w w' := by
  unfold pointV
  by_cases hc : 0 ≤ f ∧ f ≤ t ∧ t ≤ s.size
  · rw [if_pos hc]
    obtain ⟨f, rfl⟩ : ∃ m : Nat, f = m := ⟨f.toNat, by omega⟩
    obtain ⟨t, rfl⟩ : ∃ m : Nat, t = m := ⟨t.toNat, by omega⟩
    have hle2 : s.data.toList.length = s.size := Array.length_toList
    have hcl := cn_line (l := s.data.toList) (k := f) (by omega)
    have hcp := @cnN_pos s.data.toList f
    have hlen := ssN_len s.data.toList
    have hbl := bareN_len hcl.1
    have hpl := plN_eq (l := s.data.toList) (k := f) (by omega)
    have hE := Nat.le_trans (enN_toN (l := s.data.toList) (cnN s.data.toList f - 1)) (toN_le _)
    have hex := extract_bare s (cnN s.data.toList f - 1)
    rw [Int.toNat_natCast, Int.toNat_natCast]
    obtain ⟨j, hj⟩ : ∃ j, cnN s.data.toList f = j + 1 := ⟨cnN s.data.toList f - 1, by omega⟩
    rw [hj, Nat.add_sub_cancel] at hcl hbl hpl hE hex
    rw [hj, Nat.add_sub_cancel, ← hex]
    have hxl : (s.extract (sN s.data.toList j) (enN s.data.toList j)).size = (bareN s.data.toList j).length := by rw [← hex]; exact Array.length_toList.symm
    have h1 : (s.extract (sN s.data.toList j) (enN s.data.toList j)).data.toList.length = (s.extract (sN s.data.toList j) (enN s.data.toList j)).size := Array.length_toList
    rw [h1]
    have hat := atV_ok (s := s) (k := (f : Int)) (by omega)
    rw [Int.toNat_natCast, hpl] at hat
    refine point_walk g B s _ f t j (f - sN s.data.toList j) (sN s.data.toList j) (enN s.data.toList j) _ _ w hs h (by omega) (by omega) (by omega) (fun W hb => ?_) (fun W hb => ?_) (fun W hb => text_any g B s j W hcl.1 hs (h.below hb)) (by rw [hxl]; omega) (by omega) (by omega) rfl rfl
    · exact at_from hs h (f : Int) hat W hb
    · have hl := line_any g B s ((j : Int) + 1) W hs (h.below hb)
      unfold LineP at hl
      have e2 : ((j : Int) + 1 - 1).toNat = j := by omega
      rw [if_pos (by omega), if_pos (by omega), if_pos (by omega), e2] at hl
      exact hl
  · rw [if_neg hc]
    by_cases hf : 0 ≤ f ∧ f ≤ s.size
    · exact point_bad2 g B s f t w hf (by omega) hs h
    · exact point_bad1 g B s f t w hf hs h
end Go.Proofs.YtimhbepecnmjeaaDoor.LiW
