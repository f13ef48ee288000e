/- call: the chapter's example: walk. call: what is laid; arguments of the laws. -/
import Derived.Test.YtjcekmmieihllaaDoorDkC
import Derived.Test.YtjcekmmieihllaaDoorCaE
namespace Go.Proofs.YtjcekmmieihllaaDoor
section
set_option linter.unusedVariables false
set_option linter.unusedSimpArgs false
set_option linter.unnecessarySimpa false
open Go.RowKit Go.Lib

def cA : Cl := ⟨3, 2, 0, 0, empB⟩
def rA : Rp := ⟨7, 0, 0, 0, 0, zS, zS, 0, 0, 0⟩
theorem rA_ok : rA.Ok := ⟨by decide, by decide, by decide, by decide, by decide, by decide, by decide, by decide, by decide, by decide, zS_ok, zS_ok, by decide, by decide, by decide, by decide, by decide, by decide⟩
theorem cA_ok : cA.Ok := ⟨by decide, by decide, by decide, by decide, by decide, by decide, by decide, by decide, by decide⟩
theorem emp_empB : emp empB = true := (emp_iff empB).2 rfl
theorem cA_right : rightC cA = true := by unfold rightC cA; simp [emp_empB]
theorem cA_text : textC cA = [51, 32, 99, 97, 110, 99, 101, 108, 32, 48] := by
  unfold textC
  rw [cA_right, if_pos rfl]
  unfold tailC
  rw [itoa_nn cA.client (by decide), itoa_nn cA.job (by decide), if_neg (by decide), if_pos (by decide), show Lib.decDigits cA.client.toNat = [51] by unfold Lib.decDigits; rfl, show Lib.decDigits cA.job.toNat = [48] by unfold Lib.decDigits; rfl]
  rfl
theorem cA_parse : parseC ⟨#[51, 32, 99, 97, 110, 99, 101, 108, 32, 48]⟩ = (cA, 0) := by
  have h := parse_textC cA cA_right
  rw [cA_text] at h
  exact h
def pA (s : Int) (r : Rp) : Pn := ⟨cA, 1, s, r⟩
theorem pA_ok (s : Int) (r : Rp) (h : r.Ok) : (pA s r).Ok := ⟨cA_ok, h, by show empB.size ≤ 1000000; decide⟩
theorem ok4 {p : Pn} (h : p.Ok) : AllOk [zP, zP, zP, p] := fun q hq => by
  simp only [List.mem_cons, List.not_mem_nil, or_false] at hq
  rcases hq with rfl | rfl | rfl | rfl
  · exact zP_ok
  · exact zP_ok
  · exact zP_ok
  · exact h
theorem al_ask : askD [zP, zP, zP, zP] 0 cA = (([zP, zP, zP, pA 1 zR], 1), (1, 0)) := by
  unfold askD
  rw [if_pos cA_right]
  rfl
theorem al_next : nextD [zP, zP, zP, pA 1 zR] 5 = ([zP, zP, zP, pA 2 zR], (1, cA, true)) := rfl
theorem al_ans : ansD [zP, zP, zP, pA 2 zR] 1 rA = ([zP, zP, zP, pA 3 rA], true) := rfl
theorem al_take : takeD [zP, zP, zP, pA 3 rA] 3 = ([zP, zP, zP, zP], (1, rA, true)) := rfl
theorem al_pend : pendD [zP, zP, zP, zP] 3 = 0 := rfl
section
variable {W w : World} {I : Nat → Option Obj} {F : List (Nat × Obj)}
set_option maxRecDepth 100000 in
set_option maxHeartbeats 8000000 in
theorem call_alive (cv : CV W I) (cvm : ∀ J, Le I J → CV W J) (h : St W w I F) :
    Calls Tryd.prog 9 #[] w fun e w' => e = .returned (.bool true) ∧ St W w' I F := by
  have kP : ∀ (v : World) (F : List (Nat × Obj)), St W v I F → Calls Tryd.prog 14 #[.string ⟨#[51, 32, 99, 97, 110, 99, 101, 108, 32, 48]⟩] v fun e w' => e = .returned (.tuple #[.agg #[Value.int .i64 3, .int .i64 2, .int .i64 0, .int .i64 0, .string ⟨#[]⟩], .int .i64 0]) ∧ St W w' I F := fun v F hv => by
    have h := call_parse cv cvm ⟨#[51, 32, 99, 97, 110, 99, 101, 108, 32, 48]⟩ (by decide) hv
    rw [cA_parse] at h
    exact h
  have kN := fun (v : World) (F : List (Nat × Obj)) (hv : St W v I F) => desk_new 4 4 (by decide) hv
  have kA : ∀ (v : World) (gd gc : Nat) (F : List (Nat × Obj)), St W v I (DeskL gd gc [zP, zP, zP, zP] 0 ++ F) → Calls Tryd.prog 17 #[.pointer (some ⟨gd, 0, none⟩), .agg #[Value.int .i64 3, .int .i64 2, .int .i64 0, .int .i64 0, .string ⟨#[]⟩]] v fun e w' => e = .returned (.tuple #[.int .i64 1, .int .i64 0]) ∧ St W w' I (DeskL gd gc [zP, zP, zP, pA 1 zR] 1 ++ F) := fun v gd gc F hv => by
    have h := desk_ask cv.t cv.t4 (ok4 zP_ok) (by decide) (by decide) (by decide) cA cA_ok (by show empB.size ≤ 1000000; decide) hv
    rw [al_ask] at h
    exact h
  have kX : ∀ (v : World) (gd gc : Nat) (F : List (Nat × Obj)), St W v I (DeskL gd gc [zP, zP, zP, pA 1 zR] 1 ++ F) → Calls Tryd.prog 19 #[.pointer (some ⟨gd, 0, none⟩), .int .i64 5] v fun e w' => e = .returned (.tuple #[.int .i64 1, .agg #[Value.int .i64 3, .int .i64 2, .int .i64 0, .int .i64 0, .string ⟨#[]⟩], .bool true]) ∧ St W w' I (DeskL gd gc [zP, zP, zP, pA 2 zR] 1 ++ F) := fun v gd gc F hv => by
    have h := desk_next (ok4 (pA_ok 1 zR zR_ok)) (by decide) 5 (by decide) hv
    rw [al_next] at h
    exact h
  have kS := fun (v : World) (gd gc : Nat) (F : List (Nat × Obj)) (hv : St W v I (DeskL gd gc [zP, zP, zP, pA 2 zR] 1 ++ F)) => desk_answer (ok4 (pA_ok 2 zR zR_ok)) (by decide) 1 rA rA_ok hv
  rw [al_ans] at kS
  obtain ⟨R, hR⟩ : ∃ R, rA.cells = R := ⟨_, rfl⟩
  have r0 : R[0]? = some (.int .i64 7) := by rw [← hR]; rfl
  have rz := zr_whole Tryd.zeroCells44 (by decide) rA rA_ok
  have ri := rp_info rA rA_ok
  have ro := rA.one
  rw [hR] at rz ri ro
  have kT := fun (v : World) (gd gc : Nat) (F : List (Nat × Obj)) (hv : St W v I (DeskL gd gc [zP, zP, zP, pA 3 rA] 1 ++ F)) => desk_take (ok4 (pA_ok 3 rA rA_ok)) (by decide) 3 hv
  rw [al_take] at kT
  dsimp only at kT
  rw [hR] at kT
  have kQ := fun (v : World) (gd gc : Nat) (F : List (Nat × Obj)) (hv : St W v I (DeskL gd gc [zP, zP, zP, zP] 1 ++ F)) => desk_pending (ok4 zP_ok) (by decide) 3 hv
  rw [al_pend] at kQ
  have KN := Lib.hid kN; have KA := Lib.hid kA; have KX := Lib.hid kX; have KS := Lib.hid kS; have KT := Lib.hid kT; have KQ := Lib.hid kQ; have KP := Lib.hid kP; have H := Lib.hid h
  have FZ := Lib.hid rz.1; have MZ := Lib.hid rz.2; have IZ := Lib.hid ri; have OZ := Lib.hid ro; have R0 := Lib.hid r0
  clear rz ri ro r0 hR
  clear kN kA kX kS kT kQ kP cv cvm h
  go_enter Tryd.func9, Tryd.ntmps9
  go_wp2_with fail
  refine (KP.out _ _ H.out).mono ?_
  rintro e w1 ⟨rfl, h1⟩
  have h2 := h1.alloc (.cells #[Value.int .i64 3, .int .i64 2, .int .i64 0, .int .i64 0, .string ⟨#[]⟩] 23)
  obtain ⟨b1, hb1⟩ : ∃ b, w1.heap.size = b := ⟨_, rfl⟩
  rw [hb1] at h2
  have H2 := Lib.hid h2
  clear h1 h2 H KP
  go_wp2_with fail
  refine (KN.out _ _ H2.out).mono ?_
  rintro e w2 ⟨gd, gc, rfl, h3⟩
  have h4 : St W w2 I (DeskL gd gc [zP, zP, zP, zP] 0 ++ ((b1, .cells #[Value.int .i64 3, .int .i64 2, .int .i64 0, .int .i64 0, .string ⟨#[]⟩] 23 (0, 0)) :: F)) := h3
  have a1 := fun i => h4.cell (g := b1) (cs := #[Value.int .i64 3, .int .i64 2, .int .i64 0, .int .i64 0, .string ⟨#[]⟩]) (t := 23) (fr := (0, 0)) (by simp) i
  have a10 := a1 0; have a11 := a1 1; have a12 := a1 2; have a13 := a1 3; have a14 := a1 4
  simp at a10 a11 a12 a13 a14
  have H4 := Lib.hid h4
  clear h3 h4 a1 H2 KN
  go_wp2_with fail
  refine (KA.out _ _ _ _ H4.out).mono ?_
  rintro e w3 ⟨rfl, h5⟩
  have H5 := Lib.hid h5
  clear h5 H4 KA a10 a11 a12 a13 a14
  go_wp2_with fail
  refine (KX.out _ _ _ _ H5.out).mono ?_
  rintro e w4 ⟨rfl, h6⟩
  have h7 := h6.alloc (.cells #[Value.int .i64 3, .int .i64 2, .int .i64 0, .int .i64 0, .string ⟨#[]⟩] 23)
  obtain ⟨b7, hb7⟩ : ∃ b, w4.heap.size = b := ⟨_, rfl⟩
  rw [hb7] at h7
  have h8 : St W (w4.alloc (.cells #[Value.int .i64 3, .int .i64 2, .int .i64 0, .int .i64 0, .string ⟨#[]⟩] 23)) I (DeskL gd gc [zP, zP, zP, pA 2 zR] 1 ++ ((b7, .cells #[Value.int .i64 3, .int .i64 2, .int .i64 0, .int .i64 0, .string ⟨#[]⟩] 23 (0, 0)) :: (b1, .cells #[Value.int .i64 3, .int .i64 2, .int .i64 0, .int .i64 0, .string ⟨#[]⟩] 23 (0, 0)) :: F)) := h7.perm (perm3b _ _ _ _)
  have H8 := Lib.hid h8
  clear h6 h7 h8 H5 KX
  go_wp2_with fail
  refine (KS.out _ _ _ _ H8.out).mono ?_
  rintro e w5 ⟨rfl, h9⟩
  have H9 := Lib.hid h9
  clear h9 H8 KS
  go_wp2_with fail
  refine (KT.out _ _ _ _ H9.out).mono ?_
  rintro e w6 ⟨rfl, h10⟩
  have h11 := h10.alloc (.cells Tryd.zeroCells44 44)
  obtain ⟨b11, hb11⟩ : ∃ b, w6.heap.size = b := ⟨_, rfl⟩
  rw [hb11] at h11
  have H11 := Lib.hid h11
  clear h10 h11 H9 KT
  go_wp2_with (with_reducible refine wpList_store_st rfl 44 (.tmp 11) (.tmp 54) rfl (off := 0) R rfl rfl H11.out FZ.out IZ.out OZ.out ?_; intro w7 h7; rw [MZ.out] at h7; have e7 := (h7.cell (g := b11) (cs := R) (t := 44) (fr := (0, 0)) (by simp) 0).trans R0.out; have e8 := h7.cell (g := b7) (cs := #[Value.int .i64 3, .int .i64 2, .int .i64 0, .int .i64 0, .string ⟨#[]⟩]) (t := 23) (fr := (0, 0)) (by simp) 0; simp at e8; have H7 := Lib.hid h7; clear h7)
  have h12 : St W w7 I (DeskL gd gc [zP, zP, zP, zP] 1 ++ ((b11, .cells R 44 (0, 0)) :: (b7, .cells #[Value.int .i64 3, .int .i64 2, .int .i64 0, .int .i64 0, .string ⟨#[]⟩] 23 (0, 0)) :: (b1, .cells #[Value.int .i64 3, .int .i64 2, .int .i64 0, .int .i64 0, .string ⟨#[]⟩] 23 (0, 0)) :: F)) := H7.out.perm (perm3b _ _ _ _)
  have H12 := Lib.hid h12
  clear h12 H7
  refine (KQ.out _ _ _ _ H12.out).mono ?_
  rintro e w8 ⟨rfl, h13⟩
  have H13 := Lib.hid h13
  clear h13 H12 KQ
  go_wp2_with fail
  go_ret
  exact ⟨rfl, St.weaken (A := [_, _, _]) (St.weaken (A := [_, _]) H13.out)⟩
end
end

section
set_option linter.unusedVariables false
set_option linter.unusedSimpArgs false
set_option linter.unnecessarySimpa false
open Go.RowKit Go.Lib Go.Shelf

theorem Arg.text {H : Type} {enc : TypeId × Value → H} {P : Program} {W : World} {t : TypeId} {v : Value} (ht : P.underlying t = some .string) (h : Arg enc P W t v) : ∃ s : ByteArray, v = .string s ∧ s.size ≤ 9223372036854775807 := by
  obtain ⟨s, rfl, hs⟩ := h.string ht
  exact ⟨s, rfl, by unfold maxLen at hs; omega⟩
theorem CV.more {W : World} {I J : Nat → Option Obj} (h : CV W I) (k : Le I J) : CV W J := ⟨h.t.more k, h.t4, h.t10, h.ev.more k, roCell_mono k h.ht, fun i z hz => roCell_mono k (h.words i z hz)⟩
abbrev CV0 (W : World) : Prop := CV W (fun b => W.heap[b]?)
theorem cwords_eq : (Rows.laid_bootjack_call_words : DataW Unit) = .agg (cwordsL.map fun z => .lit (.string z)) := by rfl
theorem cv_of_laid {l : List (String × DataW Unit)} {w : World} (h : laidMetH Tryd.prog l w) (hp : (l.all fun x => x.2.handleName?.isNone) = true)
    (h1 : ("unicode/utf8.first", Rows.laid_unicode_utf8_first) ∈ l) (h2 : ("unicode/utf8.acceptRanges", Rows.laid_unicode_utf8_acceptRanges) ∈ l)
    (h3 : ("math/bits.deBruijn64tab", Rows.laid_math_bits_deBruijn64tab) ∈ l) (h4 : ("strconv.ErrRange", Rows.laid_strconv_ErrRange) ∈ l) (h5 : ("strconv.ErrSyntax", Rows.laid_strconv_ErrSyntax) ∈ l)
    (h6 : ("unicode.properties", Rows.laid_unicode_properties) ∈ l) (h7 : ("unicode.Letter", Rows.laid_unicode_Letter) ∈ l) (h8 : ("unicode.Digit", Rows.laid_unicode_Digit) ∈ l)
    (h9 : ("bootjack/call.words", Rows.laid_bootjack_call_words) ∈ l) (h10 : ("internal/strconv.uint64pow10", Rows.laid_internal_strconv_uint64pow10) ∈ l) : CV0 w := by
  have G := gv_of_laid h hp h1 h2 h3 h4 h5
  have T4 := tab4_of_laid h hp h6 h7 h8
  rw [MakeChecks.laidMetH_plain _ _ _ hp] at h
  have p10 : Lib.TabIs Tryd.prog w "internal/strconv.uint64pow10" .u64 Lib.pow10Tab := tabIs_of_reads (g := 9) (by kernel_rfl) (by kernel_rfl) Tryd.underlying170 Tryd.underlying35 (by kernel_rfl) (by kernel_rfl) (pow_eq ▸ Lib.laidMet.reads h h10)
  refine ⟨TB.start G.tabs, T4, ⟨p10⟩, G.ev, G.b64, fun i z hz => ?_⟩
  rw [roCell_heap]
  exact strs_of_reads (g := 0) (by kernel_rfl) (by kernel_rfl) Tryd.underlying77 Tryd.underlying9 (by kernel_rfl) (by kernel_rfl) (cwords_eq ▸ Lib.laidMet.reads h h9) i z hz
section
variable {H : Type} {enc : TypeId × Value → H} {W : World}
theorem Cel.call {cs : List Value} (h2 : Cel enc Tryd.prog W 23 cs) : ∃ c : Cl, cs = c.cells.toList ∧ (c.name.size ≤ 1000000000 → c.Ok) ∧ c.name.size ≤ 9223372036854775807 := by
  obtain ⟨hl, hf⟩ := h2.struct_ Tryd.underlying23
  have hl : cs.length = 5 := by rw [hl]; kernel_rfl
  have f0 : Cel enc Tryd.prog W 3 ((cs.drop 0).take (Tryd.prog.cellsOf 3)) := hf 0 _ rfl
  have f1 : Cel enc Tryd.prog W 3 ((cs.drop 1).take (Tryd.prog.cellsOf 3)) := hf 1 _ rfl
  have f2 : Cel enc Tryd.prog W 3 ((cs.drop 2).take (Tryd.prog.cellsOf 3)) := hf 2 _ rfl
  have f3 : Cel enc Tryd.prog W 3 ((cs.drop 3).take (Tryd.prog.cellsOf 3)) := hf 3 _ rfl
  have f4 : Cel enc Tryd.prog W 9 ((cs.drop 4).take (Tryd.prog.cellsOf 9)) := hf 4 _ rfl
  rw [show Tryd.prog.cellsOf 3 = 1 by kernel_rfl] at f0 f1 f2 f3
  rw [show Tryd.prog.cellsOf 9 = 1 by kernel_rfl] at f4
  obtain ⟨n0, e0, w0⟩ := f0.int Tryd.underlying3
  obtain ⟨n1, e1, w1⟩ := f1.int Tryd.underlying3
  obtain ⟨n2, e2, w2⟩ := f2.int Tryd.underlying3
  obtain ⟨n3, e3, w3⟩ := f3.int Tryd.underlying3
  obtain ⟨s, e4, w4⟩ := f4.string Tryd.underlying9
  obtain ⟨a0, b0⟩ := wf_i64 w0
  obtain ⟨a1, b1⟩ := wf_i64 w1
  obtain ⟨a2, b2⟩ := wf_i64 w2
  obtain ⟨a3, b3⟩ := wf_i64 w3
  refine ⟨⟨n0, n1, n2, n3, s⟩, ?_, fun hw => ⟨a0, b0, a1, b1, a2, b2, a3, b3, hw⟩, by unfold maxLen at w4; show s.size ≤ _; omega⟩
  have e5 : cs = (cs.drop 0).take 1 ++ ((cs.drop 1).take 1 ++ ((cs.drop 2).take 1 ++ ((cs.drop 3).take 1 ++ (cs.drop 4).take 1))) := by
    have a : ∀ k, cs.drop k = (cs.drop k).take 1 ++ cs.drop (k + 1) := fun k => by
      have h := (List.take_append_drop 1 (cs.drop k)).symm
      rwa [List.drop_drop] at h
    have b : (cs.drop 4).take 1 = cs.drop 4 := List.take_of_length_le (by rw [List.length_drop]; omega)
    rw [b]
    exact (a 0).trans (congrArg _ ((a 1).trans (congrArg _ ((a 2).trans (congrArg _ (a 3))))))
  rw [e5, e0, e1, e2, e3, e4]
  rfl
theorem Arg.call {v : Value} (h : Arg enc Tryd.prog W 23 v) : ∃ c : Cl, v = c.val ∧ (c.name.size ≤ 1000000000 → c.Ok) ∧ c.name.size ≤ 9223372036854775807 := by
  obtain ⟨cs, rfl, hl, _⟩ := h.struct_ Tryd.underlying23
  have h2 : Cel enc Tryd.prog W 23 cs := by simpa [Value.cells] using h.reads
  obtain ⟨c, rfl, ok, hz⟩ := Cel.call h2
  exact ⟨c, rfl, ok, hz⟩
end
end
end Go.Proofs.YtjcekmmieihllaaDoor
