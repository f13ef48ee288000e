/- CallSays: the walk of the law. -/
import Derived.Test.YtjcekmmieihllaaDoorSayG
import Derived.Test.YtjcekmmieihllaaDoorRarg
import Derived.Deep.RegionWith
import Derived.Deep.RegionHeld3
import Derived.Deep.MidRow
namespace Go.Proofs.YtjcekmmieihllaaDoor
set_option linter.unusedVariables false
set_option linter.unusedSimpArgs false
set_option linter.unnecessarySimpa false
open Go.RowKit Go.Lib Go.Shelf

abbrev YV0 (W : World) : Prop := YV W (fun b => W.heap[b]?)
theorem states_eq : (Rows.laid_bootjack_call_states : DataW Unit) = .agg (statesL.map fun z => .lit (.string z)) := by rfl
def namesL : List (List UInt8) := [[97], [98]]
theorem names_eq : (Rows.laid_bootjack_slot_names : DataW Unit) = .agg (namesL.map fun z => .lit (.string z)) := by rfl
theorem yv_of_laid {l : List (String × DataW Unit)} {w : World} (h : laidMetH Tryd.prog l w) (hp : (l.all fun x => x.2.handleName?.isNone) = true)
    (h1 : ("unicode/utf8.first", Rows.laid_unicode_utf8_first) ∈ l) (h2 : ("unicode/utf8.acceptRanges", Rows.laid_unicode_utf8_acceptRanges) ∈ l)
    (h3 : ("math/bits.deBruijn64tab", Rows.laid_math_bits_deBruijn64tab) ∈ l) (h4 : ("strconv.ErrRange", Rows.laid_strconv_ErrRange) ∈ l) (h5 : ("strconv.ErrSyntax", Rows.laid_strconv_ErrSyntax) ∈ l)
    (h6 : ("unicode.properties", Rows.laid_unicode_properties) ∈ l) (h7 : ("unicode.Letter", Rows.laid_unicode_Letter) ∈ l) (h8 : ("unicode.Digit", Rows.laid_unicode_Digit) ∈ l)
    (h9 : ("bootjack/call.words", Rows.laid_bootjack_call_words) ∈ l) (h10 : ("internal/strconv.uint64pow10", Rows.laid_internal_strconv_uint64pow10) ∈ l)
    (h11 : ("bootjack/slot.words", Rows.laid_bootjack_slot_words) ∈ l) (h12 : ("bootjack/slot.names", Rows.laid_bootjack_slot_names) ∈ l) (h13 : ("bootjack/call.states", Rows.laid_bootjack_call_states) ∈ l) : YV0 w := by
  have C := cv_of_laid h hp h1 h2 h3 h4 h5 h6 h7 h8 h9 h10
  have S := sv_of_laid h hp h10 h4 h5 h11
  rw [MakeChecks.laidMetH_plain _ _ _ hp] at h
  have hn : ∀ i z, namesL[i]? = some z → w.cell? ⟨1, i, none⟩ = some (.string ⟨z.toArray⟩) := fun i z hz =>
    strs_of_reads (g := 1) (by kernel_rfl) (by kernel_rfl) Tryd.underlying121 Tryd.underlying9 (by kernel_rfl) (by kernel_rfl) (names_eq ▸ Lib.laidMet.reads h h12) i z hz
  refine ⟨C, S, hn 0 _ rfl, hn 1 _ rfl, fun i z hz => ?_⟩
  rw [roCell_heap]
  exact strs_of_reads (g := 2) (by kernel_rfl) (by kernel_rfl) Tryd.underlying122 Tryd.underlying9 (by kernel_rfl) (by kernel_rfl) (states_eq ▸ Lib.laidMet.reads h h13) i z hz
set_option maxRecDepth 100000 in
set_option maxHeartbeats 16000000 in
theorem walk_says (W : World) (y : YV0 W) (c : Cl) (r : Rp) (ok : r.Ok) :
    Calls Tryd.prog 8 #[c.val, .agg r.cells] W fun e w' => e = .returned (.bool true) ∧ Below W.heap.size W w' := by
  have h0 := ((St.start W).alloc (.cells #[Value.int .i64 c.client, .int .i64 c.kind, .int .i64 c.slot, .int .i64 c.job, .string c.name] 23)).alloc (.cells r.cells 44)
  obtain ⟨b, hb⟩ : ∃ b, W.heap.size = b := ⟨_, rfl⟩
  have HF0 : Hid (W.heap.size = b) := Lib.hid hb
  rw [World.size_alloc, hb] at h0
  have kA := call_alive y.cv (fun J k => y.cv.more k) h0
  have kS : ∀ (v : World) (F : List (Nat × Obj)), St W v (fun b => W.heap[b]?) F → Calls Tryd.prog 30 #[.agg #[Value.int .i64 c.client, .int .i64 c.kind, .int .i64 c.slot, .int .i64 c.job, .string c.name], .agg r.cells] v fun e w' => e = .returned (.string ⟨(sayS c r).toArray⟩) ∧ St W w' (fun b => W.heap[b]?) F := fun v F hv => say_any y c r ok hv
  have kR : ∀ (v : World) (F : List (Nat × Obj)), St W v (fun b => W.heap[b]?) F → Calls Tryd.prog 31 #[.agg #[Value.int .i64 c.client, .int .i64 c.kind, .int .i64 c.slot, .int .i64 c.job, .string c.name], .agg r.cells] v fun e w' => e = .returned (.string ⟨(sayS c r).toArray⟩) ∧ St W w' (fun b => W.heap[b]?) F := fun v F hv => cref_say c r ok hv
  have hmi : (Tryd.prog.info? 44).map (·.size) = some r.cells.toList.length := by rw [rp_info r ok, Array.length_toList]
  obtain ⟨X, hX⟩ : ∃ X, (⟨(sayS c r).toArray⟩ : ByteArray) = X := ⟨_, rfl⟩
  simp only [hX] at kS kR
  rw [show c.val = .agg #[Value.int .i64 c.client, .int .i64 c.kind, .int .i64 c.slot, .int .i64 c.job, .string c.name] from rfl]
  clear hX ok y
  generalize r.cells = R at *
  have f1 : (X.toList == X.toList) = true := by simp
  have sx : ∀ v, St W v (fun b => W.heap[b]?) [(b + 1, .cells R 44 (0, 0)), (b, .cells #[Value.int .i64 c.client, .int .i64 c.kind, .int .i64 c.slot, .int .i64 c.job, .string c.name] 23 (0, 0))] → (v.cell? ⟨b, 0, none⟩ = some (.int .i64 c.client) ∧ v.cell? ⟨b, 1, none⟩ = some (.int .i64 c.kind) ∧ v.cell? ⟨b, 2, none⟩ = some (.int .i64 c.slot) ∧ v.cell? ⟨b, 3, none⟩ = some (.int .i64 c.job) ∧ v.cell? ⟨b, 4, none⟩ = some (.string c.name) ∧ v.rangeAt (b + 1) 0 R.toList) := fun v hv => by
    have e := hv.cell (g := b) (cs := #[Value.int .i64 c.client, .int .i64 c.kind, .int .i64 c.slot, .int .i64 c.job, .string c.name]) (t := 23) (fr := (0, 0)) (by simp)
    exact ⟨e 0, e 1, e 2, e 3, e 4, hv.rangeAt (g := b + 1) (cs := R) (t := 44) (fr := (0, 0)) (by simp) (fun j hj => by rw [Nat.zero_add, Array.getElem?_toList])⟩
  have KA := Lib.hid kA; have KS := Lib.hid kS; have KR := Lib.hid kR; have SX := Lib.hid sx; have HM := Lib.hid hmi; have F1 := Lib.hid f1
  have HUL := Lib.hid Tryd.underlying44
  clear kA kS kR sx hmi h0 f1
  go_enter Tryd.func8, Tryd.ntmps8
  go_wp2_with fail
  refine KA.out.mono ?_
  rintro e w1 ⟨rfl, h1⟩
  have hx := h1.drew1
  clear h1 KA
  go_wp2_with fail
  refine wp_region_held_drew (S := fun v => (v.cell? ⟨b, 0, none⟩ = some (.int .i64 c.client) ∧ v.cell? ⟨b, 1, none⟩ = some (.int .i64 c.kind) ∧ v.cell? ⟨b, 2, none⟩ = some (.int .i64 c.slot) ∧ v.cell? ⟨b, 3, none⟩ = some (.int .i64 c.job) ∧ v.cell? ⟨b, 4, none⟩ = some (.string c.name) ∧ v.rangeAt (b + 1) 0 R.toList)) (by kernel_rfl) (SX.out _ hx) (fun hHeld => ?_)
  refine wpAnyH_take (i := 0) (oi := ?_) (v := ?_) ?_ ?_ ?_ ?_ ?_ ?_ ?_ ?_
  rotate_left 2
  · (simp only [List.getElem?_toArray, List.getElem?_cons_succ, List.getElem?_cons_zero]; exact rfl)
  · kernel_rfl
  · kernel_rfl
  · kernel_rfl
  · exact fun _ _ _ h => h
  · first | (first | ((refine yieldsIf_load_mid ?_ 44 (.tmp 3) ?_ (b + 1) 0 ?_ R.toList _ ?_ HUL.out ?_ HM.out) <;> first | rfl | exact fun w h => h.2.2.2.2.2) | (refine Or.inl ⟨by rfl, ?_⟩; intro w hSw; obtain ⟨hS1, hS2, hS3, hS4, hS5, hS6⟩ := hSw; go_simp; try with_reducible rfl)) | (refine Or.inr ⟨by rfl, ?_⟩; rfl)
  · assumption
  try simp only [Act.put, List.setIfInBounds_toArray, List.set_cons_zero, List.set_cons_succ]
  try simp only [F1.out]
  refine wpAnyH_take (i := 1) (oi := ?_) (v := ?_) ?_ ?_ ?_ ?_ ?_ ?_ ?_ ?_
  rotate_left 2
  · (simp only [List.getElem?_toArray, List.getElem?_cons_succ, List.getElem?_cons_zero]; exact rfl)
  · kernel_rfl
  · kernel_rfl
  · kernel_rfl
  · exact fun _ _ _ h => h
  · first | (first | ((refine yieldsIf_load_mid ?_ 44 (.tmp 3) ?_ (b + 1) 0 ?_ R.toList _ ?_ HUL.out ?_ HM.out) <;> first | rfl | exact fun w h => h.2.2.2.2.2) | (refine Or.inl ⟨by rfl, ?_⟩; intro w hSw; obtain ⟨hS1, hS2, hS3, hS4, hS5, hS6⟩ := hSw; go_simp; try with_reducible rfl)) | (refine Or.inr ⟨by rfl, ?_⟩; rfl)
  · assumption
  try simp only [Act.put, List.setIfInBounds_toArray, List.set_cons_zero, List.set_cons_succ]
  try simp only [F1.out]
  refine wpAnyH_take (i := 3) (oi := ?_) (v := ?_) ?_ ?_ ?_ ?_ ?_ ?_ ?_ ?_
  rotate_left 2
  · (simp only [List.getElem?_toArray, List.getElem?_cons_succ, List.getElem?_cons_zero]; exact rfl)
  · kernel_rfl
  · kernel_rfl
  · kernel_rfl
  · exact fun _ _ _ h => h
  · first | (first | ((refine yieldsIf_load_mid ?_ 44 (.tmp 3) ?_ (b + 1) 0 ?_ R.toList _ ?_ HUL.out ?_ HM.out) <;> first | rfl | exact fun w h => h.2.2.2.2.2) | (refine Or.inl ⟨by rfl, ?_⟩; intro w hSw; obtain ⟨hS1, hS2, hS3, hS4, hS5, hS6⟩ := hSw; go_simp; try with_reducible rfl)) | (refine Or.inr ⟨by rfl, ?_⟩; rfl)
  · assumption
  try simp only [Act.put, List.setIfInBounds_toArray, List.set_cons_zero, List.set_cons_succ]
  try simp only [F1.out]
  refine wpAnyH_take (i := 4) (oi := ?_) (v := ?_) ?_ ?_ ?_ ?_ ?_ ?_ ?_ ?_
  rotate_left 2
  · (simp only [List.getElem?_toArray, List.getElem?_cons_succ, List.getElem?_cons_zero]; exact rfl)
  · kernel_rfl
  · kernel_rfl
  · kernel_rfl
  · exact fun _ _ _ h => h
  · first | (first | ((refine yieldsIf_load_mid ?_ 44 (.tmp 3) ?_ (b + 1) 0 ?_ R.toList _ ?_ HUL.out ?_ HM.out) <;> first | rfl | exact fun w h => h.2.2.2.2.2) | (refine Or.inl ⟨by rfl, ?_⟩; intro w hSw; obtain ⟨hS1, hS2, hS3, hS4, hS5, hS6⟩ := hSw; go_simp; try with_reducible rfl)) | (refine Or.inr ⟨by rfl, ?_⟩; rfl)
  · assumption
  try simp only [Act.put, List.setIfInBounds_toArray, List.set_cons_zero, List.set_cons_succ]
  try simp only [F1.out]
  refine wpAnyH_ready (rs := [2]) (by kernel_rfl) (by simp) ?_
  refine AllReadyH.cons (o := ?_) ?_ (fun K hK => ?_) ?_
  rotate_left 1
  · (simp only [List.getElem?_toArray, List.getElem?_cons_succ, List.getElem?_cons_zero]; exact rfl)
  · go_simp
    ((first | (go_at_call 30; (with_reducible refine (KS.out _ _ hx).mono ?_); rintro e wx ⟨rfl, hx⟩; dsimp only) | (go_at_call 31; (with_reducible refine (KR.out _ _ hx).mono ?_); rintro e wx ⟨rfl, hx⟩; dsimp only)))
    refine hK.out _ _ ?_ (fun hHeld => ?_)
    · (try dsimp only) <;> (exact SX.out _ hx)
    clear hK K
    try simp only [Act.put, List.setIfInBounds_toArray, List.set_cons_zero, List.set_cons_succ]
    try simp only [F1.out]
    refine wpAnyH_ready (rs := [5]) (by kernel_rfl) (by simp) ?_
    refine AllReadyH.cons (o := ?_) ?_ (fun K hK => ?_) ?_
    rotate_left 1
    · (simp only [List.getElem?_toArray, List.getElem?_cons_succ, List.getElem?_cons_zero]; exact rfl)
    · go_simp
      ((first | (go_at_call 30; (with_reducible refine (KS.out _ _ hx).mono ?_); rintro e wx ⟨rfl, hx⟩; dsimp only) | (go_at_call 31; (with_reducible refine (KR.out _ _ hx).mono ?_); rintro e wx ⟨rfl, hx⟩; dsimp only)))
      refine hK.out _ _ ?_ (fun hHeld => ?_)
      · (try dsimp only) <;> (exact SX.out _ hx)
      clear hK K
      try simp only [Act.put, List.setIfInBounds_toArray, List.set_cons_zero, List.set_cons_succ]
      try simp only [F1.out]
      refine wpAnyH_take (i := 6) (oi := ?_) (v := ?_) ?_ ?_ ?_ ?_ ?_ ?_ ?_ ?_
      rotate_left 2
      · (simp only [List.getElem?_toArray, List.getElem?_cons_succ, List.getElem?_cons_zero]; exact rfl)
      · kernel_rfl
      · kernel_rfl
      · kernel_rfl
      · exact fun _ _ _ h => h
      · first | (refine Or.inl ⟨by rfl, ?_⟩; intro w hSw; (try dsimp only at hSw); go_simp; try with_reducible rfl) | (refine Or.inr ⟨by rfl, ?_⟩; rfl)
      · assumption
      try simp only [Act.put, List.setIfInBounds_toArray, List.set_cons_zero, List.set_cons_succ]
      try simp only [F1.out]
      refine wpAnyH_take (i := 7) (oi := ?_) (v := ?_) ?_ ?_ ?_ ?_ ?_ ?_ ?_ ?_
      rotate_left 2
      · (simp only [List.getElem?_toArray, List.getElem?_cons_succ, List.getElem?_cons_zero]; exact rfl)
      · kernel_rfl
      · kernel_rfl
      · kernel_rfl
      · exact fun _ _ _ h => h
      · first | (refine Or.inl ⟨by rfl, ?_⟩; intro w hSw; (try dsimp only at hSw); go_simp; try with_reducible rfl) | (refine Or.inr ⟨by rfl, ?_⟩; rfl)
      · assumption
      try simp only [Act.put, List.setIfInBounds_toArray, List.set_cons_zero, List.set_cons_succ]
      try simp only [F1.out]
      refine wpAnyH_done (by kernel_rfl) ?_ _
      have HF : Hid (Below W.heap.size W _) := Lib.hid (hx.below (Le.refl _))
      clear hx SX
      go_wp2_with fail
      go_ret
      exact ⟨rfl, HF.out⟩
    exact AllReadyH.nil
  exact AllReadyH.nil
theorem walk_callSays (W : World) (y : YV0 W) {H : Type} {enc : TypeId × Value → H} {v0 v1 : Value} (a0 : Arg enc Tryd.prog W 23 v0) (a1 : Arg enc Tryd.prog W 44 v1) :
    Calls Tryd.prog 8 #[v0, v1] W fun e w' => e = .returned (.bool true) ∧ Below W.heap.size W w' := by
  obtain ⟨c, rfl, -, -⟩ := a0.call
  obtain ⟨r, rfl, ok⟩ := a1.reply
  exact walk_says W y c r ok
end Go.Proofs.YtjcekmmieihllaaDoor
