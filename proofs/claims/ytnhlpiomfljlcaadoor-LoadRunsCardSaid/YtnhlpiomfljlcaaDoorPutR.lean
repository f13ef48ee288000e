/- The document's Put: a rune's bytes. The document's Runes: walk. -/
import Derived.Test.YtnhlpiomfljlcaaDoorGlyQO
namespace Go.Proofs.YtnhlpiomfljlcaaDoor
section
set_option linter.unusedVariables false
set_option linter.unusedSimpArgs false
open Go.RowKit Go.Lib

theorem Src.new (w : World) (cs : Array Value) (t : TypeId) : Src (w.alloc (.cells cs t)) 1 (some ⟨w.heap.size, 0, none⟩) cs.size cs.toList := by
  refine ⟨by simp, fun j u hj => ⟨_, rfl, ?_⟩⟩
  rw [show (⟨w.heap.size, 0, none⟩ : Addr).add j = ⟨w.heap.size, j, none⟩ by unfold Addr.add; split <;> simp_all, cell_of_row _ w.heap.size j cs t (0, 0) (heap_alloc_new w _)]
  simpa using hj
theorem Src.new' (w : World) (cs : Array Value) (t : TypeId) {b : Nat} (hb : w.heap.size = b) (n : Nat) (hn : cs.size = n) : Src (w.alloc (.cells cs t)) 1 (some ⟨b, 0, none⟩) n cs.toList := by
  subst hb; subst hn; exact Src.new w cs t
theorem rune_bvals (r : Int) : (encodeRune r).map bval = runeCells r := by
  rw [← byteCells_encodeRune]
  rfl

set_option maxRecDepth 100000 in
set_option maxHeartbeats 2000000 in
theorem put_any {W w : World} {I : Nat → Option Obj} {L : List (Nat × Obj)} (n : Nat) (hn : n < 55296 ∨ (57344 ≤ n ∧ n ≤ 1114111)) (h : St W w I L) :
    Calls Tryd.prog 84 #[.int .i64 n] w fun e w' => e = .returned (.string ⟨(encodeRune (n : Int)).toArray⟩) ∧ St W w' I L := by
  obtain ⟨R, hR⟩ : ∃ R, encodeRune (n : Int) = R := ⟨_, rfl⟩
  rw [hR]
  have hbv := rune_bvals (n : Int)
  rw [hR] at hbv
  have hlen := runeCells_le (n : Int)
  rw [← hbv, List.length_map] at hlen
  have h2 := h.alloc (.cells #[] 5)
  have H2 := Lib.hid h2; have HL := Lib.hid hlen
  have hn1 : (n : Int) ≤ 1114111 := by omega
  clear h h2 hlen
  go_enter Tryd.func84, Tryd.ntmps84
  by_cases h1 : n < 128
  · have h1' : (n : Int) < 128 := by omega
    rw [runeCells, encodeRuneZ_one (by omega) (by omega)] at hbv
    have HBV := Lib.hid hbv
    clear hbv hn
    go_wp2_with (at_builtin; refine Hid.out ?_)
    refine Lib.hid ?_
    refine wpList_append_row0 (F := L) (L := [(w.heap.size, .cells #[] 5 (0, 0))]) rfl (.tmp 29) (.tmp 32) 27 rfl 5 (.int .u8 0) 1 1 Tryd.underlying27 (by kernel_rfl) rfl (by omega) rfl (Row.empty 5 1 w.heap.size) (St.alloc_ (by exact H2.out) _) rfl (Src.new' (w.alloc (.cells #[] 5)) #[.int .u8 ((n : Int))] 5 (by simp) _ rfl) (by intro u hu; simp at hu; subst hu; rfl) R.length (by have := congrArg List.length HBV.out; simp only [List.length_map] at this; rw [this]; rfl) (R.map bval) (by rw [HBV.out]; rfl) (by have := HL.out; unfold maxLen; omega) (by have := HL.out; omega) ?_
    intro A1 c1 w2 L1 hr1 h3 ho
    have hcv := conv_str (P := Tryd.prog) Tryd.underlying27 Tryd.underlying5 Tryd.underlying9 (c := c1) (Row.src hr1 (fun p hp => h3.own p (List.mem_append.2 (.inl hp))))
    have H3 := Lib.hid h3
    clear h3 hr1 ho
    go_wp2_with fail
    go_ret
    exact ⟨rfl, St.weaken H3.out⟩
  have h1' : ¬ (n : Int) < 128 := by omega
  by_cases h2 : n < 2048
  · have h2' : (n : Int) < 2048 := by omega
    rw [runeCells, encodeRuneZ_two (by omega) (by omega)] at hbv
    have HBV := Lib.hid hbv
    clear hbv hn
    go_wp2_with (at_builtin; refine Hid.out ?_)
    refine Lib.hid ?_
    refine wpList_append_row0 (F := L) (L := [(w.heap.size, .cells #[] 5 (0, 0))]) rfl (.tmp 37) (.tmp 46) 27 rfl 5 (.int .u8 0) 1 1 Tryd.underlying27 (by kernel_rfl) rfl (by omega) rfl (Row.empty 5 1 w.heap.size) (St.alloc_ (by exact H2.out) _) rfl (Src.new' (w.alloc (.cells #[] 5)) #[.int .u8 (192 + (n : Int) / 64), .int .u8 (128 + (n : Int) % 64)] 5 (by simp) _ rfl) (by intro u hu; simp at hu; rcases hu with rfl | rfl <;> rfl) R.length (by have := congrArg List.length HBV.out; simp only [List.length_map] at this; rw [this]; rfl) (R.map bval) (by rw [HBV.out]; rfl) (by have := HL.out; unfold maxLen; omega) (by have := HL.out; omega) ?_
    intro A1 c1 w2 L1 hr1 h3 ho
    have hcv := conv_str (P := Tryd.prog) Tryd.underlying27 Tryd.underlying5 Tryd.underlying9 (c := c1) (Row.src hr1 (fun p hp => h3.own p (List.mem_append.2 (.inl hp))))
    have H3 := Lib.hid h3
    clear h3 hr1 ho
    go_wp2_with fail
    go_ret
    exact ⟨rfl, St.weaken H3.out⟩
  have h2' : ¬ (n : Int) < 2048 := by omega
  by_cases h3 : n < 65536
  · have h3' : (n : Int) < 65536 := by omega
    rw [runeCells, encodeRuneZ_three (by omega)] at hbv
    have HBV := Lib.hid hbv
    clear hbv hn
    go_wp2_with (at_builtin; refine Hid.out ?_)
    refine Lib.hid ?_
    refine wpList_append_row0 (F := L) (L := [(w.heap.size, .cells #[] 5 (0, 0))]) rfl (.tmp 51) (.tmp 65) 27 rfl 5 (.int .u8 0) 1 1 Tryd.underlying27 (by kernel_rfl) rfl (by omega) rfl (Row.empty 5 1 w.heap.size) (St.alloc_ (by exact H2.out) _) rfl (Src.new' (w.alloc (.cells #[] 5)) #[.int .u8 (224 + (n : Int) / 4096), .int .u8 (128 + (n : Int) / 64 % 64), .int .u8 (128 + (n : Int) % 64)] 5 (by simp) _ rfl) (by intro u hu; simp at hu; rcases hu with rfl | rfl | rfl <;> rfl) R.length (by have := congrArg List.length HBV.out; simp only [List.length_map] at this; rw [this]; rfl) (R.map bval) (by rw [HBV.out]; rfl) (by have := HL.out; unfold maxLen; omega) (by have := HL.out; omega) ?_
    intro A1 c1 w2 L1 hr1 h3 ho
    have hcv := conv_str (P := Tryd.prog) Tryd.underlying27 Tryd.underlying5 Tryd.underlying9 (c := c1) (Row.src hr1 (fun p hp => h3.own p (List.mem_append.2 (.inl hp))))
    have H3 := Lib.hid h3
    clear h3 hr1 ho
    go_wp2_with fail
    go_ret
    exact ⟨rfl, St.weaken H3.out⟩
  have h3' : ¬ (n : Int) < 65536 := by omega
  rw [runeCells, encodeRuneZ_four (by omega) (by omega)] at hbv
  have HBV := Lib.hid hbv
  clear hbv hn
  go_wp2_with (at_builtin; refine Hid.out ?_)
  refine Lib.hid ?_
  refine wpList_append_row0 (F := L) (L := [(w.heap.size, .cells #[] 5 (0, 0))]) rfl (.tmp 5) (.tmp 24) 27 rfl 5 (.int .u8 0) 1 1 Tryd.underlying27 (by kernel_rfl) rfl (by omega) rfl (Row.empty 5 1 w.heap.size) (St.alloc_ (by exact H2.out) _) rfl (Src.new' (w.alloc (.cells #[] 5)) #[.int .u8 (240 + (n : Int) / 262144), .int .u8 (128 + (n : Int) / 4096 % 64), .int .u8 (128 + (n : Int) / 64 % 64), .int .u8 (128 + (n : Int) % 64)] 5 (by simp) _ rfl) (by intro u hu; simp at hu; rcases hu with rfl | rfl | rfl | rfl <;> rfl) R.length (by have := congrArg List.length HBV.out; simp only [List.length_map] at this; rw [this]; rfl) (R.map bval) (by rw [HBV.out]; rfl) (by have := HL.out; unfold maxLen; omega) (by have := HL.out; omega) ?_
  intro A1 c1 w2 L1 hr1 h3 ho
  have hcv := conv_str (P := Tryd.prog) Tryd.underlying27 Tryd.underlying5 Tryd.underlying9 (c := c1) (Row.src hr1 (fun p hp => h3.own p (List.mem_append.2 (.inl hp))))
  have H3 := Lib.hid h3
  clear h3 hr1 ho
  go_wp2_with fail
  go_ret
  exact ⟨rfl, St.weaken H3.out⟩
end

section
set_option linter.unusedVariables false
set_option linter.unusedSimpArgs false
open Go.RowKit Go.Lib

theorem one_any {W w : World} {I : Nat → Option Obj} {L : List (Nat × Obj)} (t : ByteArray) (hz : 0 < t.size) (hm : t.size ≤ 140737488355328) (h : St W w I L) :
    Calls Tryd.prog 82 #[.string t] w fun e w' => e = .returned (.agg #[.int .i64 (refOne t).1, .string (t.extract 0 (refOne t).2.1), .bool (refOne t).2.2]) ∧ St W w' I L := by
  by_cases h1 : (t.get! 0).toNat < 128
  · exact one_a t hz hm h1 h
  by_cases h2 : (t.get! 0).toNat < 194
  · exact one_o t hz hm (by omega) (.inl h2) h
  by_cases h3 : (t.get! 0).toNat < 224
  · exact one_k2 t hz hm (by omega) h3 h
  by_cases h4 : (t.get! 0).toNat < 240
  · exact one_k3 t hz hm (by omega) h4 h
  by_cases h5 : (t.get! 0).toNat < 245
  · exact one_k4 t hz hm (by omega) h5 h
  exact one_o t hz hm (by omega) (.inr (by omega)) h

theorem refOne_at (s : ByteArray) (pos : Nat) (hp : pos < s.size) : refOne (tailOf s pos) = (refNumber s pos, (Utf8.decode s pos).2, brokenAt s pos) := by
  have hd := decode_tail s pos hp
  have hb := broken_tail s pos hp
  unfold refOne refNumber
  rw [hd, hb]
  cases hbr : brokenAt s pos with
  | true =>
    have h2 : (Utf8.decode s pos).2 = 1 := by
      unfold brokenAt at hbr
      simp only [Bool.and_eq_true, beq_iff_eq] at hbr
      exact hbr.2
    rw [h2, if_pos rfl, if_pos rfl, tailOf_get s pos 0 (by omega), Nat.add_zero]
  | false => rfl
theorem tail_bytes (s : ByteArray) (pos k : Nat) (h : pos + k ≤ s.size) : (tailOf s pos).extract 0 k = s.extract pos (pos + k) := by
  apply ByteArray.ext
  simp only [tailOf, ByteArray.data_extract, Array.extract_extract]
  congr 1
  have : s.data.size = s.size := rfl
  omega
/-- The runes, as they lie in memory. -/
def rcell (s : ByteArray) (pos : Nat) : List Value := [.int .i64 (refNumber s pos : Nat), .string (refBytes s pos), .bool (brokenAt s pos)]
def rall (s : ByteArray) (l : List Nat) : List Value := l.flatMap (rcell s)
theorem rall_add (s : ByteArray) (l : List Nat) (p : Nat) : rall s (l ++ [p]) = rall s l ++ rcell s p := by simp [rall]
theorem rall_len (s : ByteArray) (l : List Nat) : (rall s l).length = l.length * 3 := by
  induction l with
  | nil => rfl
  | cons p l ih => simp only [rall, List.flatMap_cons, List.length_append, List.length_cons] at *; rw [ih]; simp [rcell]; omega
theorem tail_nil (s : ByteArray) (pos : Nat) (h : ¬ pos < s.size) : tailOf s pos = ⟨#[]⟩ := by
  apply ByteArray.ext
  simp only [tailOf, ByteArray.data_extract]
  have : s.data.size = s.size := rfl
  rw [Array.extract_empty_of_stop_le_start (by omega)]
theorem toList_empty_false (t : ByteArray) (h : t.size ≠ 0) : t.toList.isEmpty = false := by
  rw [ByteArray.toList_eq]
  cases hl : t.data.toList with
  | nil =>
    have h2 : t.data.toList.length = 0 := by rw [hl]; rfl
    exact absurd (by simpa using h2) h
  | cons x l => rfl
theorem toList_empty_true : (⟨#[]⟩ : ByteArray).toList.isEmpty = true := by rw [ByteArray.toList_eq]; rfl
theorem Src.newS (w : World) (size : Nat) (cs : Array Value) (t : TypeId) {b : Nat} (hb : w.heap.size = b) (n : Nat) (hn : cs.size = n * size) : Src (w.alloc (.cells cs t)) size (some ⟨b, 0, none⟩) n cs.toList := by
  subst hb
  have h := Src.new w cs t
  exact ⟨by simpa using hn, h.2⟩
theorem tail_zero (s : ByteArray) : tailOf s 0 = s := by
  apply ByteArray.ext
  simp only [tailOf, ByteArray.data_extract]
  have : s.data.size = s.size := rfl
  rw [← this, Array.extract_size]

set_option maxRecDepth 100000 in
set_option maxHeartbeats 4000000 in
theorem runes_any {W w : World} {I : Nat → Option Obj} {L : List (Nat × Obj)} (s : ByteArray) (hm : s.size ≤ 1000000000) (h : St W w I L) :
    Calls Tryd.prog 70 #[.string s] w fun e w' => ∃ A c L', e = .returned (.slice A (runesOf s).length c) ∧ Row 151 3 (.slice A (runesOf s).length c) (runesOf s).length (rall s (runesOf s)) L' ∧ St W w' I (L' ++ L) := by
  have h1 := h.alloc (.cells #[] 151)
  have hr0 := Row.empty 151 3 w.heap.size
  have H1 := Lib.hid h1; have HR0 := Lib.hid hr0
  clear h h1 hr0
  go_enter Tryd.func70, Tryd.ntmps70
  go_wp2_with fail
  go_loopw [0, 3] (fun t v wr => ∃ (fuel pos : Nat) (don : List Nat) (A : Option Addr) (c : Nat) (L' : List (Nat × Obj)), t = .string (tailOf s pos) ∧ v = .slice A don.length c ∧ runesOf s = don ++ runesFrom s fuel pos ∧ s.size ≤ pos + fuel ∧ pos ≤ s.size ∧ don.length ≤ pos ∧ Row 151 3 (.slice A don.length c) don.length (rall s don) L' ∧ St W wr I (L' ++ L)) (fun t _ _ => match t with | .string b => b.size | _ => 0)
  case atStart => exact ⟨s.size, 0, [], _, 0, _, by rw [tail_zero], rfl, rfl, by omega, by omega, by simp, HR0.out, H1.out⟩
  case round =>
    obtain ⟨fuel, pos, don, A, c, L', rfl, rfl, hro, hfu, hps, hdl, hrow, hst⟩ := hrel
    clear H1 HR0
    by_cases hp : pos < s.size
    · have htz : (tailOf s pos).size ≠ 0 := by rw [tailOf_size]; omega
      have hne := toList_empty_false _ htz
      have hone := refOne_at s pos hp
      have hwd := Lib.width_pos s pos
      have hwl := width_le s pos hp
      have hcO := fun (v : World) (hv : St W v I (L' ++ L)) => one_any (tailOf s pos) (by omega) (by rw [tailOf_size]; omega) hv
      rw [hone, tail_bytes s pos _ hwl] at hcO
      obtain ⟨f, rfl⟩ : ∃ f, fuel = f + 1 := ⟨fuel - 1, by omega⟩
      rw [runesFrom_step s f pos hp] at hro
      have hro2 : runesOf s = (don ++ [pos]) ++ runesFrom s f (pos + (Utf8.decode s pos).2) := by rw [hro]; simp
      have hrc : rcell s pos = [.int .i64 (refNumber s pos : Nat), .string (refBytes s pos), .bool (brokenAt s pos)] := rfl
      have hrb : refBytes s pos = s.extract pos (pos + (Utf8.decode s pos).2) := rfl
      rw [← hrb] at hcO
      have hbz : (refBytes s pos).size = (Utf8.decode s pos).2 := by rw [hrb, ByteArray.size_extract]; omega
      have htt := tail_tail s pos _ hwl
      generalize (Utf8.decode s pos).2 = k at *
      generalize hTE : tailOf s pos = te at *
      have htes : te.size = s.size - pos := by rw [← hTE, tailOf_size]
      have hks : k ≤ te.size := by omega
      generalize refNumber s pos = rn at *
      generalize hRB : refBytes s pos = rb at *
      generalize brokenAt s pos = rbr at *
      have hrbz : (rb.size : Int) = (k : Int) := by omega
      have HRO := Lib.hid hro2; have HRC := Lib.hid hrc; have HRW := Lib.hid hrow; have HST := Lib.hid hst; have HO := Lib.hid hcO; have HTT := Lib.hid htt; have HTES := Lib.hid htes; have HBZ := Lib.hid hbz
      clear hro hro2 hrc hrow hst hcO htt hone hrb hRB hTE hbz htz htes
      go_wp2_with (at_builtin; refine Hid.out ?_)
      refine (HO.out _ HST.out).mono ?_
      rintro e w1 ⟨rfl, h2⟩
      have H2 := Lib.hid h2
      clear h2 HO HST
      go_wp2_with (at_builtin; refine Hid.out ?_)
      refine Lib.hid ?_
      refine wpList_append_row0 (F := (w1.heap.size, .cells #[.int .i64 rn, .string rb, .bool rbr] 151 (0, 0)) :: L) (L := L') rfl (.tmp 10) (.tmp 12) 148 rfl 151 (.agg #[.int .i64 0, .string ⟨#[]⟩, .bool false]) 3 32 Tryd.underlying148 (by kernel_rfl) rfl (by omega) rfl HRW.out (St.alloc_ (((H2.out.alloc _).perm List.perm_middle.symm)) _) rfl (Src.newS (w1.alloc (.cells #[.int .i64 rn, .string rb, .bool rbr] 151)) 3 #[.int .i64 rn, .string rb, .bool rbr] 151 (by simp) 1 rfl) (by intro u hu; simp at hu; rcases hu with rfl | rfl | rfl <;> rfl) (don ++ [pos]).length (by simp) (rall s (don ++ [pos])) (by rw [rall_add, HRC.out]) (by simp; unfold maxLen; omega) (by simp; omega) ?_
      intro A1 c1 w2 L1 hr1 h3 ho
      have hg : w2.cell? ⟨w1.heap.size, 1, none⟩ = some (.string rb) := by
        rw [h3.cell (g := w1.heap.size) (cs := #[.int .i64 rn, .string rb, .bool rbr]) (t := 151) (fr := (0, 0)) (by simp)]; rfl
      have H3 := Lib.hid (St.mid (A := L1) (B := [_]) h3); have HR1 := Lib.hid hr1
      have hez : te.extract k te.size = tailOf s (pos + k) := HTT.out
      have HEZ := Lib.hid hez
      clear h3 hr1 ho hez
      go_wp2_with fail
      refine ⟨⟨f, pos + k, don ++ [pos], A1, c1, L1, by rw [HEZ.out], by simp, HRO.out, by omega, by omega, by simp; omega, HR1.out, H3.out⟩, ?_⟩
      show (te.extract k te.size).size < te.size
      rw [ByteArray.size_extract]
      omega
    · have htn := tail_nil s pos hp
      have htm := toList_empty_true
      rw [htn]
      have hend : runesOf s = don := by rw [hro, runesFrom_end s _ _ hp, List.append_nil]
      have HEND := Lib.hid hend; have HRW := Lib.hid hrow; have HST := Lib.hid hst
      clear hro hrow hst hend htn
      go_wp2_with fail
      go_ret
      rw [HEND.out]; exact ⟨_, _, _, rfl, HRW.out, HST.out⟩
end
end Go.Proofs.YtnhlpiomfljlcaaDoor
