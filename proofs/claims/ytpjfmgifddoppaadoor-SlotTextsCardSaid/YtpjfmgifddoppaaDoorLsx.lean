/- SlotTexts: the walk of the law. -/
import Derived.Test.YtpjfmgifddoppaaDoorIdx
namespace Go.Proofs.YtpjfmgifddoppaaDoor
set_option linter.unusedVariables false
set_option linter.unusedSimpArgs false
open Go.RowKit Go.Lib

section
variable {P : Program} {W w : World} {I : Nat → Option Obj}
/-- A load behind a guard, at one place alone. -/
theorem wpList_load_at (n : Nat) {ops : Array Oper} {rest : List Oper} {o : Oper} {a : Act} {Q : Exit → Act → World → Prop} (hn : o.dst = some n) (hw : Region.wanted o (yielded ops a.tmps) = true) (ty : TypeId) (x : Operand) (ho : o.op = .load ty x) {g off : Nat} (hx : a.eval x = .pointer (some ⟨g, off, none⟩))
    {L : List (Nat × Obj)} (hst : St W w I L) {cs : Array Value} {t : TypeId} {fr : Nat × Nat} (hp : (g, Obj.cells cs t fr) ∈ L) (ys : Array Value) (hys : ∀ j, j < ys.size → cs[off + j]? = ys[j]?) (d : TypeDesc) (hu : P.underlying ty = some d) (hd : d.isRow = true)
    (hi : (P.info? ty).map (·.size) = some ys.size) (h : wpList P ops Q rest (a.put o.dst (.agg ys)) w) : wpList P ops Q (o :: rest) a w := wpList_load_g hw ty x ho hx hst hp ys hys d hu hd hi h
end
theorem run_build_slot0 (w : World) : (Instr.build 26 #[]).run Tryd.prog w = .ok (.agg #[.int .i64 0, .int .i64 0, .int .u64 0, .int .i64 0, .int .u8 0, .int .u8 0, .int .u8 0, .int .u8 0, .int .u8 0, .int .u8 0, .int .u8 0, .int .u8 0, .int .u8 0, .int .u8 0, .int .u8 0, .int .u8 0, .int .u8 0, .int .u8 0, .int .u8 0, .int .u8 0, .int .u8 0, .int .u8 0, .int .u8 0, .int .u8 0, .int .u8 0, .int .u8 0, .int .u8 0, .int .u8 0, .int .u8 0, .int .u8 0, .int .u8 0, .int .u8 0, .int .u8 0, .int .u8 0, .int .u8 0, .int .u8 0]) w := by kernel_rfl
theorem dec_le : ∀ (k u : Nat), u < 10 ^ (k + 1) → (Lib.decDigits u).length ≤ k + 1
  | 0, u, h => by
    rw [Lib.decDigits, dif_pos (by omega)]
    simp
  | k + 1, u, h => by
    rw [Lib.decDigits]
    split
    · simp
    · rw [List.length_append, List.length_singleton]
      have := dec_le k (u / 10) (by rw [Nat.pow_succ] at h; omega)
      omega
theorem word_le (i : Int) : (wordL i).length ≤ 5 := by
  unfold wordL
  repeat' split
  all_goals simp
theorem text_le (s : Slt) (ok : s.Ok) : (textS s).length ≤ 1000 := by
  have h1 := dec_le 19 s.ver.toNat (by have := ok.ver0; have := ok.ver1; omega)
  have h2 := dec_le 19 s.sz.toNat (by have := ok.sz0; have := ok.sz1; omega)
  have h3 := dec_le 19 s.tr.toNat (by have := ok.tr0; have := ok.tr1; omega)
  have h4 := word_le s.st
  have h5 := word_le 2
  have h6 := word_le 3
  have h7 := textOf_len s.dig
  have h8 := ok.dig
  unfold textS imgL
  repeat' split
  all_goals
    (try simp only [List.length_append, List.length_cons, List.length_nil])
    omega
set_option maxRecDepth 100000 in
set_option maxHeartbeats 8000000 in
theorem walk_slotTexts (W : World) (nv : NV W) {H : Type} {enc : TypeId × Value → H} {v0 v1 : Value} (a0 : Arg enc Tryd.prog W 26 v0) (a1 : Arg enc Tryd.prog W 9 v1) :
    Calls Tryd.prog 10 #[v0, v1] W fun e w' => e = .returned (.bool true) ∧ Below W.heap.size W w' := by
  obtain ⟨s, rfl, ok⟩ := a0.slot
  obtain ⟨t, rfl, ht⟩ := a1.text Tryd.underlying9
  have tb := TB.start nv.tabs
  have h0 := (St.start W).alloc (.cells s.cells 26)
  obtain ⟨b, hb⟩ : ∃ b, W.heap.size = b := ⟨_, rfl⟩
  rw [hb] at h0
  have kA := slot_alive nv.sv h0
  have SVV := Lib.hid nv.sv; have TBB := Lib.hid tb; have NVV := Lib.hid nv
  have KA := Lib.hid kA; have H0 := Lib.hid h0; have HB := Lib.hid hb
  have hc : s.val = .agg s.cells := rfl
  rw [hc]
  have hmi := slot_info (s := s) ok.dig
  have os := Slt.one s
  have IS := Lib.hid hmi; have OS := Lib.hid os
  clear kA h0 nv tb a0 a1 hc hmi os hb
  go_enter Tryd.func10, Tryd.ntmps10
  go_wp2_with fail
  rw [HB.out]
  refine KA.out.mono ?_
  rintro e w1 ⟨rfl, h1⟩
  have HX := Lib.hid h1
  have HF : Hid (Below W.heap.size W w1) := Lib.hid (h1.below (Le.refl _))
  clear KA h1 H0
  by_cases g1 : 300 < t.size
  · have g1' : (300 : Int) < (t.size : Int) := by omega
    clear g1
    go_wp2_with fail
    go_ret
    exact ⟨rfl, HF.out⟩
  have g1' : ¬ ((300 : Int) < (t.size : Int)) := by omega
  clear HF
  have kP := fun (v : World) (F : List (Nat × Obj)) (hv : St W v (fun b => W.heap[b]?) F) => slot_parse SVV.out t (by omega) hv
  have kI := fun (v : World) (F : List (Nat × Obj)) (hv : St W v (fun b => W.heap[b]?) F) => slot_index TBB.out NVV.out.tc NVV.out.n0 NVV.out.n1 t (by omega) hv
  have kJ := fun (v : World) (F : List (Nat × Obj)) (hv : St W v (fun b => W.heap[b]?) F) => ref_index TBB.out NVV.out.tc t (by omega) hv
  generalize idxOf t = ix at *
  have qi : (ix == ix) = true := beq_self_eq_true _
  have kR := fun (v : World) (F : List (Nat × Obj)) (hv : St W v (fun b => W.heap[b]?) F) => ref_right s ok hv
  have kT := fun (v : World) (F : List (Nat × Obj)) (hv : St W v (fun b => W.heap[b]?) F) => ref_text s ok hv
  have htl := text_le s ok
  have kQ := fun (v : World) (F : List (Nat × Obj)) (hv : St W v (fun b => W.heap[b]?) F) => slot_parse SVV.out (⟨(textS s).toArray⟩ : ByteArray) (by simp [ByteArray.size]; omega) hv
  have hpt := parse_text s
  have qs := fun w => eq_slot s s ok.dig ok.dig w
  rw [same_refl] at qs
  have qz : ∀ w, (Op.equalIn 10000 26 (.agg zS.cells) (.agg #[.int .i64 0, .int .i64 0, .int .u64 0, .int .i64 0, .int .u8 0, .int .u8 0, .int .u8 0, .int .u8 0, .int .u8 0, .int .u8 0, .int .u8 0, .int .u8 0, .int .u8 0, .int .u8 0, .int .u8 0, .int .u8 0, .int .u8 0, .int .u8 0, .int .u8 0, .int .u8 0, .int .u8 0, .int .u8 0, .int .u8 0, .int .u8 0, .int .u8 0, .int .u8 0, .int .u8 0, .int .u8 0, .int .u8 0, .int .u8 0, .int .u8 0, .int .u8 0, .int .u8 0, .int .u8 0, .int .u8 0, .int .u8 0])).run Tryd.prog w = .ok true w := fun w => by
    rw [bare_lit]
    have := eq_slot zS zS zeros_len zeros_len w
    rw [same_refl] at this
    exact this
  generalize (⟨(textS s).toArray⟩ : ByteArray) = tx at *
  unfold Slt.val at kR kT
  have KP := Lib.hid kP; have KI := Lib.hid kI; have KJ := Lib.hid kJ; have KR := Lib.hid kR; have KT := Lib.hid kT; have KQ := Lib.hid kQ; have HPT := Lib.hid hpt; have OK := Lib.hid ok; have QS := Lib.hid qs; have QZ := Lib.hid qz
  clear kP kI kJ kR kT kQ htl hpt ok qs qz g1 ht NVV TBB SVV
  have fS : 0 + (s).cells.size ≤ (#[.int .i64 0, .int .i64 0, .int .u64 0, .int .i64 0, .int .u8 0, .int .u8 0, .int .u8 0, .int .u8 0, .int .u8 0, .int .u8 0, .int .u8 0, .int .u8 0, .int .u8 0, .int .u8 0, .int .u8 0, .int .u8 0, .int .u8 0, .int .u8 0, .int .u8 0, .int .u8 0, .int .u8 0, .int .u8 0, .int .u8 0, .int .u8 0, .int .u8 0, .int .u8 0, .int .u8 0, .int .u8 0, .int .u8 0, .int .u8 0, .int .u8 0, .int .u8 0, .int .u8 0, .int .u8 0, .int .u8 0, .int .u8 0] : Array Value).size := by rw [bare_lit]; exact (slot_fit (s := zS) (t := s) zeros_len OK.out.dig).1
  have mS : setMany #[.int .i64 0, .int .i64 0, .int .u64 0, .int .i64 0, .int .u8 0, .int .u8 0, .int .u8 0, .int .u8 0, .int .u8 0, .int .u8 0, .int .u8 0, .int .u8 0, .int .u8 0, .int .u8 0, .int .u8 0, .int .u8 0, .int .u8 0, .int .u8 0, .int .u8 0, .int .u8 0, .int .u8 0, .int .u8 0, .int .u8 0, .int .u8 0, .int .u8 0, .int .u8 0, .int .u8 0, .int .u8 0, .int .u8 0, .int .u8 0, .int .u8 0, .int .u8 0, .int .u8 0, .int .u8 0, .int .u8 0, .int .u8 0] 0 (s).cells.toList = (s).cells := by rw [bare_lit]; exact (slot_fit (s := zS) (t := s) zeros_len OK.out.dig).2
  have FSl := Lib.hid fS; have MS := Lib.hid mS
  clear fS mS
  go_wp2_with fail
  refine (KP.out _ _ HX.out).mono ?_
  have hps := parseS.eq_1 t
  have hcase : (∃ x : Slt, parseS t = (x, 0) ∧ rightS x = true ∧ (⟨(textS x).toArray⟩ : ByteArray) = t ∧ x.Ok) ∨ (∃ z : Slt, parseS t = (z, 101) ∧ z.dig.length = 32 ∧ ∀ w, (Op.equalIn 10000 26 (.agg z.cells) (.agg #[.int .i64 0, .int .i64 0, .int .u64 0, .int .i64 0, .int .u8 0, .int .u8 0, .int .u8 0, .int .u8 0, .int .u8 0, .int .u8 0, .int .u8 0, .int .u8 0, .int .u8 0, .int .u8 0, .int .u8 0, .int .u8 0, .int .u8 0, .int .u8 0, .int .u8 0, .int .u8 0, .int .u8 0, .int .u8 0, .int .u8 0, .int .u8 0, .int .u8 0, .int .u8 0, .int .u8 0, .int .u8 0, .int .u8 0, .int .u8 0, .int .u8 0, .int .u8 0, .int .u8 0, .int .u8 0, .int .u8 0, .int .u8 0])).run Tryd.prog w = .ok true w) := by
    by_cases hh : (rightS (pS (splO t)) && (textS (pS (splO t)) == t.data.toList)) = true
    · rw [if_pos hh] at hps
      simp only [Bool.and_eq_true, beq_iff_eq] at hh
      refine .inl ⟨_, hps, hh.1, ?_, pS_ok _⟩
      rw [hh.2]
    · rw [if_neg hh] at hps
      exact .inr ⟨zS, hps, zeros_len, QZ.out⟩
  clear hps
  rcases hcase with ⟨x, hpx, hrx, htx, okx⟩ | ⟨z, hpx, lz, qz⟩
  · rw [hpx]
    rintro e w2 ⟨rfl, h2⟩
    have kRx := fun (v : World) (F : List (Nat × Obj)) (hv : St W v (fun b => W.heap[b]?) F) => ref_right x okx hv
    have kTx := fun (v : World) (F : List (Nat × Obj)) (hv : St W v (fun b => W.heap[b]?) F) => ref_text x okx hv
    rw [hrx] at kRx
    rw [htx] at kTx
    unfold Slt.val at kRx kTx
    have HXn := Lib.hid h2
    clear HX
    have HX := Lib.hid HXn.out
    clear HXn h2
    have KRX := Lib.hid kRx; have KTX := Lib.hid kTx
    have lx := okx.dig
    clear kRx kTx hrx htx hpx
    have fX : 0 + (x).cells.size ≤ (#[.int .i64 0, .int .i64 0, .int .u64 0, .int .i64 0, .int .u8 0, .int .u8 0, .int .u8 0, .int .u8 0, .int .u8 0, .int .u8 0, .int .u8 0, .int .u8 0, .int .u8 0, .int .u8 0, .int .u8 0, .int .u8 0, .int .u8 0, .int .u8 0, .int .u8 0, .int .u8 0, .int .u8 0, .int .u8 0, .int .u8 0, .int .u8 0, .int .u8 0, .int .u8 0, .int .u8 0, .int .u8 0, .int .u8 0, .int .u8 0, .int .u8 0, .int .u8 0, .int .u8 0, .int .u8 0, .int .u8 0, .int .u8 0] : Array Value).size := by rw [bare_lit]; exact (slot_fit (s := zS) (t := x) zeros_len lx).1
    have mX : setMany #[.int .i64 0, .int .i64 0, .int .u64 0, .int .i64 0, .int .u8 0, .int .u8 0, .int .u8 0, .int .u8 0, .int .u8 0, .int .u8 0, .int .u8 0, .int .u8 0, .int .u8 0, .int .u8 0, .int .u8 0, .int .u8 0, .int .u8 0, .int .u8 0, .int .u8 0, .int .u8 0, .int .u8 0, .int .u8 0, .int .u8 0, .int .u8 0, .int .u8 0, .int .u8 0, .int .u8 0, .int .u8 0, .int .u8 0, .int .u8 0, .int .u8 0, .int .u8 0, .int .u8 0, .int .u8 0, .int .u8 0, .int .u8 0] 0 (x).cells.toList = (x).cells := by rw [bare_lit]; exact (slot_fit (s := zS) (t := x) zeros_len lx).2
    have iX := slot_info (s := x) lx
    have oX := Slt.one x
    have FX := Lib.hid fX; have MX := Lib.hid mX; have IX := Lib.hid iX; have OX := Lib.hid oX
    clear fX mX iX oX
    have qt : (!(t.toList == t.toList)) = false := by simp
    clear okx lx
    obtain ⟨uk, huk⟩ : ∃ u, w2 = u := ⟨_, rfl⟩
    rw [huk] at HX ⊢
    clear huk
    have hA := HX.out.alloc (.cells #[.int .i64 0, .int .i64 0, .int .u64 0, .int .i64 0, .int .u8 0, .int .u8 0, .int .u8 0, .int .u8 0, .int .u8 0, .int .u8 0, .int .u8 0, .int .u8 0, .int .u8 0, .int .u8 0, .int .u8 0, .int .u8 0, .int .u8 0, .int .u8 0, .int .u8 0, .int .u8 0, .int .u8 0, .int .u8 0, .int .u8 0, .int .u8 0, .int .u8 0, .int .u8 0, .int .u8 0, .int .u8 0, .int .u8 0, .int .u8 0, .int .u8 0, .int .u8 0, .int .u8 0, .int .u8 0, .int .u8 0, .int .u8 0] 26)
    have HA := Lib.hid hA
    clear hA
    try dsimp only
    go_wp2_with (with_reducible refine wpList_store_st rfl 26 (.tmp 5) (.tmp 17) rfl (g := uk.heap.size) (off := 0) x.cells rfl rfl HA.out FX.out IX.out OX.out ?_; intro w9 h9; refine Hid.out ?_)
    refine Lib.hid ?_
    rw [MX.out] at h9
    clear HX HA
    generalize uk.heap.size = n5 at *
    obtain ⟨vn5, hvn5⟩ : ∃ v, w9 = v := ⟨_, rfl⟩
    rw [hvn5] at h9 ⊢
    clear hvn5
    have HX := Lib.hid h9
    clear h9
    go_wp2_with (first | (refine wpList_load_g (by rfl) 26 (.tmp 5) rfl (g := n5) (off := 0) rfl HX.out (cs := x.cells) (t := 26) (fr := (0, 0)) (by simp) x.cells (fun j hj => by rw [Nat.zero_add]) _ Tryd.underlying26 rfl IX.out ?_) | (with_reducible refine wpList_load_st rfl 26 (.tmp 5) rfl (g := n5) (off := 0) rfl HX.out (cs := x.cells) (t := 26) (fr := (0, 0)) (by simp) x.cells (fun j hj => by rw [Nat.zero_add]) _ Tryd.underlying26 rfl IX.out ?_))
    refine (KRX.out _ _ HX.out).mono ?_
    rintro e w9 ⟨rfl, h9⟩
    obtain ⟨u1, hu1⟩ : ∃ u, w9 = u := ⟨_, rfl⟩
    rw [hu1] at h9 ⊢
    clear hu1 HX
    have HX := Lib.hid h9
    clear h9
    go_wp2_with (first | (refine wpList_load_g (by rfl) 26 (.tmp 5) rfl (g := n5) (off := 0) rfl HX.out (cs := x.cells) (t := 26) (fr := (0, 0)) (by simp) x.cells (fun j hj => by rw [Nat.zero_add]) _ Tryd.underlying26 rfl IX.out ?_) | (with_reducible refine wpList_load_st rfl 26 (.tmp 5) rfl (g := n5) (off := 0) rfl HX.out (cs := x.cells) (t := 26) (fr := (0, 0)) (by simp) x.cells (fun j hj => by rw [Nat.zero_add]) _ Tryd.underlying26 rfl IX.out ?_))
    refine (KTX.out _ _ HX.out).mono ?_
    rintro e w9 ⟨rfl, h9⟩
    obtain ⟨u2, hu2⟩ : ∃ u, w9 = u := ⟨_, rfl⟩
    rw [hu2] at h9 ⊢
    clear hu2 HX
    have HX := Lib.hid h9
    clear h9
    cases hr : rightS s with
    | false =>
      have kR := KR.out
      rw [hr] at kR
      have KR2 := Lib.hid kR
      clear kR
      go_wp2_with (first | (first | (refine wpList_load_g (by rfl) 26 (.tmp 5) rfl (g := n5) (off := 0) rfl HX.out (cs := x.cells) (t := 26) (fr := (0, 0)) (by simp) x.cells (fun j hj => by rw [Nat.zero_add]) _ Tryd.underlying26 rfl IX.out ?_) | (with_reducible refine wpList_load_st rfl 26 (.tmp 5) rfl (g := n5) (off := 0) rfl HX.out (cs := x.cells) (t := 26) (fr := (0, 0)) (by simp) x.cells (fun j hj => by rw [Nat.zero_add]) _ Tryd.underlying26 rfl IX.out ?_)) | (first | (refine wpList_load_g (by rfl) 26 (.tmp 2) rfl (g := b) (off := 0) rfl HX.out (cs := s.cells) (t := 26) (fr := (0, 0)) (by simp) s.cells (fun j hj => by rw [Nat.zero_add]) _ Tryd.underlying26 rfl IS.out ?_) | (with_reducible refine wpList_load_st rfl 26 (.tmp 2) rfl (g := b) (off := 0) rfl HX.out (cs := s.cells) (t := 26) (fr := (0, 0)) (by simp) s.cells (fun j hj => by rw [Nat.zero_add]) _ Tryd.underlying26 rfl IS.out ?_)))
      refine (KR2.out _ _ HX.out).mono ?_
      rintro e w9 ⟨rfl, h9⟩
      obtain ⟨ur, hur⟩ : ∃ u, w9 = u := ⟨_, rfl⟩
      rw [hur] at h9 ⊢
      clear hur HX
      have HX := Lib.hid h9
      clear h9
      go_wp2_with fail
      refine (KI.out _ _ HX.out).mono ?_
      rintro e w9 ⟨rfl, h9⟩
      obtain ⟨ui, hui⟩ : ∃ u, w9 = u := ⟨_, rfl⟩
      rw [hui] at h9 ⊢
      clear hui HX
      have HX := Lib.hid h9
      clear h9
      go_wp2_with fail
      refine (KJ.out _ _ HX.out).mono ?_
      rintro e w9 ⟨rfl, h9⟩
      obtain ⟨uj, huj⟩ : ∃ u, w9 = u := ⟨_, rfl⟩
      rw [huj] at h9 ⊢
      clear huj HX
      have HX := Lib.hid h9
      clear h9
      have HF : Hid (Below W.heap.size W uj) := Lib.hid (HX.out.below (Le.refl _))
      go_wp2_with fail
      go_ret
      exact ⟨rfl, HF.out⟩
    | true =>
      have kR := KR.out
      rw [hr] at kR
      have KR2 := Lib.hid kR
      clear kR
      have kQ := KQ.out
      rw [HPT.out hr OK.out.dig] at kQ
      have KQ2 := Lib.hid kQ
      clear kQ
      go_wp2_with (first | (first | (refine wpList_load_g (by rfl) 26 (.tmp 5) rfl (g := n5) (off := 0) rfl HX.out (cs := x.cells) (t := 26) (fr := (0, 0)) (by simp) x.cells (fun j hj => by rw [Nat.zero_add]) _ Tryd.underlying26 rfl IX.out ?_) | (with_reducible refine wpList_load_st rfl 26 (.tmp 5) rfl (g := n5) (off := 0) rfl HX.out (cs := x.cells) (t := 26) (fr := (0, 0)) (by simp) x.cells (fun j hj => by rw [Nat.zero_add]) _ Tryd.underlying26 rfl IX.out ?_)) | (first | (refine wpList_load_g (by rfl) 26 (.tmp 2) rfl (g := b) (off := 0) rfl HX.out (cs := s.cells) (t := 26) (fr := (0, 0)) (by simp) s.cells (fun j hj => by rw [Nat.zero_add]) _ Tryd.underlying26 rfl IS.out ?_) | (with_reducible refine wpList_load_st rfl 26 (.tmp 2) rfl (g := b) (off := 0) rfl HX.out (cs := s.cells) (t := 26) (fr := (0, 0)) (by simp) s.cells (fun j hj => by rw [Nat.zero_add]) _ Tryd.underlying26 rfl IS.out ?_)))
      refine (KR2.out _ _ HX.out).mono ?_
      rintro e w9 ⟨rfl, h9⟩
      obtain ⟨ur, hur⟩ : ∃ u, w9 = u := ⟨_, rfl⟩
      rw [hur] at h9 ⊢
      clear hur HX
      have HX := Lib.hid h9
      clear h9
      go_wp2_with (first | (refine wpList_load_g (by rfl) 26 (.tmp 2) rfl (g := b) (off := 0) rfl HX.out (cs := s.cells) (t := 26) (fr := (0, 0)) (by simp) s.cells (fun j hj => by rw [Nat.zero_add]) _ Tryd.underlying26 rfl IS.out ?_) | (with_reducible refine wpList_load_st rfl 26 (.tmp 2) rfl (g := b) (off := 0) rfl HX.out (cs := s.cells) (t := 26) (fr := (0, 0)) (by simp) s.cells (fun j hj => by rw [Nat.zero_add]) _ Tryd.underlying26 rfl IS.out ?_))
      refine (KT.out _ _ HX.out).mono ?_
      rintro e w9 ⟨rfl, h9⟩
      obtain ⟨ut, hut⟩ : ∃ u, w9 = u := ⟨_, rfl⟩
      rw [hut] at h9 ⊢
      clear hut HX
      have HX := Lib.hid h9
      clear h9
      go_wp2_with fail
      refine (KQ2.out _ _ HX.out).mono ?_
      rintro e w9 ⟨rfl, h9⟩
      obtain ⟨uq, huq⟩ : ∃ u, w9 = u := ⟨_, rfl⟩
      rw [huq] at h9 ⊢
      clear huq HX
      have HX := Lib.hid h9
      clear h9
      have hA := HX.out.alloc (.cells #[.int .i64 0, .int .i64 0, .int .u64 0, .int .i64 0, .int .u8 0, .int .u8 0, .int .u8 0, .int .u8 0, .int .u8 0, .int .u8 0, .int .u8 0, .int .u8 0, .int .u8 0, .int .u8 0, .int .u8 0, .int .u8 0, .int .u8 0, .int .u8 0, .int .u8 0, .int .u8 0, .int .u8 0, .int .u8 0, .int .u8 0, .int .u8 0, .int .u8 0, .int .u8 0, .int .u8 0, .int .u8 0, .int .u8 0, .int .u8 0, .int .u8 0, .int .u8 0, .int .u8 0, .int .u8 0, .int .u8 0, .int .u8 0] 26)
      have HA := Lib.hid hA
      clear hA
      try dsimp only
      go_wp2_with (with_reducible refine wpList_store_st rfl 26 (.tmp 7) (.tmp 57) rfl (g := uq.heap.size) (off := 0) s.cells rfl rfl HA.out FSl.out IS.out OS.out ?_; intro w9 h9; refine Hid.out ?_)
      refine Lib.hid ?_
      rw [MS.out] at h9
      clear HX HA
      generalize uq.heap.size = n7 at *
      obtain ⟨vn7, hvn7⟩ : ∃ v, w9 = v := ⟨_, rfl⟩
      rw [hvn7] at h9 ⊢
      clear hvn7
      have HX := Lib.hid h9
      clear h9
      have qs' := QS.out
      go_wp2_with (first | (first | (refine wpList_load_g (by rfl) 26 (.tmp 7) rfl (g := n7) (off := 0) rfl HX.out (cs := s.cells) (t := 26) (fr := (0, 0)) (by simp) s.cells (fun j hj => by rw [Nat.zero_add]) _ Tryd.underlying26 rfl IS.out ?_) | (with_reducible refine wpList_load_st rfl 26 (.tmp 7) rfl (g := n7) (off := 0) rfl HX.out (cs := s.cells) (t := 26) (fr := (0, 0)) (by simp) s.cells (fun j hj => by rw [Nat.zero_add]) _ Tryd.underlying26 rfl IS.out ?_)) | (first | (refine wpList_load_g (by rfl) 26 (.tmp 2) rfl (g := b) (off := 0) rfl HX.out (cs := s.cells) (t := 26) (fr := (0, 0)) (by simp) s.cells (fun j hj => by rw [Nat.zero_add]) _ Tryd.underlying26 rfl IS.out ?_) | (with_reducible refine wpList_load_st rfl 26 (.tmp 2) rfl (g := b) (off := 0) rfl HX.out (cs := s.cells) (t := 26) (fr := (0, 0)) (by simp) s.cells (fun j hj => by rw [Nat.zero_add]) _ Tryd.underlying26 rfl IS.out ?_)))
      refine (KI.out _ _ HX.out).mono ?_
      rintro e w9 ⟨rfl, h9⟩
      obtain ⟨ui, hui⟩ : ∃ u, w9 = u := ⟨_, rfl⟩
      rw [hui] at h9 ⊢
      clear hui HX
      have HX := Lib.hid h9
      clear h9
      go_wp2_with fail
      refine (KJ.out _ _ HX.out).mono ?_
      rintro e w9 ⟨rfl, h9⟩
      obtain ⟨uj, huj⟩ : ∃ u, w9 = u := ⟨_, rfl⟩
      rw [huj] at h9 ⊢
      clear huj HX
      have HX := Lib.hid h9
      clear h9
      have HF : Hid (Below W.heap.size W uj) := Lib.hid (HX.out.below (Le.refl _))
      go_wp2_with fail
      go_ret
      exact ⟨rfl, HF.out⟩
  · rw [hpx]
    rintro e w2 ⟨rfl, h2⟩
    have HXn := Lib.hid h2
    clear HX
    have HX := Lib.hid HXn.out
    clear HXn h2 hpx
    have QZZ := Lib.hid qz
    clear qz
    have fZ : 0 + (z).cells.size ≤ (#[.int .i64 0, .int .i64 0, .int .u64 0, .int .i64 0, .int .u8 0, .int .u8 0, .int .u8 0, .int .u8 0, .int .u8 0, .int .u8 0, .int .u8 0, .int .u8 0, .int .u8 0, .int .u8 0, .int .u8 0, .int .u8 0, .int .u8 0, .int .u8 0, .int .u8 0, .int .u8 0, .int .u8 0, .int .u8 0, .int .u8 0, .int .u8 0, .int .u8 0, .int .u8 0, .int .u8 0, .int .u8 0, .int .u8 0, .int .u8 0, .int .u8 0, .int .u8 0, .int .u8 0, .int .u8 0, .int .u8 0, .int .u8 0] : Array Value).size := by rw [bare_lit]; exact (slot_fit (s := zS) (t := z) zeros_len lz).1
    have mZ : setMany #[.int .i64 0, .int .i64 0, .int .u64 0, .int .i64 0, .int .u8 0, .int .u8 0, .int .u8 0, .int .u8 0, .int .u8 0, .int .u8 0, .int .u8 0, .int .u8 0, .int .u8 0, .int .u8 0, .int .u8 0, .int .u8 0, .int .u8 0, .int .u8 0, .int .u8 0, .int .u8 0, .int .u8 0, .int .u8 0, .int .u8 0, .int .u8 0, .int .u8 0, .int .u8 0, .int .u8 0, .int .u8 0, .int .u8 0, .int .u8 0, .int .u8 0, .int .u8 0, .int .u8 0, .int .u8 0, .int .u8 0, .int .u8 0] 0 (z).cells.toList = (z).cells := by rw [bare_lit]; exact (slot_fit (s := zS) (t := z) zeros_len lz).2
    have iZ := slot_info (s := z) lz
    have oZ := Slt.one z
    have FZ := Lib.hid fZ; have MZ := Lib.hid mZ; have IZ := Lib.hid iZ; have OZ := Lib.hid oZ
    clear fZ mZ iZ oZ
    obtain ⟨uk, huk⟩ : ∃ u, w2 = u := ⟨_, rfl⟩
    rw [huk] at HX ⊢
    clear huk
    have hA := HX.out.alloc (.cells #[.int .i64 0, .int .i64 0, .int .u64 0, .int .i64 0, .int .u8 0, .int .u8 0, .int .u8 0, .int .u8 0, .int .u8 0, .int .u8 0, .int .u8 0, .int .u8 0, .int .u8 0, .int .u8 0, .int .u8 0, .int .u8 0, .int .u8 0, .int .u8 0, .int .u8 0, .int .u8 0, .int .u8 0, .int .u8 0, .int .u8 0, .int .u8 0, .int .u8 0, .int .u8 0, .int .u8 0, .int .u8 0, .int .u8 0, .int .u8 0, .int .u8 0, .int .u8 0, .int .u8 0, .int .u8 0, .int .u8 0, .int .u8 0] 26)
    have HA := Lib.hid hA
    clear hA
    try dsimp only
    go_wp2_with (with_reducible refine wpList_store_st rfl 26 (.tmp 5) (.tmp 17) rfl (g := uk.heap.size) (off := 0) z.cells rfl rfl HA.out FZ.out IZ.out OZ.out ?_; intro w9 h9; refine Hid.out ?_)
    refine Lib.hid ?_
    rw [MZ.out] at h9
    clear HX HA
    generalize uk.heap.size = n5 at *
    obtain ⟨vn5, hvn5⟩ : ∃ v, w9 = v := ⟨_, rfl⟩
    rw [hvn5] at h9 ⊢
    clear hvn5
    have HX := Lib.hid h9
    clear h9
    have qz' := QZZ.out
    clear lz
    cases hr : rightS s with
    | false =>
      have kR := KR.out
      rw [hr] at kR
      have KR2 := Lib.hid kR
      clear kR
      go_wp2_with (first | (with_reducible refine wpList_load_at 39 rfl (by kernel_rfl) 26 (.tmp 5) rfl (g := n5) (off := 0) rfl HX.out (cs := z.cells) (t := 26) (fr := (0, 0)) (by simp) z.cells (fun j hj => by rw [Nat.zero_add]) _ Tryd.underlying26 rfl IZ.out ?_) | (with_reducible refine wpList_load_st rfl 26 (.tmp 2) rfl (g := b) (off := 0) rfl HX.out (cs := s.cells) (t := 26) (fr := (0, 0)) (by simp) s.cells (fun j hj => by rw [Nat.zero_add]) _ Tryd.underlying26 rfl IS.out ?_))
      refine (KR2.out _ _ HX.out).mono ?_
      rintro e w9 ⟨rfl, h9⟩
      obtain ⟨ur, hur⟩ : ∃ u, w9 = u := ⟨_, rfl⟩
      rw [hur] at h9 ⊢
      clear hur HX
      have HX := Lib.hid h9
      clear h9
      go_wp2_with fail
      refine (KI.out _ _ HX.out).mono ?_
      rintro e w9 ⟨rfl, h9⟩
      obtain ⟨ui, hui⟩ : ∃ u, w9 = u := ⟨_, rfl⟩
      rw [hui] at h9 ⊢
      clear hui HX
      have HX := Lib.hid h9
      clear h9
      go_wp2_with fail
      refine (KJ.out _ _ HX.out).mono ?_
      rintro e w9 ⟨rfl, h9⟩
      obtain ⟨uj, huj⟩ : ∃ u, w9 = u := ⟨_, rfl⟩
      rw [huj] at h9 ⊢
      clear huj HX
      have HX := Lib.hid h9
      clear h9
      have HF : Hid (Below W.heap.size W uj) := Lib.hid (HX.out.below (Le.refl _))
      go_wp2_with fail
      go_ret
      exact ⟨rfl, HF.out⟩
    | true =>
      have kR := KR.out
      rw [hr] at kR
      have KR2 := Lib.hid kR
      clear kR
      have kQ := KQ.out
      rw [HPT.out hr OK.out.dig] at kQ
      have KQ2 := Lib.hid kQ
      clear kQ
      go_wp2_with (first | (with_reducible refine wpList_load_at 39 rfl (by kernel_rfl) 26 (.tmp 5) rfl (g := n5) (off := 0) rfl HX.out (cs := z.cells) (t := 26) (fr := (0, 0)) (by simp) z.cells (fun j hj => by rw [Nat.zero_add]) _ Tryd.underlying26 rfl IZ.out ?_) | (with_reducible refine wpList_load_st rfl 26 (.tmp 2) rfl (g := b) (off := 0) rfl HX.out (cs := s.cells) (t := 26) (fr := (0, 0)) (by simp) s.cells (fun j hj => by rw [Nat.zero_add]) _ Tryd.underlying26 rfl IS.out ?_))
      refine (KR2.out _ _ HX.out).mono ?_
      rintro e w9 ⟨rfl, h9⟩
      obtain ⟨ur, hur⟩ : ∃ u, w9 = u := ⟨_, rfl⟩
      rw [hur] at h9 ⊢
      clear hur HX
      have HX := Lib.hid h9
      clear h9
      go_wp2_with (first | (refine wpList_load_g (by rfl) 26 (.tmp 2) rfl (g := b) (off := 0) rfl HX.out (cs := s.cells) (t := 26) (fr := (0, 0)) (by simp) s.cells (fun j hj => by rw [Nat.zero_add]) _ Tryd.underlying26 rfl IS.out ?_) | (with_reducible refine wpList_load_st rfl 26 (.tmp 2) rfl (g := b) (off := 0) rfl HX.out (cs := s.cells) (t := 26) (fr := (0, 0)) (by simp) s.cells (fun j hj => by rw [Nat.zero_add]) _ Tryd.underlying26 rfl IS.out ?_))
      refine (KT.out _ _ HX.out).mono ?_
      rintro e w9 ⟨rfl, h9⟩
      obtain ⟨ut, hut⟩ : ∃ u, w9 = u := ⟨_, rfl⟩
      rw [hut] at h9 ⊢
      clear hut HX
      have HX := Lib.hid h9
      clear h9
      go_wp2_with fail
      refine (KQ2.out _ _ HX.out).mono ?_
      rintro e w9 ⟨rfl, h9⟩
      obtain ⟨uq, huq⟩ : ∃ u, w9 = u := ⟨_, rfl⟩
      rw [huq] at h9 ⊢
      clear huq HX
      have HX := Lib.hid h9
      clear h9
      have hA := HX.out.alloc (.cells #[.int .i64 0, .int .i64 0, .int .u64 0, .int .i64 0, .int .u8 0, .int .u8 0, .int .u8 0, .int .u8 0, .int .u8 0, .int .u8 0, .int .u8 0, .int .u8 0, .int .u8 0, .int .u8 0, .int .u8 0, .int .u8 0, .int .u8 0, .int .u8 0, .int .u8 0, .int .u8 0, .int .u8 0, .int .u8 0, .int .u8 0, .int .u8 0, .int .u8 0, .int .u8 0, .int .u8 0, .int .u8 0, .int .u8 0, .int .u8 0, .int .u8 0, .int .u8 0, .int .u8 0, .int .u8 0, .int .u8 0, .int .u8 0] 26)
      have HA := Lib.hid hA
      clear hA
      try dsimp only
      go_wp2_with (with_reducible refine wpList_store_st rfl 26 (.tmp 7) (.tmp 57) rfl (g := uq.heap.size) (off := 0) s.cells rfl rfl HA.out FSl.out IS.out OS.out ?_; intro w9 h9; refine Hid.out ?_)
      refine Lib.hid ?_
      rw [MS.out] at h9
      clear HX HA
      generalize uq.heap.size = n7 at *
      obtain ⟨vn7, hvn7⟩ : ∃ v, w9 = v := ⟨_, rfl⟩
      rw [hvn7] at h9 ⊢
      clear hvn7
      have HX := Lib.hid h9
      clear h9
      have qs' := QS.out
      go_wp2_with (first | (first | (refine wpList_load_g (by rfl) 26 (.tmp 7) rfl (g := n7) (off := 0) rfl HX.out (cs := s.cells) (t := 26) (fr := (0, 0)) (by simp) s.cells (fun j hj => by rw [Nat.zero_add]) _ Tryd.underlying26 rfl IS.out ?_) | (with_reducible refine wpList_load_st rfl 26 (.tmp 7) rfl (g := n7) (off := 0) rfl HX.out (cs := s.cells) (t := 26) (fr := (0, 0)) (by simp) s.cells (fun j hj => by rw [Nat.zero_add]) _ Tryd.underlying26 rfl IS.out ?_)) | (first | (refine wpList_load_g (by rfl) 26 (.tmp 2) rfl (g := b) (off := 0) rfl HX.out (cs := s.cells) (t := 26) (fr := (0, 0)) (by simp) s.cells (fun j hj => by rw [Nat.zero_add]) _ Tryd.underlying26 rfl IS.out ?_) | (with_reducible refine wpList_load_st rfl 26 (.tmp 2) rfl (g := b) (off := 0) rfl HX.out (cs := s.cells) (t := 26) (fr := (0, 0)) (by simp) s.cells (fun j hj => by rw [Nat.zero_add]) _ Tryd.underlying26 rfl IS.out ?_)))
      refine (KI.out _ _ HX.out).mono ?_
      rintro e w9 ⟨rfl, h9⟩
      obtain ⟨ui, hui⟩ : ∃ u, w9 = u := ⟨_, rfl⟩
      rw [hui] at h9 ⊢
      clear hui HX
      have HX := Lib.hid h9
      clear h9
      go_wp2_with fail
      refine (KJ.out _ _ HX.out).mono ?_
      rintro e w9 ⟨rfl, h9⟩
      obtain ⟨uj, huj⟩ : ∃ u, w9 = u := ⟨_, rfl⟩
      rw [huj] at h9 ⊢
      clear huj HX
      have HX := Lib.hid h9
      clear h9
      have HF : Hid (Below W.heap.size W uj) := Lib.hid (HX.out.below (Le.refl _))
      go_wp2_with fail
      go_ret
      exact ⟨rfl, HF.out⟩
end Go.Proofs.YtpjfmgifddoppaaDoor
