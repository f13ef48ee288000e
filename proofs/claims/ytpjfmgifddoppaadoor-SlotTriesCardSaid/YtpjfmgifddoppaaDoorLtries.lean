/- SlotTries: the walk of the law. -/
import Derived.Test.YtpjfmgifddoppaaDoorSlX
namespace Go.Proofs.YtpjfmgifddoppaaDoor
set_option linter.unusedVariables false
set_option linter.unusedSimpArgs false
open Go.RowKit Go.Lib

theorem hg_slot (s : Slt) (d : List UInt8) (h : s.dig = d) : ∀ j, j < (bcells d).size → s.cells[4 + j]? = (bcells d)[j]? := fun j hj => by rw [Slt.at4, h]; unfold bcells; rw [List.getElem?_toArray]
/-- A slot that is to be tried so often. -/
def rdy (s : Slt) (n : Nat) : Slt := ⟨2, n, s.ver, s.sz, s.dig⟩
def gdy (s : Slt) : Slt := ⟨3, 0, s.ver, s.sz, s.dig⟩
theorem rdy_right (s : Slt) (hr : rightS ⟨2, s.tr, s.ver, s.sz, s.dig⟩ = true) (n : Nat) (hn : n ≤ 7) : rightS (rdy s n) = true := by
  have := right_img _ hr (.inl rfl)
  unfold rdy rightS imgS
  simp at this ⊢
  omega
theorem gdy_right (s : Slt) (hr : rightS ⟨2, s.tr, s.ver, s.sz, s.dig⟩ = true) : rightS (gdy s) = true := by
  have := right_img _ hr (.inl rfl)
  unfold gdy rightS imgS
  simp at this ⊢
  omega
theorem rdy_ok (s : Slt) (ok : s.Ok) (n : Nat) (hn : n ≤ 7) : (rdy s n).Ok := by
  obtain ⟨a, b, c, d, e, f, g, h, i⟩ := ok
  refine ⟨a, by simp [rdy], by simp [rdy], ?_, ?_, f, g, h, i⟩
  · show _ ≤ (n : Int); omega
  · show (n : Int) ≤ _; omega
theorem gdy_ok (s : Slt) (ok : s.Ok) : (gdy s).Ok := by
  obtain ⟨a, b, c, d, e, f, g, h, i⟩ := ok
  exact ⟨a, by simp [gdy], by simp [gdy], by simp [gdy], by simp [gdy], f, g, h, i⟩
theorem try_rdy (s : Slt) (n : Nat) (h : rightS (rdy s (n + 1)) = true) : tryS (rdy s (n + 1)) = (rdy s n, 0) := by
  unfold tryS
  rw [h, if_pos]
  · unfold rdy
    simp
  · unfold rdy
    simp
    omega
theorem try_rdy0 (s : Slt) : tryS (rdy s 0) = (zS, 101) := by
  unfold tryS rdy
  simp
theorem good_rdy (s : Slt) (n : Nat) (h : rightS (rdy s n) = true) : goodS (rdy s n) = (gdy s, 0) := by
  unfold goodS
  rw [h, if_pos]
  · rfl
  · rfl
theorem try_gdy (s : Slt) : tryS (gdy s) = (zS, 101) := by
  unfold tryS gdy
  simp
theorem bad_rdy (s : Slt) (n : Nat) (h : rightS (rdy s n) = true) : badS (rdy s n) = (bareS 4, 0) := by
  unfold badS
  rw [h, if_pos]
  rfl
theorem boot_rdy (s : Slt) (n : Nat) (h : rightS (rdy s (n + 1)) = true) : bootS (rdy s (n + 1)) = true := by
  unfold bootS
  rw [h]
  unfold rdy
  simp
theorem boot_rdy0 (s : Slt) : bootS (rdy s 0) = false := by
  unfold bootS rdy
  simp
theorem boot_gdy (s : Slt) (h : rightS (gdy s) = true) : bootS (gdy s) = true := by
  unfold bootS
  rw [h]
  rfl
theorem boot_bad : bootS (bareS 4) = false := by
  unfold bootS bareS
  simp

set_option maxRecDepth 100000 in
set_option maxHeartbeats 8000000 in
theorem walk_slotTries (W : World) (sv : SV0 W) {H : Type} {enc : TypeId × Value → H} {v0 v1 : Value} (a0 : Arg enc Tryd.prog W 26 v0) (a1 : Arg enc Tryd.prog W 3 v1) :
    Calls Tryd.prog 4 #[v0, v1] W fun e w' => e = .returned (.bool true) ∧ Below W.heap.size W w' := by
  obtain ⟨s, rfl, ok⟩ := a0.slot
  obtain ⟨af, rfl, haf⟩ := a1.int Tryd.underlying3
  have h0 := (St.start W).alloc (.cells s.cells 26)
  obtain ⟨b, hb⟩ : ∃ b, W.heap.size = b := ⟨_, rfl⟩
  rw [hb] at h0
  have kA := slot_alive sv h0
  obtain ⟨p1, hp1⟩ : ∃ p, (⟨2, s.tr, s.ver, s.sz, s.dig⟩ : Slt) = p := ⟨_, rfl⟩
  have okx : p1.Ok := by rw [← hp1]; exact ⟨ok.dig, by simp, by simp, ok.tr0, ok.tr1, ok.ver0, ok.ver1, ok.sz0, ok.sz1⟩
  have kRd := fun (v : World) (F : List (Nat × Obj)) (hv : St W v (fun b => W.heap[b]?) F) => slot_ready s.ver s.sz s.tr s.dig (by rw [hp1]; exact okx) hv
  simp only [hp1] at kRd
  have hmd : (Tryd.prog.info? 24).map (·.size) = some (bcells s.dig).size := by rw [bcells_size, ok.dig]; kernel_rfl
  have hg4 := hg_slot s s.dig rfl
  have hck := chkS.eq_1 p1
  have hzz := zS_ok
  have qz := fun w => eq_slot zS zS zeros_len zeros_len w
  rw [same_refl, show zS.cells = #[.int .i64 0, .int .i64 0, .int .u64 0, .int .i64 0, .int .u8 0, .int .u8 0, .int .u8 0, .int .u8 0, .int .u8 0, .int .u8 0, .int .u8 0, .int .u8 0, .int .u8 0, .int .u8 0, .int .u8 0, .int .u8 0, .int .u8 0, .int .u8 0, .int .u8 0, .int .u8 0, .int .u8 0, .int .u8 0, .int .u8 0, .int .u8 0, .int .u8 0, .int .u8 0, .int .u8 0, .int .u8 0, .int .u8 0, .int .u8 0, .int .u8 0, .int .u8 0, .int .u8 0, .int .u8 0, .int .u8 0, .int .u8 0] from bare_lit 0 ▸ rfl] at qz
  have q24 : ∀ w, (Op.equalIn 10000 24 (.agg (bcells s.dig)) (.agg (bcells s.dig))).run Tryd.prog w = .ok true w := fun w => by rw [eq_bcells _ _ ok.dig ok.dig w]; simp
  obtain ⟨D, hD⟩ : ∃ D, bcells s.dig = D := ⟨_, rfl⟩
  simp only [hD] at kRd hmd hg4 q24
  have HMI := Lib.hid (slot_info (s := s) ok.dig)
  have KA := Lib.hid kA; have KRD := Lib.hid kRd; have HMD := Lib.hid hmd; have HGs := Lib.hid hg4; have OK := Lib.hid ok; have HP1 := Lib.hid hp1; have HDD := Lib.hid hD
  clear kA kRd hmd hg4 hp1 h0 a0 a1 haf hzz hD
  unfold Slt.val
  cases hR : rightS p1 with
  | false =>
    rw [hR, if_neg (by decide)] at hck
    simp only [hck] at KRD
    clear hck hR q24
    have fzS : 0 + (zS).cells.size ≤ (#[.int .i64 0, .int .i64 0, .int .u64 0, .int .i64 0, .int .u8 0, .int .u8 0, .int .u8 0, .int .u8 0, .int .u8 0, .int .u8 0, .int .u8 0, .int .u8 0, .int .u8 0, .int .u8 0, .int .u8 0, .int .u8 0, .int .u8 0, .int .u8 0, .int .u8 0, .int .u8 0, .int .u8 0, .int .u8 0, .int .u8 0, .int .u8 0, .int .u8 0, .int .u8 0, .int .u8 0, .int .u8 0, .int .u8 0, .int .u8 0, .int .u8 0, .int .u8 0, .int .u8 0, .int .u8 0, .int .u8 0, .int .u8 0] : Array Value).size := by rw [bare_lit]; exact (slot_fit (s := zS) (t := zS) zeros_len zeros_len).1
    have mzS : setMany #[.int .i64 0, .int .i64 0, .int .u64 0, .int .i64 0, .int .u8 0, .int .u8 0, .int .u8 0, .int .u8 0, .int .u8 0, .int .u8 0, .int .u8 0, .int .u8 0, .int .u8 0, .int .u8 0, .int .u8 0, .int .u8 0, .int .u8 0, .int .u8 0, .int .u8 0, .int .u8 0, .int .u8 0, .int .u8 0, .int .u8 0, .int .u8 0, .int .u8 0, .int .u8 0, .int .u8 0, .int .u8 0, .int .u8 0, .int .u8 0, .int .u8 0, .int .u8 0, .int .u8 0, .int .u8 0, .int .u8 0, .int .u8 0] 0 (zS).cells.toList = (zS).cells := by rw [bare_lit]; exact (slot_fit (s := zS) (t := zS) zeros_len zeros_len).2
    have izS := slot_info (s := zS) zeros_len
    have ozS := Slt.one zS
    have FzS := Lib.hid fzS; have MzS := Lib.hid mzS; have IzS := Lib.hid izS; have OzS := Lib.hid ozS
    clear fzS mzS izS ozS
    go_enter Tryd.func4, Tryd.ntmps4
    go_wp2_with fail
    refine KA.out.mono ?_
    rintro e w1 ⟨rfl, h1⟩
    obtain ⟨c0, c1, c2, c3⟩ := h1.slt
    have HX := Lib.hid h1
    clear KA h1 hb
    go_wp2_with (with_reducible refine wpList_load_st rfl 24 (.tmp 25) rfl (g := b) (off := 4) rfl HX.out (cs := s.cells) (t := 26) (fr := (0, 0)) (by simp) D HGs.out _ Tryd.underlying24 rfl HMD.out ?_)
    refine (KRD.out _ _ HX.out).mono ?_
    rintro e w8 ⟨rfl, h8⟩
    obtain ⟨u2, hu2⟩ : ∃ u, w8 = u := ⟨_, rfl⟩
    rw [hu2] at h8 ⊢
    clear hu2 HX
    have HX := Lib.hid h8
    clear h8
    clear c0 c1 c2 c3
    have hA := HX.out.alloc (.cells #[.int .i64 0, .int .i64 0, .int .u64 0, .int .i64 0, .int .u8 0, .int .u8 0, .int .u8 0, .int .u8 0, .int .u8 0, .int .u8 0, .int .u8 0, .int .u8 0, .int .u8 0, .int .u8 0, .int .u8 0, .int .u8 0, .int .u8 0, .int .u8 0, .int .u8 0, .int .u8 0, .int .u8 0, .int .u8 0, .int .u8 0, .int .u8 0, .int .u8 0, .int .u8 0, .int .u8 0, .int .u8 0, .int .u8 0, .int .u8 0, .int .u8 0, .int .u8 0, .int .u8 0, .int .u8 0, .int .u8 0, .int .u8 0] 26)
    have HA := Lib.hid hA
    clear hA
    try dsimp only
    go_wp2_with (with_reducible refine wpList_store_st rfl 26 (.tmp 5) (.tmp 30) rfl (g := u2.heap.size) (off := 0) zS.cells rfl rfl HA.out FzS.out IzS.out OzS.out ?_; intro w9 h9; refine Hid.out ?_)
    refine Lib.hid ?_
    rw [MzS.out] at h9
    clear HX HA
    generalize u2.heap.size = n5 at *
    obtain ⟨v5, hv5⟩ : ∃ v, w9 = v := ⟨_, rfl⟩
    rw [hv5] at h9 ⊢
    clear hv5
    have HX := Lib.hid h9
    clear h9
    have HF : Hid (Below W.heap.size W v5) := Lib.hid (HX.out.below (Le.refl _))
    have hzl : zS.cells = #[.int .i64 0, .int .i64 0, .int .u64 0, .int .i64 0, .int .u8 0, .int .u8 0, .int .u8 0, .int .u8 0, .int .u8 0, .int .u8 0, .int .u8 0, .int .u8 0, .int .u8 0, .int .u8 0, .int .u8 0, .int .u8 0, .int .u8 0, .int .u8 0, .int .u8 0, .int .u8 0, .int .u8 0, .int .u8 0, .int .u8 0, .int .u8 0, .int .u8 0, .int .u8 0, .int .u8 0, .int .u8 0, .int .u8 0, .int .u8 0, .int .u8 0, .int .u8 0, .int .u8 0, .int .u8 0, .int .u8 0, .int .u8 0] := bare_lit 0 ▸ rfl
    rw [hzl] at HX IzS
    have hgz : ∀ j, j < (#[.int .i64 0, .int .i64 0, .int .u64 0, .int .i64 0, .int .u8 0, .int .u8 0, .int .u8 0, .int .u8 0, .int .u8 0, .int .u8 0, .int .u8 0, .int .u8 0, .int .u8 0, .int .u8 0, .int .u8 0, .int .u8 0, .int .u8 0, .int .u8 0, .int .u8 0, .int .u8 0, .int .u8 0, .int .u8 0, .int .u8 0, .int .u8 0, .int .u8 0, .int .u8 0, .int .u8 0, .int .u8 0, .int .u8 0, .int .u8 0, .int .u8 0, .int .u8 0, .int .u8 0, .int .u8 0, .int .u8 0, .int .u8 0] : Array Value).size → (#[.int .i64 0, .int .i64 0, .int .u64 0, .int .i64 0, .int .u8 0, .int .u8 0, .int .u8 0, .int .u8 0, .int .u8 0, .int .u8 0, .int .u8 0, .int .u8 0, .int .u8 0, .int .u8 0, .int .u8 0, .int .u8 0, .int .u8 0, .int .u8 0, .int .u8 0, .int .u8 0, .int .u8 0, .int .u8 0, .int .u8 0, .int .u8 0, .int .u8 0, .int .u8 0, .int .u8 0, .int .u8 0, .int .u8 0, .int .u8 0, .int .u8 0, .int .u8 0, .int .u8 0, .int .u8 0, .int .u8 0, .int .u8 0] : Array Value)[0 + j]? = (#[.int .i64 0, .int .i64 0, .int .u64 0, .int .i64 0, .int .u8 0, .int .u8 0, .int .u8 0, .int .u8 0, .int .u8 0, .int .u8 0, .int .u8 0, .int .u8 0, .int .u8 0, .int .u8 0, .int .u8 0, .int .u8 0, .int .u8 0, .int .u8 0, .int .u8 0, .int .u8 0, .int .u8 0, .int .u8 0, .int .u8 0, .int .u8 0, .int .u8 0, .int .u8 0, .int .u8 0, .int .u8 0, .int .u8 0, .int .u8 0, .int .u8 0, .int .u8 0, .int .u8 0, .int .u8 0, .int .u8 0, .int .u8 0] : Array Value)[j]? := fun j hj => by rw [Nat.zero_add]
    have HGZ := Lib.hid hgz
    clear hzl hgz
    go_wp2_with (refine wpList_load_g (by rfl) 26 (.tmp 5) rfl (g := n5) (off := 0) rfl HX.out (cs := #[.int .i64 0, .int .i64 0, .int .u64 0, .int .i64 0, .int .u8 0, .int .u8 0, .int .u8 0, .int .u8 0, .int .u8 0, .int .u8 0, .int .u8 0, .int .u8 0, .int .u8 0, .int .u8 0, .int .u8 0, .int .u8 0, .int .u8 0, .int .u8 0, .int .u8 0, .int .u8 0, .int .u8 0, .int .u8 0, .int .u8 0, .int .u8 0, .int .u8 0, .int .u8 0, .int .u8 0, .int .u8 0, .int .u8 0, .int .u8 0, .int .u8 0, .int .u8 0, .int .u8 0, .int .u8 0, .int .u8 0, .int .u8 0]) (t := 26) (fr := (0, 0)) (by simp) #[.int .i64 0, .int .i64 0, .int .u64 0, .int .i64 0, .int .u8 0, .int .u8 0, .int .u8 0, .int .u8 0, .int .u8 0, .int .u8 0, .int .u8 0, .int .u8 0, .int .u8 0, .int .u8 0, .int .u8 0, .int .u8 0, .int .u8 0, .int .u8 0, .int .u8 0, .int .u8 0, .int .u8 0, .int .u8 0, .int .u8 0, .int .u8 0, .int .u8 0, .int .u8 0, .int .u8 0, .int .u8 0, .int .u8 0, .int .u8 0, .int .u8 0, .int .u8 0, .int .u8 0, .int .u8 0, .int .u8 0, .int .u8 0] HGZ.out _ Tryd.underlying26 rfl IzS.out ?_)
    go_ret
    exact ⟨rfl, HF.out⟩
  | true =>
    rw [hR, if_pos rfl] at hck
    simp only [hck] at KRD
    clear hck
    have hr2 : rightS ⟨2, s.tr, s.ver, s.sz, s.dig⟩ = true := by rw [HP1.out]; exact hR
    have himg := right_img _ hr2 (.inl rfl)
    simp only at himg
    obtain ⟨-, -, -, -, t0, t7⟩ := himg
    have hp : p1 = rdy s s.tr.toNat := by
      rw [← HP1.out]
      unfold rdy
      congr 1
      omega
    subst hp
    obtain ⟨N, hN⟩ : ∃ N, s.tr.toNat = N := ⟨_, rfl⟩
    have hNt : s.tr = (N : Int) := by omega
    have hN7 : N ≤ 7 := by omega
    simp only [hN] at KRD
    have HR2 := Lib.hid hr2; have HNT := Lib.hid hNt
    clear hr2 HP1 hN hR t0 t7 hNt qz
    have lN := OK.out.dig
    have lR : ∀ n, (rdy s n).dig.length = 32 := fun n => lN
    have lG : (gdy s).dig.length = 32 := lN
    have fP : 0 + ((rdy s N)).cells.size ≤ (#[.int .i64 0, .int .i64 0, .int .u64 0, .int .i64 0, .int .u8 0, .int .u8 0, .int .u8 0, .int .u8 0, .int .u8 0, .int .u8 0, .int .u8 0, .int .u8 0, .int .u8 0, .int .u8 0, .int .u8 0, .int .u8 0, .int .u8 0, .int .u8 0, .int .u8 0, .int .u8 0, .int .u8 0, .int .u8 0, .int .u8 0, .int .u8 0, .int .u8 0, .int .u8 0, .int .u8 0, .int .u8 0, .int .u8 0, .int .u8 0, .int .u8 0, .int .u8 0, .int .u8 0, .int .u8 0, .int .u8 0, .int .u8 0] : Array Value).size := by rw [bare_lit]; exact (slot_fit (s := zS) (t := (rdy s N)) zeros_len (lR N)).1
    have mP : setMany #[.int .i64 0, .int .i64 0, .int .u64 0, .int .i64 0, .int .u8 0, .int .u8 0, .int .u8 0, .int .u8 0, .int .u8 0, .int .u8 0, .int .u8 0, .int .u8 0, .int .u8 0, .int .u8 0, .int .u8 0, .int .u8 0, .int .u8 0, .int .u8 0, .int .u8 0, .int .u8 0, .int .u8 0, .int .u8 0, .int .u8 0, .int .u8 0, .int .u8 0, .int .u8 0, .int .u8 0, .int .u8 0, .int .u8 0, .int .u8 0, .int .u8 0, .int .u8 0, .int .u8 0, .int .u8 0, .int .u8 0, .int .u8 0] 0 ((rdy s N)).cells.toList = ((rdy s N)).cells := by rw [bare_lit]; exact (slot_fit (s := zS) (t := (rdy s N)) zeros_len (lR N)).2
    have iP := slot_info (s := (rdy s N)) (lR N)
    have oP := Slt.one (rdy s N)
    have FP := Lib.hid fP; have MP := Lib.hid mP; have IP := Lib.hid iP; have OP := Lib.hid oP
    clear fP mP iP oP
    have fzS : 0 + (zS).cells.size ≤ (#[.int .i64 0, .int .i64 0, .int .u64 0, .int .i64 0, .int .u8 0, .int .u8 0, .int .u8 0, .int .u8 0, .int .u8 0, .int .u8 0, .int .u8 0, .int .u8 0, .int .u8 0, .int .u8 0, .int .u8 0, .int .u8 0, .int .u8 0, .int .u8 0, .int .u8 0, .int .u8 0, .int .u8 0, .int .u8 0, .int .u8 0, .int .u8 0, .int .u8 0, .int .u8 0, .int .u8 0, .int .u8 0, .int .u8 0, .int .u8 0, .int .u8 0, .int .u8 0, .int .u8 0, .int .u8 0, .int .u8 0, .int .u8 0] : Array Value).size := by rw [bare_lit]; exact (slot_fit (s := zS) (t := zS) zeros_len zeros_len).1
    have mzS : setMany #[.int .i64 0, .int .i64 0, .int .u64 0, .int .i64 0, .int .u8 0, .int .u8 0, .int .u8 0, .int .u8 0, .int .u8 0, .int .u8 0, .int .u8 0, .int .u8 0, .int .u8 0, .int .u8 0, .int .u8 0, .int .u8 0, .int .u8 0, .int .u8 0, .int .u8 0, .int .u8 0, .int .u8 0, .int .u8 0, .int .u8 0, .int .u8 0, .int .u8 0, .int .u8 0, .int .u8 0, .int .u8 0, .int .u8 0, .int .u8 0, .int .u8 0, .int .u8 0, .int .u8 0, .int .u8 0, .int .u8 0, .int .u8 0] 0 (zS).cells.toList = (zS).cells := by rw [bare_lit]; exact (slot_fit (s := zS) (t := zS) zeros_len zeros_len).2
    have izS := slot_info (s := zS) zeros_len
    have ozS := Slt.one zS
    have FzS := Lib.hid fzS; have MzS := Lib.hid mzS; have IzS := Lib.hid izS; have OzS := Lib.hid ozS
    clear fzS mzS izS ozS
    have fG : 0 + ((gdy s)).cells.size ≤ (#[.int .i64 0, .int .i64 0, .int .u64 0, .int .i64 0, .int .u8 0, .int .u8 0, .int .u8 0, .int .u8 0, .int .u8 0, .int .u8 0, .int .u8 0, .int .u8 0, .int .u8 0, .int .u8 0, .int .u8 0, .int .u8 0, .int .u8 0, .int .u8 0, .int .u8 0, .int .u8 0, .int .u8 0, .int .u8 0, .int .u8 0, .int .u8 0, .int .u8 0, .int .u8 0, .int .u8 0, .int .u8 0, .int .u8 0, .int .u8 0, .int .u8 0, .int .u8 0, .int .u8 0, .int .u8 0, .int .u8 0, .int .u8 0] : Array Value).size := by rw [bare_lit]; exact (slot_fit (s := zS) (t := (gdy s)) zeros_len lG).1
    have mG : setMany #[.int .i64 0, .int .i64 0, .int .u64 0, .int .i64 0, .int .u8 0, .int .u8 0, .int .u8 0, .int .u8 0, .int .u8 0, .int .u8 0, .int .u8 0, .int .u8 0, .int .u8 0, .int .u8 0, .int .u8 0, .int .u8 0, .int .u8 0, .int .u8 0, .int .u8 0, .int .u8 0, .int .u8 0, .int .u8 0, .int .u8 0, .int .u8 0, .int .u8 0, .int .u8 0, .int .u8 0, .int .u8 0, .int .u8 0, .int .u8 0, .int .u8 0, .int .u8 0, .int .u8 0, .int .u8 0, .int .u8 0, .int .u8 0] 0 ((gdy s)).cells.toList = ((gdy s)).cells := by rw [bare_lit]; exact (slot_fit (s := zS) (t := (gdy s)) zeros_len lG).2
    have iG := slot_info (s := (gdy s)) lG
    have oG := Slt.one (gdy s)
    have FG := Lib.hid fG; have MG := Lib.hid mG; have IG := Lib.hid iG; have OG := Lib.hid oG
    clear fG mG iG oG
    have fB : 0 + ((bareS 4)).cells.size ≤ (#[.int .i64 0, .int .i64 0, .int .u64 0, .int .i64 0, .int .u8 0, .int .u8 0, .int .u8 0, .int .u8 0, .int .u8 0, .int .u8 0, .int .u8 0, .int .u8 0, .int .u8 0, .int .u8 0, .int .u8 0, .int .u8 0, .int .u8 0, .int .u8 0, .int .u8 0, .int .u8 0, .int .u8 0, .int .u8 0, .int .u8 0, .int .u8 0, .int .u8 0, .int .u8 0, .int .u8 0, .int .u8 0, .int .u8 0, .int .u8 0, .int .u8 0, .int .u8 0, .int .u8 0, .int .u8 0, .int .u8 0, .int .u8 0] : Array Value).size := by rw [bare_lit]; exact (slot_fit (s := zS) (t := (bareS 4)) zeros_len zeros_len).1
    have mB : setMany #[.int .i64 0, .int .i64 0, .int .u64 0, .int .i64 0, .int .u8 0, .int .u8 0, .int .u8 0, .int .u8 0, .int .u8 0, .int .u8 0, .int .u8 0, .int .u8 0, .int .u8 0, .int .u8 0, .int .u8 0, .int .u8 0, .int .u8 0, .int .u8 0, .int .u8 0, .int .u8 0, .int .u8 0, .int .u8 0, .int .u8 0, .int .u8 0, .int .u8 0, .int .u8 0, .int .u8 0, .int .u8 0, .int .u8 0, .int .u8 0, .int .u8 0, .int .u8 0, .int .u8 0, .int .u8 0, .int .u8 0, .int .u8 0] 0 ((bareS 4)).cells.toList = ((bareS 4)).cells := by rw [bare_lit]; exact (slot_fit (s := zS) (t := (bareS 4)) zeros_len zeros_len).2
    have iB := slot_info (s := (bareS 4)) zeros_len
    have oB := Slt.one (bareS 4)
    have FB := Lib.hid fB; have MB := Lib.hid mB; have IB := Lib.hid iB; have OB := Lib.hid oB
    clear fB mB iB oB
    go_enter Tryd.func4, Tryd.ntmps4
    go_wp2_with fail
    refine KA.out.mono ?_
    rintro e w1 ⟨rfl, h1⟩
    obtain ⟨c0, c1, c2, c3⟩ := h1.slt
    have HX := Lib.hid h1
    clear KA h1 hb
    go_wp2_with (with_reducible refine wpList_load_st rfl 24 (.tmp 25) rfl (g := b) (off := 4) rfl HX.out (cs := s.cells) (t := 26) (fr := (0, 0)) (by simp) D HGs.out _ Tryd.underlying24 rfl HMD.out ?_)
    refine (KRD.out _ _ HX.out).mono ?_
    rintro e w8 ⟨rfl, h8⟩
    obtain ⟨u2, hu2⟩ : ∃ u, w8 = u := ⟨_, rfl⟩
    rw [hu2] at h8 ⊢
    clear hu2 HX
    have HX := Lib.hid h8
    clear h8
    clear c0 c1 c2 c3
    have hA := HX.out.alloc (.cells #[.int .i64 0, .int .i64 0, .int .u64 0, .int .i64 0, .int .u8 0, .int .u8 0, .int .u8 0, .int .u8 0, .int .u8 0, .int .u8 0, .int .u8 0, .int .u8 0, .int .u8 0, .int .u8 0, .int .u8 0, .int .u8 0, .int .u8 0, .int .u8 0, .int .u8 0, .int .u8 0, .int .u8 0, .int .u8 0, .int .u8 0, .int .u8 0, .int .u8 0, .int .u8 0, .int .u8 0, .int .u8 0, .int .u8 0, .int .u8 0, .int .u8 0, .int .u8 0, .int .u8 0, .int .u8 0, .int .u8 0, .int .u8 0] 26)
    have HA := Lib.hid hA
    clear hA
    try dsimp only
    go_wp2_with (with_reducible refine wpList_store_st rfl 26 (.tmp 5) (.tmp 30) rfl (g := u2.heap.size) (off := 0) (rdy s N).cells rfl rfl HA.out FP.out IP.out OP.out ?_; intro w9 h9; refine Hid.out ?_)
    refine Lib.hid ?_
    rw [MP.out] at h9
    clear HX HA
    generalize u2.heap.size = n5 at *
    obtain ⟨v5, hv5⟩ : ∃ v, w9 = v := ⟨_, rfl⟩
    rw [hv5] at h9 ⊢
    clear hv5
    have HX := Lib.hid h9
    clear h9
    have c1 := HX.out.cell (g := b) (cs := s.cells) (t := 26) (fr := (0, 0)) (by simp) 1
    rw [Slt.at1, HNT.out] at c1
    go_wp2_with fail
    go_loopw [7] (fun v wr => ∃ n : Nat, v = .int .i64 n ∧ n ≤ 7 ∧ St W wr (fun b => W.heap[b]?) ((n5, .cells (rdy s n).cells 26 (0, 0)) :: (b, .cells s.cells 26 (0, 0)) :: [])) (fun v _ => (intOf v).toNat)
    case atStart => exact ⟨N, rfl, hN7, HX.out⟩
    case round =>
      obtain ⟨n, rfl, hn7, hst⟩ := hrel
      clear HX c1 FP MP IP OP
      have HX := Lib.hid hst
      clear hst
      have kT := fun (v : World) (F : List (Nat × Obj)) (hv : St W v (fun b => W.heap[b]?) F) => slot_try (rdy s n) (rdy_ok s OK.out n hn7) hv
      have kB := fun (v : World) (F : List (Nat × Obj)) (hv : St W v (fun b => W.heap[b]?) F) => slot_boot (rdy s n) (rdy_ok s OK.out n hn7) hv
      have hrn := rdy_right s HR2.out n hn7
      have IP := Lib.hid (slot_info (lR n))
      have HGr := Lib.hid (show ∀ j, j < D.size → (rdy s n).cells[4 + j]? = D[j]? from HDD.out ▸ hg_slot (rdy s n) s.dig rfl)
      cases n with
      | zero =>
        have kX := fun (v : World) (F : List (Nat × Obj)) (hv : St W v (fun b => W.heap[b]?) F) => slot_bad (rdy s 0) (rdy_ok s OK.out 0 hn7) hv
        have kB4 := fun (v : World) (F : List (Nat × Obj)) (hv : St W v (fun b => W.heap[b]?) F) => slot_boot (bareS 4) (bareS_ok 4 (by decide) (by decide)) hv
        rw [try_rdy0] at kT
        rw [boot_rdy0] at kB
        rw [bad_rdy s 0 hrn] at kX
        rw [boot_bad] at kB4
        have q4 := fun w => eq_slot (bareS 4) (bareS 4) zeros_len zeros_len w
        rw [same_refl] at q4
        have hbl := bare_lit 4
        rw [← hbl] at q4
        have KT := Lib.hid kT; have KB := Lib.hid kB; have KX := Lib.hid kX; have KB4 := Lib.hid kB4; have HBL := Lib.hid hbl
        unfold Slt.val at KT KB KX KB4
        clear kT kB kX kB4 hrn hbl
        go_wp2_with (with_reducible refine wpList_load_st rfl 26 (.tmp 5) rfl (g := n5) (off := 0) rfl HX.out (cs := (rdy s 0).cells) (t := 26) (fr := (0, 0)) (by simp) (rdy s 0).cells (fun j hj => by rw [Nat.zero_add]) _ Tryd.underlying26 rfl IP.out ?_)
        refine (KT.out _ _ HX.out).mono ?_
        rintro e w8 ⟨rfl, h8⟩
        obtain ⟨u14, hu14⟩ : ∃ u, w8 = u := ⟨_, rfl⟩
        rw [hu14] at h8 ⊢
        clear hu14 HX
        have HX := Lib.hid h8
        clear h8
        have hA := HX.out.alloc (.cells #[.int .i64 0, .int .i64 0, .int .u64 0, .int .i64 0, .int .u8 0, .int .u8 0, .int .u8 0, .int .u8 0, .int .u8 0, .int .u8 0, .int .u8 0, .int .u8 0, .int .u8 0, .int .u8 0, .int .u8 0, .int .u8 0, .int .u8 0, .int .u8 0, .int .u8 0, .int .u8 0, .int .u8 0, .int .u8 0, .int .u8 0, .int .u8 0, .int .u8 0, .int .u8 0, .int .u8 0, .int .u8 0, .int .u8 0, .int .u8 0, .int .u8 0, .int .u8 0, .int .u8 0, .int .u8 0, .int .u8 0, .int .u8 0] 26)
        have HA := Lib.hid hA
        clear hA
        try dsimp only
        go_wp2_with (with_reducible refine wpList_store_st rfl 26 (.tmp 14) (.tmp 126) rfl (g := u14.heap.size) (off := 0) zS.cells rfl rfl HA.out FzS.out IzS.out OzS.out ?_; intro w9 h9; refine Hid.out ?_)
        refine Lib.hid ?_
        rw [MzS.out] at h9
        clear HX HA
        generalize u14.heap.size = n14 at *
        obtain ⟨v14, hv14⟩ : ∃ v, w9 = v := ⟨_, rfl⟩
        rw [hv14] at h9 ⊢
        clear hv14
        have HX := Lib.hid h9
        clear h9
        go_wp2_with (with_reducible refine wpList_load_st rfl 26 (.tmp 5) rfl (g := n5) (off := 0) rfl HX.out (cs := (rdy s 0).cells) (t := 26) (fr := (0, 0)) (by simp) (rdy s 0).cells (fun j hj => by rw [Nat.zero_add]) _ Tryd.underlying26 rfl IP.out ?_)
        refine (KX.out _ _ HX.out).mono ?_
        rintro e w8 ⟨rfl, h8⟩
        obtain ⟨u16, hu16⟩ : ∃ u, w8 = u := ⟨_, rfl⟩
        rw [hu16] at h8 ⊢
        clear hu16 HX
        have HX := Lib.hid h8
        clear h8
        have hA := HX.out.alloc (.cells #[.int .i64 0, .int .i64 0, .int .u64 0, .int .i64 0, .int .u8 0, .int .u8 0, .int .u8 0, .int .u8 0, .int .u8 0, .int .u8 0, .int .u8 0, .int .u8 0, .int .u8 0, .int .u8 0, .int .u8 0, .int .u8 0, .int .u8 0, .int .u8 0, .int .u8 0, .int .u8 0, .int .u8 0, .int .u8 0, .int .u8 0, .int .u8 0, .int .u8 0, .int .u8 0, .int .u8 0, .int .u8 0, .int .u8 0, .int .u8 0, .int .u8 0, .int .u8 0, .int .u8 0, .int .u8 0, .int .u8 0, .int .u8 0] 26)
        have HA := Lib.hid hA
        clear hA
        try dsimp only
        go_wp2_with (with_reducible refine wpList_store_st rfl 26 (.tmp 16) (.tmp 131) rfl (g := u16.heap.size) (off := 0) (bareS 4).cells rfl rfl HA.out FB.out IB.out OB.out ?_; intro w9 h9; refine Hid.out ?_)
        refine Lib.hid ?_
        rw [MB.out] at h9
        clear HX HA
        generalize u16.heap.size = n16 at *
        obtain ⟨v16, hv16⟩ : ∃ v, w9 = v := ⟨_, rfl⟩
        rw [hv16] at h9 ⊢
        clear hv16
        have HX := Lib.hid h9
        clear h9
        go_wp2_with (refine wpList_load_g (by rfl) 26 (.tmp 5) rfl (g := n5) (off := 0) rfl HX.out (cs := (rdy s 0).cells) (t := 26) (fr := (0, 0)) (by simp) (rdy s 0).cells (fun j hj => by rw [Nat.zero_add]) _ Tryd.underlying26 rfl IP.out ?_)
        refine (KB.out _ _ HX.out).mono ?_
        rintro e w8 ⟨rfl, h8⟩
        obtain ⟨u20, hu20⟩ : ∃ u, w8 = u := ⟨_, rfl⟩
        rw [hu20] at h8 ⊢
        clear hu20 HX
        have HX := Lib.hid h8
        clear h8
        rw [← HBL.out] at HX IB KB4
        have hgz : ∀ j, j < (#[.int .i64 4, .int .i64 0, .int .u64 0, .int .i64 0, .int .u8 0, .int .u8 0, .int .u8 0, .int .u8 0, .int .u8 0, .int .u8 0, .int .u8 0, .int .u8 0, .int .u8 0, .int .u8 0, .int .u8 0, .int .u8 0, .int .u8 0, .int .u8 0, .int .u8 0, .int .u8 0, .int .u8 0, .int .u8 0, .int .u8 0, .int .u8 0, .int .u8 0, .int .u8 0, .int .u8 0, .int .u8 0, .int .u8 0, .int .u8 0, .int .u8 0, .int .u8 0, .int .u8 0, .int .u8 0, .int .u8 0, .int .u8 0] : Array Value).size → (#[.int .i64 4, .int .i64 0, .int .u64 0, .int .i64 0, .int .u8 0, .int .u8 0, .int .u8 0, .int .u8 0, .int .u8 0, .int .u8 0, .int .u8 0, .int .u8 0, .int .u8 0, .int .u8 0, .int .u8 0, .int .u8 0, .int .u8 0, .int .u8 0, .int .u8 0, .int .u8 0, .int .u8 0, .int .u8 0, .int .u8 0, .int .u8 0, .int .u8 0, .int .u8 0, .int .u8 0, .int .u8 0, .int .u8 0, .int .u8 0, .int .u8 0, .int .u8 0, .int .u8 0, .int .u8 0, .int .u8 0, .int .u8 0] : Array Value)[0 + j]? = (#[.int .i64 4, .int .i64 0, .int .u64 0, .int .i64 0, .int .u8 0, .int .u8 0, .int .u8 0, .int .u8 0, .int .u8 0, .int .u8 0, .int .u8 0, .int .u8 0, .int .u8 0, .int .u8 0, .int .u8 0, .int .u8 0, .int .u8 0, .int .u8 0, .int .u8 0, .int .u8 0, .int .u8 0, .int .u8 0, .int .u8 0, .int .u8 0, .int .u8 0, .int .u8 0, .int .u8 0, .int .u8 0, .int .u8 0, .int .u8 0, .int .u8 0, .int .u8 0, .int .u8 0, .int .u8 0, .int .u8 0, .int .u8 0] : Array Value)[j]? := fun j hj => by rw [Nat.zero_add]
        have HGZ := Lib.hid hgz
        clear hgz
        go_wp2_with (refine wpList_load_g (by rfl) 26 (.tmp 16) rfl (g := n16) (off := 0) rfl HX.out (cs := #[.int .i64 4, .int .i64 0, .int .u64 0, .int .i64 0, .int .u8 0, .int .u8 0, .int .u8 0, .int .u8 0, .int .u8 0, .int .u8 0, .int .u8 0, .int .u8 0, .int .u8 0, .int .u8 0, .int .u8 0, .int .u8 0, .int .u8 0, .int .u8 0, .int .u8 0, .int .u8 0, .int .u8 0, .int .u8 0, .int .u8 0, .int .u8 0, .int .u8 0, .int .u8 0, .int .u8 0, .int .u8 0, .int .u8 0, .int .u8 0, .int .u8 0, .int .u8 0, .int .u8 0, .int .u8 0, .int .u8 0, .int .u8 0]) (t := 26) (fr := (0, 0)) (by simp) #[.int .i64 4, .int .i64 0, .int .u64 0, .int .i64 0, .int .u8 0, .int .u8 0, .int .u8 0, .int .u8 0, .int .u8 0, .int .u8 0, .int .u8 0, .int .u8 0, .int .u8 0, .int .u8 0, .int .u8 0, .int .u8 0, .int .u8 0, .int .u8 0, .int .u8 0, .int .u8 0, .int .u8 0, .int .u8 0, .int .u8 0, .int .u8 0, .int .u8 0, .int .u8 0, .int .u8 0, .int .u8 0, .int .u8 0, .int .u8 0, .int .u8 0, .int .u8 0, .int .u8 0, .int .u8 0, .int .u8 0, .int .u8 0] HGZ.out _ Tryd.underlying26 rfl IB.out ?_)
        refine (KB4.out _ _ HX.out).mono ?_
        rintro e w8 ⟨rfl, h8⟩
        obtain ⟨u21, hu21⟩ : ∃ u, w8 = u := ⟨_, rfl⟩
        rw [hu21] at h8 ⊢
        clear hu21 HX
        have HX := Lib.hid h8
        clear h8
        have HF : Hid (Below W.heap.size W u21) := Lib.hid (HX.out.below (Le.refl _))
        go_wp2_with fail
        go_ret
        exact ⟨rfl, HF.out⟩
      | succ n =>
        rw [try_rdy s n hrn] at kT
        rw [boot_rdy s n hrn] at kB
        have hn1 : (0 : Int) < ((n + 1 : Nat) : Int) := by omega
        by_cases haf2 : ((n + 1 : Nat) : Int) = af
        · have haf3 : (((n + 1 : Nat) : Int) == af) = true := by rw [haf2]; exact beq_self_eq_true _
          have kG := fun (v : World) (F : List (Nat × Obj)) (hv : St W v (fun b => W.heap[b]?) F) => slot_good (rdy s (n + 1)) (rdy_ok s OK.out (n + 1) hn7) hv
          have kU := fun (v : World) (F : List (Nat × Obj)) (hv : St W v (fun b => W.heap[b]?) F) => slot_try (gdy s) (gdy_ok s OK.out) hv
          have kV := fun (v : World) (F : List (Nat × Obj)) (hv : St W v (fun b => W.heap[b]?) F) => slot_boot (gdy s) (gdy_ok s OK.out) hv
          rw [good_rdy s (n + 1) hrn] at kG
          rw [try_gdy] at kU
          rw [boot_gdy s (gdy_right s HR2.out)] at kV
          have HGg := Lib.hid (show ∀ j, j < D.size → (gdy s).cells[4 + j]? = D[j]? from HDD.out ▸ hg_slot (gdy s) s.dig rfl)
          have qv : (s.ver == s.ver) = true := beq_self_eq_true _
          have KG := Lib.hid kG; have KU := Lib.hid kU; have KV := Lib.hid kV
          unfold Slt.val at KG KU KV
          obtain ⟨m, hm⟩ : ∃ m : Int, ((n + 1 : Nat) : Int) = m := ⟨_, rfl⟩
          rw [hm] at haf3 hn1 ⊢
          clear kG kU kV kT kB hrn haf2 hm
          go_wp2_with (with_reducible refine wpList_load_st rfl 26 (.tmp 5) rfl (g := n5) (off := 0) rfl HX.out (cs := (rdy s (n + 1)).cells) (t := 26) (fr := (0, 0)) (by simp) (rdy s (n + 1)).cells (fun j hj => by rw [Nat.zero_add]) _ Tryd.underlying26 rfl IP.out ?_)
          refine (KG.out _ _ HX.out).mono ?_
          rintro e w8 ⟨rfl, h8⟩
          obtain ⟨u8, hu8⟩ : ∃ u, w8 = u := ⟨_, rfl⟩
          rw [hu8] at h8 ⊢
          clear hu8 HX
          have HX := Lib.hid h8
          clear h8
          have hA := HX.out.alloc (.cells #[.int .i64 0, .int .i64 0, .int .u64 0, .int .i64 0, .int .u8 0, .int .u8 0, .int .u8 0, .int .u8 0, .int .u8 0, .int .u8 0, .int .u8 0, .int .u8 0, .int .u8 0, .int .u8 0, .int .u8 0, .int .u8 0, .int .u8 0, .int .u8 0, .int .u8 0, .int .u8 0, .int .u8 0, .int .u8 0, .int .u8 0, .int .u8 0, .int .u8 0, .int .u8 0, .int .u8 0, .int .u8 0, .int .u8 0, .int .u8 0, .int .u8 0, .int .u8 0, .int .u8 0, .int .u8 0, .int .u8 0, .int .u8 0] 26)
          have HA := Lib.hid hA
          clear hA
          try dsimp only
          go_wp2_with (with_reducible refine wpList_store_st rfl 26 (.tmp 8) (.tmp 53) rfl (g := u8.heap.size) (off := 0) (gdy s).cells rfl rfl HA.out FG.out IG.out OG.out ?_; intro w9 h9; refine Hid.out ?_)
          refine Lib.hid ?_
          rw [MG.out] at h9
          clear HX HA
          generalize u8.heap.size = n8 at *
          obtain ⟨v8, hv8⟩ : ∃ v, w9 = v := ⟨_, rfl⟩
          rw [hv8] at h9 ⊢
          clear hv8
          have HX := Lib.hid h9
          clear h9
          go_wp2_with (with_reducible refine wpList_load_st rfl 26 (.tmp 8) rfl (g := n8) (off := 0) rfl HX.out (cs := (gdy s).cells) (t := 26) (fr := (0, 0)) (by simp) (gdy s).cells (fun j hj => by rw [Nat.zero_add]) _ Tryd.underlying26 rfl IG.out ?_)
          refine (KU.out _ _ HX.out).mono ?_
          rintro e w8 ⟨rfl, h8⟩
          obtain ⟨u10, hu10⟩ : ∃ u, w8 = u := ⟨_, rfl⟩
          rw [hu10] at h8 ⊢
          clear hu10 HX
          have HX := Lib.hid h8
          clear h8
          have hA := HX.out.alloc (.cells #[.int .i64 0, .int .i64 0, .int .u64 0, .int .i64 0, .int .u8 0, .int .u8 0, .int .u8 0, .int .u8 0, .int .u8 0, .int .u8 0, .int .u8 0, .int .u8 0, .int .u8 0, .int .u8 0, .int .u8 0, .int .u8 0, .int .u8 0, .int .u8 0, .int .u8 0, .int .u8 0, .int .u8 0, .int .u8 0, .int .u8 0, .int .u8 0, .int .u8 0, .int .u8 0, .int .u8 0, .int .u8 0, .int .u8 0, .int .u8 0, .int .u8 0, .int .u8 0, .int .u8 0, .int .u8 0, .int .u8 0, .int .u8 0] 26)
          have HA := Lib.hid hA
          clear hA
          try dsimp only
          go_wp2_with (with_reducible refine wpList_store_st rfl 26 (.tmp 10) (.tmp 58) rfl (g := u10.heap.size) (off := 0) zS.cells rfl rfl HA.out FzS.out IzS.out OzS.out ?_; intro w9 h9; refine Hid.out ?_)
          refine Lib.hid ?_
          rw [MzS.out] at h9
          clear HX HA
          generalize u10.heap.size = n10 at *
          obtain ⟨v10, hv10⟩ : ∃ v, w9 = v := ⟨_, rfl⟩
          rw [hv10] at h9 ⊢
          clear hv10
          have HX := Lib.hid h9
          clear h9
          go_wp2_with (refine wpList_load_g (by rfl) 26 (.tmp 8) rfl (g := n8) (off := 0) rfl HX.out (cs := (gdy s).cells) (t := 26) (fr := (0, 0)) (by simp) (gdy s).cells (fun j hj => by rw [Nat.zero_add]) _ Tryd.underlying26 rfl IG.out ?_)
          refine (KV.out _ _ HX.out).mono ?_
          rintro e w8 ⟨rfl, h8⟩
          obtain ⟨u12, hu12⟩ : ∃ u, w8 = u := ⟨_, rfl⟩
          rw [hu12] at h8 ⊢
          clear hu12 HX
          have HX := Lib.hid h8
          clear h8
          have d2 := HX.out.cell (g := n8) (cs := (gdy s).cells) (t := 26) (fr := (0, 0)) (by simp) 2
          rw [Slt.at2, show (gdy s).ver = s.ver from rfl] at d2
          have e2 := HX.out.cell (g := b) (cs := s.cells) (t := 26) (fr := (0, 0)) (by simp) 2
          rw [Slt.at2] at e2
          have HF : Hid (Below W.heap.size W u12) := Lib.hid (HX.out.below (Le.refl _))
          go_wp2_with (first
            | (refine wpList_load_g (by rfl) 24 (.tmp 78) rfl (g := n8) (off := 4) rfl HX.out (cs := (gdy s).cells) (t := 26) (fr := (0, 0)) (by simp) D HGg.out _ Tryd.underlying24 rfl HMD.out ?_)
            | (refine wpList_load_g (by rfl) 24 (.tmp 80) rfl (g := b) (off := 4) rfl HX.out (cs := s.cells) (t := 26) (fr := (0, 0)) (by simp) D HGs.out _ Tryd.underlying24 rfl HMD.out ?_))
          go_ret
          exact ⟨rfl, HF.out⟩
        · have haf3 : (((n + 1 : Nat) : Int) == af) = false := beq_eq_false_iff_ne.2 haf2
          have lS := lR n
          have qv : (s.ver != s.ver) = false := by simp
          have qz : (s.sz != s.sz) = false := by simp
          have hnn : ((n + 1 : Nat) : Int) - 1 = (n : Int) := by omega
          have qn : ((n : Int) != (((n + 1 : Nat) : Int) - 1)) = false := by rw [hnn]; simp
          have fQ : 0 + ((rdy s n)).cells.size ≤ (#[.int .i64 0, .int .i64 0, .int .u64 0, .int .i64 0, .int .u8 0, .int .u8 0, .int .u8 0, .int .u8 0, .int .u8 0, .int .u8 0, .int .u8 0, .int .u8 0, .int .u8 0, .int .u8 0, .int .u8 0, .int .u8 0, .int .u8 0, .int .u8 0, .int .u8 0, .int .u8 0, .int .u8 0, .int .u8 0, .int .u8 0, .int .u8 0, .int .u8 0, .int .u8 0, .int .u8 0, .int .u8 0, .int .u8 0, .int .u8 0, .int .u8 0, .int .u8 0, .int .u8 0, .int .u8 0, .int .u8 0, .int .u8 0] : Array Value).size := by rw [bare_lit]; exact (slot_fit (s := zS) (t := (rdy s n)) zeros_len lS).1
          have mQ : setMany #[.int .i64 0, .int .i64 0, .int .u64 0, .int .i64 0, .int .u8 0, .int .u8 0, .int .u8 0, .int .u8 0, .int .u8 0, .int .u8 0, .int .u8 0, .int .u8 0, .int .u8 0, .int .u8 0, .int .u8 0, .int .u8 0, .int .u8 0, .int .u8 0, .int .u8 0, .int .u8 0, .int .u8 0, .int .u8 0, .int .u8 0, .int .u8 0, .int .u8 0, .int .u8 0, .int .u8 0, .int .u8 0, .int .u8 0, .int .u8 0, .int .u8 0, .int .u8 0, .int .u8 0, .int .u8 0, .int .u8 0, .int .u8 0] 0 ((rdy s n)).cells.toList = ((rdy s n)).cells := by rw [bare_lit]; exact (slot_fit (s := zS) (t := (rdy s n)) zeros_len lS).2
          have iQ := slot_info (s := (rdy s n)) lS
          have oQ := Slt.one (rdy s n)
          have FQ := Lib.hid fQ; have MQ := Lib.hid mQ; have IQ := Lib.hid iQ; have OQ := Lib.hid oQ
          clear fQ mQ iQ oQ
          obtain ⟨fw, mw⟩ := slot_fit (s := rdy s (n + 1)) (t := rdy s n) (lR (n + 1)) (lR n)
          have FW := Lib.hid fw; have MW := Lib.hid mw
          have HGq := Lib.hid (show ∀ j, j < D.size → (rdy s n).cells[4 + j]? = D[j]? from HDD.out ▸ hg_slot (rdy s n) s.dig rfl)
          have KT := Lib.hid kT; have KB := Lib.hid kB; have HNN := Lib.hid hnn
          unfold Slt.val at KT KB
          obtain ⟨m, hm⟩ : ∃ m : Int, ((n + 1 : Nat) : Int) = m := ⟨_, rfl⟩
          have hm0 : 0 ≤ m := by omega
          have hm7 : m ≤ 7 := by omega
          rw [hm] at haf3 hn1 qn HNN ⊢
          have HM := Lib.hid hm
          clear kT kB hrn haf2 hnn fw mw hm
          go_wp2_with (with_reducible refine wpList_load_st rfl 26 (.tmp 5) rfl (g := n5) (off := 0) rfl HX.out (cs := (rdy s (n + 1)).cells) (t := 26) (fr := (0, 0)) (by simp) (rdy s (n + 1)).cells (fun j hj => by rw [Nat.zero_add]) _ Tryd.underlying26 rfl IP.out ?_)
          refine (KB.out _ _ HX.out).mono ?_
          rintro e w8 ⟨rfl, h8⟩
          obtain ⟨u13, hu13⟩ : ∃ u, w8 = u := ⟨_, rfl⟩
          rw [hu13] at h8 ⊢
          clear hu13 HX
          have HX := Lib.hid h8
          clear h8
          go_wp2_with (with_reducible refine wpList_load_st rfl 26 (.tmp 5) rfl (g := n5) (off := 0) rfl HX.out (cs := (rdy s (n + 1)).cells) (t := 26) (fr := (0, 0)) (by simp) (rdy s (n + 1)).cells (fun j hj => by rw [Nat.zero_add]) _ Tryd.underlying26 rfl IP.out ?_)
          refine (KT.out _ _ HX.out).mono ?_
          rintro e w8 ⟨rfl, h8⟩
          obtain ⟨u15, hu15⟩ : ∃ u, w8 = u := ⟨_, rfl⟩
          rw [hu15] at h8 ⊢
          clear hu15 HX
          have HX := Lib.hid h8
          clear h8
          have hA := HX.out.alloc (.cells #[.int .i64 0, .int .i64 0, .int .u64 0, .int .i64 0, .int .u8 0, .int .u8 0, .int .u8 0, .int .u8 0, .int .u8 0, .int .u8 0, .int .u8 0, .int .u8 0, .int .u8 0, .int .u8 0, .int .u8 0, .int .u8 0, .int .u8 0, .int .u8 0, .int .u8 0, .int .u8 0, .int .u8 0, .int .u8 0, .int .u8 0, .int .u8 0, .int .u8 0, .int .u8 0, .int .u8 0, .int .u8 0, .int .u8 0, .int .u8 0, .int .u8 0, .int .u8 0, .int .u8 0, .int .u8 0, .int .u8 0, .int .u8 0] 26)
          have HA := Lib.hid hA
          clear hA
          try dsimp only
          go_wp2_with (with_reducible refine wpList_store_st rfl 26 (.tmp 12) (.tmp 90) rfl (g := u15.heap.size) (off := 0) (rdy s n).cells rfl rfl HA.out FQ.out IQ.out OQ.out ?_; intro w9 h9; refine Hid.out ?_)
          refine Lib.hid ?_
          rw [MQ.out] at h9
          clear HX HA
          generalize u15.heap.size = n12 at *
          obtain ⟨v12, hv12⟩ : ∃ v, w9 = v := ⟨_, rfl⟩
          rw [hv12] at h9 ⊢
          clear hv12
          have HX := Lib.hid h9
          clear h9
          have d1 := HX.out.cell (g := n12) (cs := (rdy s n).cells) (t := 26) (fr := (0, 0)) (by simp) 1
          rw [Slt.at1, show (rdy s n).tr = (n : Int) from rfl] at d1
          have d2 := HX.out.cell (g := n12) (cs := (rdy s n).cells) (t := 26) (fr := (0, 0)) (by simp) 2
          rw [Slt.at2, show (rdy s n).ver = s.ver from rfl] at d2
          have d3 := HX.out.cell (g := n12) (cs := (rdy s n).cells) (t := 26) (fr := (0, 0)) (by simp) 3
          rw [Slt.at3, show (rdy s n).sz = s.sz from rfl] at d3
          have e2 := HX.out.cell (g := b) (cs := s.cells) (t := 26) (fr := (0, 0)) (by simp) 2
          rw [Slt.at2] at e2
          have e3 := HX.out.cell (g := b) (cs := s.cells) (t := 26) (fr := (0, 0)) (by simp) 3
          rw [Slt.at3] at e3
          have HP := Lib.hid (HX.out.perm (List.Perm.swap _ _ _))
          go_wp2_with (first
            | (refine wpList_load_g (by rfl) 24 (.tmp 102) rfl (g := n12) (off := 4) rfl HX.out (cs := (rdy s n).cells) (t := 26) (fr := (0, 0)) (by simp) D HGq.out _ Tryd.underlying24 rfl HMD.out ?_)
            | (refine wpList_load_g (by rfl) 24 (.tmp 104) rfl (g := b) (off := 4) rfl HX.out (cs := s.cells) (t := 26) (fr := (0, 0)) (by simp) D HGs.out _ Tryd.underlying24 rfl HMD.out ?_)
            | (with_reducible refine wpList_load_st rfl 26 (.tmp 12) rfl (g := n12) (off := 0) rfl HX.out (cs := (rdy s n).cells) (t := 26) (fr := (0, 0)) (by simp) (rdy s n).cells (fun j hj => by rw [Nat.zero_add]) _ Tryd.underlying26 rfl IQ.out ?_)
            | (with_reducible refine wpList_store_st rfl 26 (.tmp 5) (.tmp 122) rfl (g := n5) (off := 0) (rdy s n).cells rfl rfl HP.out FW.out IQ.out OQ.out ?_; intro w9 h9; refine Hid.out ?_))
          refine Lib.hid ?_
          rw [MW.out] at h9
          have h10 := St.mid (A := [_]) (B := [_]) h9
          have H10 := Lib.hid h10
          clear h9 h10 HX HP d1 d2 d3 e2 e3
          go_wp2_with fail
          go_roundw
          case rel => exact ⟨n, by rw [HNN.out], by omega, H10.out⟩
          case measure => simp [intOf]; have := HM.out; omega

end Go.Proofs.YtpjfmgifddoppaaDoor
