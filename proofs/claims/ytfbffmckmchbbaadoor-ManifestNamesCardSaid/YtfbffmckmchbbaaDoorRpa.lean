/- The document's manifest: Parse: walk. -/
import Derived.Test.YtfbffmckmchbbaaDoorRcM
import Derived.Test.YtfbffmckmchbbaaDoorMpa
import Derived.Test.YtfbffmckmchbbaaDoorMsa
import Derived.Deep.RegionHeld3
namespace Go.Proofs.YtfbffmckmchbbaaDoor
set_option linter.unusedVariables false
set_option linter.unusedSimpArgs false
open Go.RowKit Go.Lib

theorem man_put1 (m : Man) (v : Int) : m.cells.setIfInBounds 1 (.int .u64 v) = Man.cells { m with ver := v } := by
  unfold Man.cells
  apply Array.toList_inj.1
  rw [Array.toList_setIfInBounds]
  rfl
theorem man_put2 (m : Man) (v : Int) : m.cells.setIfInBounds 2 (.int .i64 v) = Man.cells { m with size := v } := by
  unfold Man.cells
  apply Array.toList_inj.1
  rw [Array.toList_setIfInBounds]
  rfl
theorem man_put3 (m : Man) (v : Int) : m.cells.setIfInBounds 3 (.int .i64 v) = Man.cells { m with chunk := v } := by
  unfold Man.cells
  apply Array.toList_inj.1
  rw [Array.toList_setIfInBounds]
  rfl
set_option maxRecDepth 100000 in
theorem run_build_man1 (prod : ByteArray) (w : World) :
    (Instr.build 29 #[(0, .string prod)]).run Tryd.prog w = .ok (.agg (Man.cells ⟨prod, 0, 0, 0, z32, none, 0, 0⟩)) w :=
  run_build w _ _ _ (by kernel_rfl)
def chLen (v : Option Value) : Nat := match v with
  | some (.slice _ n _) => n
  | _ => 0
/-- What the document's reading comes to, by the program's own. -/
theorem rparse_bad {bs : List UInt8} {k : Nat} (h65 : k ≤ 65) (hpos : ∀ j, j < k → 0 < rsLen (stN (hd 65535 bs).rest j)) (hend : k = 65 ∨ rsLen (stN (hd 65535 bs).rest k) = 0) (h : stN (hd 65535 bs).rest k = none) : ownGood bs = false := by
  cases hG : ownGood bs with
  | false => rfl
  | true => exact absurd h ((parse_eq h65 hpos hend).1.1 hG).1
theorem rparse_some {bs : List UInt8} {k : Nat} (h65 : k ≤ 65) (hpos : ∀ j, j < k → 0 < rsLen (stN (hd 65535 bs).rest j)) (hend : k = 65 ∨ rsLen (stN (hd 65535 bs).rest k) = 0) (h : stN (hd 65535 bs).rest k ≠ none) (by_ : List UInt8)
    (hby : by_ = if rightB (pA (hd 65535 bs).prod) (hd 65535 bs).ver (hd 65535 bs).size (hd 65535 bs).chunk k = true then mbytes (pA (hd 65535 bs).prod) (hd 65535 bs).ver (hd 65535 bs).size (hd 65535 bs).chunk (hd 65535 bs).dig (hsOf (hd 65535 bs).rest k) else []) : ownGood bs = (decide (by_ = bs) && !decide (bs.length = 0)) := by
  obtain ⟨p1, _⟩ := parse_eq h65 hpos hend
  by_cases hr : rightB (pA (hd 65535 bs).prod) (hd 65535 bs).ver (hd 65535 bs).size (hd 65535 bs).chunk k = true
  · rw [if_pos hr] at hby
    by_cases he : by_ = bs
    · have hG := p1.2 ⟨h, hr, by rw [← hby]; exact he⟩
      rw [hG, decide_eq_true he]
      have : bs.length ≠ 0 := by
        rw [← he, hby]
        unfold mbytes
        simp [leB]
      rw [decide_eq_false this]
      rfl
    · rw [decide_eq_false he, Bool.false_and]
      cases hG : ownGood bs with
      | false => rfl
      | true => exact absurd (hby.trans (p1.1 hG).2.2) he
  · rw [if_neg hr] at hby
    have hG : ownGood bs = false := by
      cases hG : ownGood bs with
      | false => rfl
      | true => exact absurd (p1.1 hG).2.1 hr
    rw [hG, hby]
    cases bs with
    | nil => rfl
    | cons b l => simp

section
variable {W w : World} {I : Nat → Option Obj} {F : List (Nat × Obj)}
/-- What was lent out comes back. -/
theorem St.thaw {w' : World} {J : Nat → Option Obj} {L0 F' : List (Nat × Obj)} (h0 : St W w I (L0 ++ F)) (hle : Le I J) (hJ : ∀ p ∈ L0, J p.1 = some p.2) (h' : St W w' J F') : St W w' I (L0 ++ F') := by
  refine ⟨h'.os, h'.tape, h'.output, ?_, ?_, fun b o hb => h'.imm b o (hle b o hb), ?_⟩
  · intro p hp
    rcases List.mem_append.1 hp with hp | hp
    · exact h'.imm _ _ (hJ p hp)
    · exact h'.own p hp
  · rw [List.map_append, List.nodup_append]
    have hn := h0.nodup
    rw [List.map_append, List.nodup_append] at hn
    refine ⟨hn.1, h'.nodup, ?_⟩
    intro a ha b hb he
    subst he
    obtain ⟨p, hp, rfl⟩ := List.mem_map.1 ha
    obtain ⟨q, hq, he⟩ := List.mem_map.1 hb
    have h1 := h'.apart q hq
    rw [he, hJ p hp] at h1
    cases h1
  · intro p hp
    rcases List.mem_append.1 hp with hp | hp
    · exact h0.apart p (List.mem_append.2 (.inl hp))
    · cases hx : I p.1 with
      | none => rfl
      | some o => have := hle _ _ hx; rw [h'.apart p hp] at this; cases this
/-- The bytes of a manifest whose chunks lie in a row of ours. -/
theorem rbytes_row {L0 : List (Nat × Obj)} (t : TB W I) (m : Man) (ok : m.Ok) (hs : List (List UInt8)) (hn : m.n = hs.length) (h32 : ∀ h ∈ hs, h.length = 32) (hr : Row 26 32 (.slice m.A m.n m.c) m.n (hcells hs) L0) (hps : m.prod.size ≤ 500000) (h : St W w I (L0 ++ F)) :
    Calls Tryd.prog 27 #[m.val] w fun e w' => ∃ v, e = .returned v ∧ FreshB W w' I (L0 ++ F) (if rightM m = true then mBy m hs else []) v := by
  obtain ⟨J, h1, h2, h3⟩ := St.freezes L0 h
  rw [hn] at hr
  have hin : HsIn m.A hs W J := ⟨h32, fun v L hv j u hj => by
    obtain ⟨g, off, cap, cur, hA, rfl, hc⟩ := hr.cells hj
    injection hA with e1 e2 e3
    refine ⟨g, off, e1, ?_⟩
    rw [cell_of_row v g (off + j) cur 26 (0, 0) (hv.imm _ _ (h2 (g, .cells cur 26) (by simp)))]
    exact hc⟩
  refine (rbytes (t.more h1) m ok hs hn hin hps h3).mono fun e w' ⟨v, he, A, c, L1, hv, hr1, h'⟩ => ⟨v, he, A, c, L1, hv, hr1, ?_⟩
  exact St.swap (A := L0) (B := L1) (St.thaw h h1 h2 h')
set_option maxRecDepth 100000 in
set_option maxHeartbeats 8000000 in
theorem rparse (t : TB W I) (p : Part) (hp : p.In W I) (hl : p.bs.length ≤ 100000) (hcap : p.bs.length ≤ p.c) (h : St W w I F) :
    Calls Tryd.prog 13 #[.slice p.A p.bs.length p.c] w (PaPost W I F p.bs) := by
  obtain ⟨A0, cap, bs⟩ := p
  simp only at hl hcap ⊢
  obtain ⟨b2, hb2⟩ : ∃ b, w.heap.size = b := ⟨_, rfl⟩
  have h1 := (h.alloc (.cells zman.cells 29)).alloc (.cells #[.slice A0 bs.length cap, .int .i64 0] 60)
  rw [World.size_alloc, hb2] at h1
  have hr1 : Rd W I (some bs) A0 bs.length cap 0 := ⟨rfl, rfl, by omega, hcap, hp⟩
  have h1 : SSc W _ I (b2 + 1) (some bs) _ := ⟨_, _, _, _, hr1, h1⟩
  obtain ⟨g, hg⟩ : ∃ g, g = b2 + 1 := ⟨_, rfl⟩
  rw [← hg] at h1
  have kT := fun (F' : List (Nat × Obj)) (v : World) (hv : SSc W v I g (some bs) F') => rtextof hv 65535 (by omega)
  have kT : ∀ v F', SSc W v I g (some bs) F' → Calls Tryd.prog 35 #[.pointer (some ⟨g, 0, none⟩), .int .i64 65535] v fun e w' => e = .returned (.string (pA (hd 65535 bs).prod)) ∧ SSc W w' I g (hd2 65535 bs).2 F' := fun v F' h => kT F' v h
  have kF3 : ∀ v F', SSc W v I g (hd2 65535 bs).2 F' → Calls Tryd.prog 36 #[.pointer (some ⟨g, 0, none⟩), .int .i64 8] v fun e w' => e = .returned (.int .u64 ((hd 65535 bs).ver : Int)) ∧ SSc W w' I g (hd3 65535 bs).2 F' := fun v F' h => rfixedof h 8 (by omega)
  have kF4 : ∀ v F', SSc W v I g (hd3 65535 bs).2 F' → Calls Tryd.prog 36 #[.pointer (some ⟨g, 0, none⟩), .int .i64 4] v fun e w' => e = .returned (.int .u64 ((hd 65535 bs).size : Int)) ∧ SSc W w' I g (hd4 65535 bs).2 F' := fun v F' h => rfixedof h 4 (by omega)
  have kF5 : ∀ v F', SSc W v I g (hd4 65535 bs).2 F' → Calls Tryd.prog 36 #[.pointer (some ⟨g, 0, none⟩), .int .i64 2] v fun e w' => e = .returned (.int .u64 ((hd 65535 bs).chunk : Int)) ∧ SSc W w' I g (hd5 65535 bs).2 F' := fun v F' h => rfixedof h 2 (by omega)
  have kH6 : ∀ v F', SSc W v I g (hd5 65535 bs).2 F' → Calls Tryd.prog 37 #[.pointer (some ⟨g, 0, none⟩)] v fun e w' => e = .returned (.agg (bcells (hd 65535 bs).dig)) ∧ SSc W w' I g (hd 65535 bs).rest F' := fun v F' h => rhash h
  have kH : ∀ k v F', SSc W v I g (stN (hd 65535 bs).rest k) F' → Calls Tryd.prog 37 #[.pointer (some ⟨g, 0, none⟩)] v fun e w' => e = .returned (.agg (bcells (hsAt (hd 65535 bs).rest k))) ∧ SSc W w' I g (stN (hd 65535 bs).rest (k + 1)) F' := fun k v F' h => rhash h
  have hpl : (pA (hd 65535 bs).prod).size ≤ 65535 := by
    have h1 := leV_tk2 (some bs)
    have h2 : (hd 65535 bs).prod.length ≤ _ := tk_len _ _
    rw [pA_size]
    have h3 : leV (hd1 bs).1 < 65536 := h1
    omega
  have hdl : (hd 65535 bs).dig.length = 32 := pad32_len (tk_len _ _)
  obtain ⟨q1, q2, q3⟩ := hd_bounds 65535 bs
  have hok : ∀ dig : List UInt8, dig.length = 32 → ∀ (A : Option Addr) (n c : Nat), n ≤ 1000 → (hdM (hd 65535 bs) dig A n c).Ok := fun dig hd' A n c hn => hdM_ok hd' A n c (by omega)
  have hfin : ∀ k, k ≤ 65 → (∀ j, j < k → 0 < rsLen (stN (hd 65535 bs).rest j)) → (k = 65 ∨ rsLen (stN (hd 65535 bs).rest k) = 0) → (stN (hd 65535 bs).rest k = none → ownGood bs = false) ∧ (stN (hd 65535 bs).rest k ≠ none → ∀ by_ : List UInt8, (by_ = if rightB (pA (hd 65535 bs).prod) (hd 65535 bs).ver (hd 65535 bs).size (hd 65535 bs).chunk k = true then mbytes (pA (hd 65535 bs).prod) (hd 65535 bs).ver (hd 65535 bs).size (hd 65535 bs).chunk (hd 65535 bs).dig (hsOf (hd 65535 bs).rest k) else []) → ownGood bs = (decide (by_ = bs) && !decide (bs.length = 0))) ∧ (ownGood bs = true → hd 96 bs = hd 65535 bs ∧ pcnt (hd 96 bs) = k) := fun k h1 h2 h3 => ⟨rparse_bad h1 h2 h3, rparse_some h1 h2 h3, fun hG => ⟨((parse_eq h1 h2 h3).2 hG).1.symm, ((parse_eq h1 h2 h3).2 hG).2.symm⟩⟩
  obtain ⟨S2, hS2⟩ : ∃ S, (hd2 65535 bs).2 = S := ⟨_, rfl⟩
  obtain ⟨S3, hS3⟩ : ∃ S, (hd3 65535 bs).2 = S := ⟨_, rfl⟩
  obtain ⟨S4, hS4⟩ : ∃ S, (hd4 65535 bs).2 = S := ⟨_, rfl⟩
  obtain ⟨S5, hS5⟩ : ∃ S, (hd5 65535 bs).2 = S := ⟨_, rfl⟩
  rw [hS2] at kT kF3
  rw [hS3] at kF3 kF4
  rw [hS4] at kF4 kF5
  rw [hS5] at kF5 kH6
  unfold PaPost
  obtain ⟨G, hG⟩ : ∃ G, ownGood bs = G := ⟨_, rfl⟩
  rw [hG]
  rw [hG] at hfin
  obtain ⟨Q, hQ⟩ : ∃ Q : Ending → World → Prop, Q = PaPost0 W I F G (fun A c => hdM (hd 96 bs) (hd 96 bs).dig A (pcnt (hd 96 bs)) c) (pcnt (hd 96 bs)) (hsOf (hd 96 bs).rest (pcnt (hd 96 bs))) := ⟨_, rfl⟩
  rw [← hQ]
  have hQ1 : ∀ (k : Nat) (A : Option Addr) (c : Nat) (L0 : List (Nat × Obj)) (w' : World), G = true → hd 96 bs = hd 65535 bs → pcnt (hd 96 bs) = k → Row 26 32 (.slice A k c) k (hcells (hsOf (hd 65535 bs).rest k)) L0 → St W w' I (L0 ++ F) → Q (.returned (.tuple #[(hdM (hd 65535 bs) (hd 65535 bs).dig A k c).val, .int .i64 0])) w' := fun k A c L0 w' g1 g2 g3 g4 g5 => by
    rw [hQ]
    unfold PaPost0
    rw [g3, g2]
    exact ⟨fun _ => ⟨A, c, L0, rfl, g4, g5⟩, fun h => by rw [g1] at h; cases h⟩
  have hQ0 : ∀ w', G = false → St W w' I F → Q (.returned (.tuple #[zman.val, .int .i64 131])) w' := fun w' g1 g2 => by
    rw [hQ]
    exact ⟨fun h => (by rw [g1] at h; cases h), fun _ => ⟨rfl, g2⟩⟩
  clear hQ hG
  generalize hd 96 bs = H96 at *
  generalize hd 65535 bs = H at *
  obtain ⟨prod, ver, size, chunk, dig, rest⟩ := H
  simp only at *
  have KT := Lib.hid kT; have KF3 := Lib.hid kF3; have KF4 := Lib.hid kF4; have KF5 := Lib.hid kF5; have KH6 := Lib.hid kH6; have KH := Lib.hid kH; have HOK := Lib.hid hok; have HDL := Lib.hid hdl; have HFIN := Lib.hid hfin; have HPL := Lib.hid hpl; have TT := Lib.hid t; have HQ1 := Lib.hid hQ1; have HQ0 := Lib.hid hQ0; have HP := Lib.hid hp
  clear kT kF3 kF4 kF5 kH6 kH hok hdl hS2 hS3 hS4 hS5 hfin hpl t hQ1 hQ0 hp hr1
  have q2i : (size : Int) < 4294967296 := by omega
  have q3i : (chunk : Int) < 65536 := by omega
  have hlit := zman_lit
  have H1 := Lib.hid h1; have HLIT := Lib.hid hlit; have HG := Lib.hid hg
  clear h h1 hlit
  generalize hzc : zman.cells = zc at *
  have hx := HLIT.out
  subst hx
  go_enter Tryd.func13, Tryd.ntmps13
  go_wp2_with fail
  clear hb2
  (try rw [← hg])
  refine (KT.out _ _ H1.out).mono ?_
  rintro e w2 ⟨rfl, A2, n2, c2, x2, hr2, h2⟩
  clear hg
  have h3 := h2.alloc (.cells (Value.string ⟨#[]⟩ :: .int .u64 0 :: .int .i64 0 :: .int .i64 0 :: .int .u8 0 :: .int .u8 0 :: .int .u8 0 :: .int .u8 0 :: .int .u8 0 :: .int .u8 0 :: .int .u8 0 :: .int .u8 0 :: .int .u8 0 :: .int .u8 0 :: .int .u8 0 :: .int .u8 0 :: .int .u8 0 :: .int .u8 0 :: .int .u8 0 :: .int .u8 0 :: .int .u8 0 :: .int .u8 0 :: .int .u8 0 :: .int .u8 0 :: .int .u8 0 :: .int .u8 0 :: .int .u8 0 :: .int .u8 0 :: .int .u8 0 :: .int .u8 0 :: .int .u8 0 :: .int .u8 0 :: .int .u8 0 :: .int .u8 0 :: .int .u8 0 :: .int .u8 0 :: .slice none 0 0 :: []).toArray 29)
  have hbuild := fun w => run_build_man1 (pA prod) w
  have okz : (⟨pA prod, 0, 0, 0, z32, none, 0, 0⟩ : Man).Ok := ⟨rfl, by simp, by simp, by simp, by simp, by simp, by simp, by simp⟩
  obtain ⟨mc, hmc⟩ : ∃ mc, mc = Man.cells ⟨pA prod, 0, 0, 0, z32, none, 0, 0⟩ := ⟨_, rfl⟩
  have hms : mc.size = 37 := by rw [hmc]; exact Man.cells_size okz
  have hone : mc.all (·.oneCell') = true := by rw [hmc]; exact Man.one _
  rw [← hmc] at hbuild
  have ix : (Tryd.prog.info? 29).map (·.size) = some mc.size := by rw [hms]; kernel_rfl
  have fx : 0 + mc.size ≤ ((Value.string ⟨#[]⟩ :: .int .u64 0 :: .int .i64 0 :: .int .i64 0 :: .int .u8 0 :: .int .u8 0 :: .int .u8 0 :: .int .u8 0 :: .int .u8 0 :: .int .u8 0 :: .int .u8 0 :: .int .u8 0 :: .int .u8 0 :: .int .u8 0 :: .int .u8 0 :: .int .u8 0 :: .int .u8 0 :: .int .u8 0 :: .int .u8 0 :: .int .u8 0 :: .int .u8 0 :: .int .u8 0 :: .int .u8 0 :: .int .u8 0 :: .int .u8 0 :: .int .u8 0 :: .int .u8 0 :: .int .u8 0 :: .int .u8 0 :: .int .u8 0 :: .int .u8 0 :: .int .u8 0 :: .int .u8 0 :: .int .u8 0 :: .int .u8 0 :: .int .u8 0 :: .slice none 0 0 :: []).toArray : Array Value).size := by rw [hms]; decide
  have H3 := Lib.hid h3; have HR2 := Lib.hid hr2; have HB := Lib.hid hbuild; have HMS := Lib.hid hms; have HMC := Lib.hid hmc; have HO := Lib.hid hone; have IX := Lib.hid ix; have FX := Lib.hid fx
  clear h2 h3 hr2 hbuild hms hmc hone ix fx H1 KT okz
  go_wp2_with (first
    | (with_reducible refine wpList_build_st rfl 29 _ rfl _ ?_ (HB.out _) ?_; · go_simp)
    | (with_reducible refine wpList_store_st rfl 29 (.tmp 5) (.tmp 11) rfl (g := w2.heap.size) (off := 0) mc rfl rfl H3.out FX.out IX.out HO.out ?_; intro w6 h6; refine Hid.out ?_))
  refine Lib.hid ?_
  rw [setMany_whole _ _ (by rw [Array.length_toList, HMS.out]; rfl), Array.toArray_toList] at h6
  generalize w2.heap.size = bm at *
  generalize hzc : (Value.string ⟨#[]⟩ :: .int .u64 0 :: .int .i64 0 :: .int .i64 0 :: .int .u8 0 :: .int .u8 0 :: .int .u8 0 :: .int .u8 0 :: .int .u8 0 :: .int .u8 0 :: .int .u8 0 :: .int .u8 0 :: .int .u8 0 :: .int .u8 0 :: .int .u8 0 :: .int .u8 0 :: .int .u8 0 :: .int .u8 0 :: .int .u8 0 :: .int .u8 0 :: .int .u8 0 :: .int .u8 0 :: .int .u8 0 :: .int .u8 0 :: .int .u8 0 :: .int .u8 0 :: .int .u8 0 :: .int .u8 0 :: .int .u8 0 :: .int .u8 0 :: .int .u8 0 :: .int .u8 0 :: .int .u8 0 :: .int .u8 0 :: .int .u8 0 :: .int .u8 0 :: .slice none 0 0 :: []).toArray = zc at *
  have hzs : zc.size = 37 := by rw [← hzc]; rfl
  have hzo : zc.all (·.oneCell') = true := by
    have h9 := Man.one zman
    rw [zman_lit] at h9
    rw [← hzc]
    exact h9
  have hzi : (Tryd.prog.info? 29).map (·.size) = some zc.size := by rw [hzs]; kernel_rfl
  have hzf : 0 + zc.size ≤ zc.size := by omega
  have HZC := Lib.hid hzc; have HZS := Lib.hid hzs; have HZO := Lib.hid hzo; have HZI := Lib.hid hzi; have HZF := Lib.hid hzf
  clear hzc hzs hzo hzi hzf HLIT
  obtain ⟨M0, hM0⟩ : ∃ M : Int → Int → Int → List UInt8 → Man, M = fun v s c d => ⟨pA prod, v, s, c, d, none, 0, 0⟩ := ⟨_, rfl⟩
  have hp1 : ∀ v s c d x, (M0 v s c d).cells.setIfInBounds 1 (.int .u64 x) = (M0 x s c d).cells := fun v s c d x => by rw [hM0]; exact man_put1 _ _
  have hp2 : ∀ v s c d x, (M0 v s c d).cells.setIfInBounds 2 (.int .i64 x) = (M0 v x c d).cells := fun v s c d x => by rw [hM0]; exact man_put2 _ _
  have hp3 : ∀ v s c d x, (M0 v s c d).cells.setIfInBounds 3 (.int .i64 x) = (M0 v s x d).cells := fun v s c d x => by rw [hM0]; exact man_put3 _ _
  have hg1 : ∀ v s c d, (M0 v s c d).cells[1]? = some (.int .u64 v) := fun v s c d => by rw [hM0]; exact Man.g1 _
  have hg2 : ∀ v s c d, (M0 v s c d).cells[2]? = some (.int .i64 s) := fun v s c d => by rw [hM0]; exact Man.g2 _
  have hg3 : ∀ v s c d, (M0 v s c d).cells[3]? = some (.int .i64 c) := fun v s c d => by rw [hM0]; exact Man.g3 _
  have hm0 : mc = (M0 0 0 0 z32).cells := by rw [hM0]; exact HMC.out
  rw [hm0] at h6
  have h7 := St.swap (A := [_]) (B := [_]) h6
  have H6 : Hid (SSc W w6 I g S2 ((bm, .cells (M0 0 0 0 z32).cells 29 (0, 0)) :: (b2, .cells zc 29 (0, 0)) :: F)) := Lib.hid ⟨_, _, _, _, HR2.out, h7⟩
  have HM0 := Lib.hid hM0; have HP1 := Lib.hid hp1; have HP2 := Lib.hid hp2; have HP3 := Lib.hid hp3; have HG1 := Lib.hid hg1; have HG2 := Lib.hid hg2; have HG3 := Lib.hid hg3
  clear h6 h7 hM0 hp1 hp2 hp3 hg1 hg2 hg3 hm0 HB HMS HMC HO IX FX H3 HR2
  obtain ⟨F1, hF1⟩ : ∃ F1, F1 = ((b2, Obj.cells zc 29 (0, 0)) :: F) := ⟨_, rfl⟩
  rw [← hF1] at H6
  have HF1 := Lib.hid hF1
  clear hF1
  have kk := KF3.out _ _ H6.out
  have KK := Lib.hid kk
  clear kk KF3 H6
  go_wp2_with fail
  refine KK.out.mono ?_
  rintro e w3 ⟨rfl, A3, n3, c3, x3, hr3, h3⟩
  have y0 : w3.cell? ⟨bm, 1, none⟩ = (M0 0 0 0 z32).cells[1]? := h3.cell (g := bm) (cs := (M0 0 0 0 z32).cells) (t := 29) (fr := (0, 0)) (by simp) 1
  rw [HG1.out] at y0
  have y1 : w3.frozen? ⟨bm, 1, none⟩ = false := h3.frozen (g := bm) (cs := (M0 0 0 0 z32).cells) (t := 29) (by simp) 1
  have h83 := St.set (A := [(g, .cells #[.slice A3 n3 c3, .int .i64 x3] 60 (0, 0))]) (g := bm) (cs := (M0 0 0 0 z32).cells) (t := 29) (fr := (0, 0)) (B := F1) h3 1 (.int .u64 ver)
  rw [HP1.out] at h83
  have H83 : Hid (SSc W (w3.setCell ⟨bm, 1, none⟩ (.int .u64 ver)) I g S3 ((bm, .cells (M0 ver 0 0 z32).cells 29 (0, 0)) :: F1)) := Lib.hid ⟨_, _, _, _, hr3, h83⟩
  clear h3 h83 hr3 KK
  have kk := KF4.out _ _ H83.out
  have KK := Lib.hid kk
  clear kk KF4 H83
  go_wp2_with fail
  refine KK.out.mono ?_
  rintro e w4 ⟨rfl, A4, n4, c4, x4, hr4, h4⟩
  have y0 : w4.cell? ⟨bm, 2, none⟩ = (M0 ver 0 0 z32).cells[2]? := h4.cell (g := bm) (cs := (M0 ver 0 0 z32).cells) (t := 29) (fr := (0, 0)) (by simp) 2
  rw [HG2.out] at y0
  have y1 : w4.frozen? ⟨bm, 2, none⟩ = false := h4.frozen (g := bm) (cs := (M0 ver 0 0 z32).cells) (t := 29) (by simp) 2
  have h84 := St.set (A := [(g, .cells #[.slice A4 n4 c4, .int .i64 x4] 60 (0, 0))]) (g := bm) (cs := (M0 ver 0 0 z32).cells) (t := 29) (fr := (0, 0)) (B := F1) h4 2 (.int .i64 size)
  rw [HP2.out] at h84
  have H84 : Hid (SSc W (w4.setCell ⟨bm, 2, none⟩ (.int .i64 size)) I g S4 ((bm, .cells (M0 ver size 0 z32).cells 29 (0, 0)) :: F1)) := Lib.hid ⟨_, _, _, _, hr4, h84⟩
  clear h4 h84 hr4 KK
  have kk := KF5.out _ _ H84.out
  have KK := Lib.hid kk
  clear kk KF5 H84
  go_wp2_with fail
  refine KK.out.mono ?_
  rintro e w5 ⟨rfl, A5, n5, c5, x5, hr5, h5⟩
  have y0 : w5.cell? ⟨bm, 3, none⟩ = (M0 ver size 0 z32).cells[3]? := h5.cell (g := bm) (cs := (M0 ver size 0 z32).cells) (t := 29) (fr := (0, 0)) (by simp) 3
  rw [HG3.out] at y0
  have y1 : w5.frozen? ⟨bm, 3, none⟩ = false := h5.frozen (g := bm) (cs := (M0 ver size 0 z32).cells) (t := 29) (by simp) 3
  have h85 := St.set (A := [(g, .cells #[.slice A5 n5 c5, .int .i64 x5] 60 (0, 0))]) (g := bm) (cs := (M0 ver size 0 z32).cells) (t := 29) (fr := (0, 0)) (B := F1) h5 3 (.int .i64 chunk)
  rw [HP3.out] at h85
  have H85 : Hid (SSc W (w5.setCell ⟨bm, 3, none⟩ (.int .i64 chunk)) I g S5 ((bm, .cells (M0 ver size chunk z32).cells 29 (0, 0)) :: F1)) := Lib.hid ⟨_, _, _, _, hr5, h85⟩
  clear h5 h85 hr5 KK
  have kH7 := KH6.out _ _ H85.out
  have KH7 := Lib.hid kH7
  clear kH7 KH6
  go_wp2_with fail
  refine KH7.out.mono ?_
  rintro e w7 ⟨rfl, A7, n7, c7, x7, hr7, h7⟩
  have h8 := St.swap (A := [_]) (B := [_]) h7
  have okm : (M0 ver size chunk z32).Ok := by rw [HM0.out]; exact ⟨rfl, by simp, by simp only; omega, by simp only; omega, by simp only; omega, by simp only; omega, by simp only; omega, by simp⟩
  have hcs : (M0 ver size chunk z32).cells.size = 37 := Man.cells_size okm
  have hset : setMany (M0 ver size chunk z32).cells 4 (bcells dig).toList = (M0 ver size chunk dig).cells := by
    have h9 := man_setdig _ okm dig HDL.out
    rw [h9, HM0.out]
  have hds : (bcells dig).size = 32 := by rw [bcells_size, HDL.out]
  have hdi : (Tryd.prog.info? 26).map (·.size) = some (bcells dig).size := by rw [hds]; kernel_rfl
  have hdf : 4 + (bcells dig).size ≤ (M0 ver size chunk z32).cells.size := by rw [hds, hcs]; decide
  have hdo := bcells_one dig
  have H8 := Lib.hid h8; have HR7 := Lib.hid hr7; have HDI := Lib.hid hdi; have HDF := Lib.hid hdf; have HDO := Lib.hid hdo; have HSET := Lib.hid hset
  clear h7 h8 hr7 hdi hdf hdo hds KH7 hset hcs okm H85
  go_wp2_with (with_reducible refine wpList_store_st rfl 26 (.tmp 25) (.tmp 24) rfl (g := bm) (off := 4) (bcells dig) rfl rfl H8.out HDF.out HDI.out HDO.out ?_; intro w8 h9; refine Hid.out ?_)
  refine Lib.hid ?_
  rw [HSET.out] at h9
  obtain ⟨M, hM⟩ : ∃ M : Option Addr → Nat → Nat → Man, M = fun A n c => hdM ⟨prod, ver, size, chunk, dig, rest⟩ dig A n c := ⟨_, rfl⟩
  have hMok : ∀ (A : Option Addr) (n c : Nat), n ≤ 1000 → (M A n c).Ok := fun A n c hn => by rw [hM]; exact HOK.out dig HDL.out A n c hn
  have hMz : M0 ver size chunk dig = M none 0 0 := by rw [hM, HM0.out]; rfl
  rw [hMz, HF1.out] at h9
  have fac : ∀ (A : Option Addr) (n c : Nat), n ≤ 1000 → ∀ (v : World) (J : Nat → Option Obj) (L : List (Nat × Obj)), St W v J L → (bm, Obj.cells (M A n c).cells 29 (0, 0)) ∈ L → v.cell? ⟨bm, 36, none⟩ = some (.slice A n c) := fun A n c hn v J L hv hm => (man_cells (hMok A n c hn) hv hm).2.2.2.2.trans (by rw [hM]; rfl)
  have hset36 : ∀ (A : Option Addr) (n c : Nat), n ≤ 1000 → ∀ (A' : Option Addr) (n' c' : Nat), (M A n c).cells.setIfInBounds 36 (.slice A' n' c') = (M A' n' c').cells := fun A n c hn A' n' c' => by
    rw [man_set36 _ (hMok A n c hn), hM]
    rfl
  have hr0 : Row 26 32 (.slice none 0 0) 0 (hcells (hsOf rest 0)) [] := Row.nil _ _
  have H9 : Hid (SSc W w8 I g (stN rest 0) ((bm, .cells (M none 0 0).cells 29 (0, 0)) :: ([] ++ ((b2, .cells zc 29 (0, 0)) :: F)))) := Lib.hid ⟨_, _, _, _, HR7.out, St.swap (A := [_]) (B := [_]) h9⟩
  have FAC := Lib.hid fac; have HSET36 := Lib.hid hset36; have HMOK := Lib.hid hMok; have HM := Lib.hid hM; have HR0 := Lib.hid hr0
  clear h9 fac hset36 hMok hM hMz HSET HDI HDF HDO H8 hr0 HR7 HM0 HP1 HP2 HP3 HG1 HG2 HG3
  go_wp2_with fail
  go_loopw [] (fun wr => ∃ (k : Nat) (A : Option Addr) (c : Nat) (L0 : List (Nat × Obj)), k ≤ 65 ∧ (∀ j, j < k → 0 < rsLen (stN rest j)) ∧ Row 26 32 (.slice A k c) k (hcells (hsOf rest k)) L0 ∧ SSc W wr I g (stN rest k) ((bm, .cells (M A k c).cells 29 (0, 0)) :: (L0 ++ ((b2, .cells zc 29 (0, 0)) :: F)))) (fun wr => 66 - chLen (wr.cell? ⟨bm, 36, none⟩))
  case atStart => exact ⟨0, none, 0, [], by omega, fun j hj => by omega, HR0.out, H9.out⟩
  case round =>
    obtain ⟨k, A, c, L0, hk, hpos, hrow, hst⟩ := hrel
    clear H9
    obtain ⟨A1, n1, c1, x1, hr1, hs1⟩ := hst
    obtain ⟨d0, d1, f0, f1⟩ := SSc.facts hs1
    have d36 := FAC.out A k c (by omega) _ _ _ hs1 (by simp)
    have hn1 : n1 = rsLen (stN rest k) := by
      cases hS : stN rest k with
      | none => rw [hS] at hr1; exact hr1.2.2.1
      | some r => rw [hS] at hr1; exact hr1.2.1
    have hch : chLen (some (Value.slice A k c)) = k := rfl
    by_cases hgo : 0 < n1 ∧ k < 65
    · obtain ⟨hn0, hk65⟩ := hgo
      have kS := KH.out k
      obtain ⟨X, hX⟩ : ∃ X, bcells (hsAt rest k) = X := ⟨_, rfl⟩
      rw [hX] at kS
      have hXs : X.size = 32 := by rw [← hX, bcells_size]; exact pad32_len (tk_len _ _)
      have hone : ∀ u ∈ X.toList, u.oneCell' = true := by
        intro u hu
        have h1 := bcells_one (hsAt rest k)
        rw [← hX] at hu
        exact Array.all_eq_true_iff_forall_mem.1 h1 u (Array.mem_toList_iff.1 hu)
      have hadd : hcells (hsOf rest k) ++ X.toList = hcells (hsOf rest (k + 1)) := by
        rw [hsOf_succ, hcells_add, ← hX]
        simp [bcells]
      have facts : ∀ (v : World) (L : List (Nat × Obj)), St W v I L → (bm, Obj.cells (M A k c).cells 29 (0, 0)) ∈ L → v.cell? ⟨bm, 36, none⟩ = some (.slice A k c) := fun v L hv hm => FAC.out A k c (by omega) v I L hv hm
      have kS2 : ∀ v, St W v I ((g, .cells #[.slice A1 n1 c1, .int .i64 x1] 60 (0, 0)) :: (bm, .cells (M A k c).cells 29 (0, 0)) :: (L0 ++ ((b2, .cells zc 29 (0, 0)) :: F))) → Calls Tryd.prog 37 #[.pointer (some ⟨g, 0, none⟩)] v fun e w' => e = .returned (.agg X) ∧ SSc W w' I g (stN rest (k + 1)) ((bm, .cells (M A k c).cells 29 (0, 0)) :: (L0 ++ ((b2, .cells zc 29 (0, 0)) :: F))) := fun v h => kS v _ ⟨_, _, _, _, hr1, h⟩
      have hpos2 : ∀ j, j < k + 1 → 0 < rsLen (stN rest j) := fun j hj => by
        rcases Nat.lt_or_ge j k with h | h
        · exact hpos j h
        · obtain rfl : j = k := by omega
          omega
      have CS := Lib.hid kS2; have HADD := Lib.hid hadd; have HONE := Lib.hid hone; have HROW := Lib.hid hrow; have HX := Lib.hid hX; have HST := Lib.hid hs1; have FACTS := Lib.hid facts; have HPOS2 := Lib.hid hpos2; have HCH := Lib.hid hch
      have S0 : wr.drew.cell? ⟨bm, 36, none⟩ = some (.slice A k c) := facts _ _ hs1.drew1 (by simp)
      have F4 : (k : Int) < 65 := by omega
      have F5 : (0 : Int) < (n1 : Int) := by omega
      have hmsr : chLen (wr.cell? ⟨bm, 36, none⟩) = k := by rw [d36]; rfl
      have HMSR := Lib.hid hmsr
      clear kS kS2 hadd hone hrow hX hs1 facts hr1 hpos hpos2 hch hmsr hn1
      go_wp2_with fail
      go_region_law (first
        | (go_simp; go_at_call 37; refine (CS.out _ (by first | exact HST.out.drew1 | exact HST.out.drew _ | exact HST.out)).mono ?_; rintro e w5 ⟨rfl, A2, n2, c2, x2, hr2, h5⟩; have S5 := FACTS.out _ _ h5 (by simp); have S5a : ∀ o, (w5.alloc o).cell? ⟨bm, 36, none⟩ = some (.slice A k c) := fun o => cell_old S5; dsimp only)
        | (refine step_append_row (F := [(g, .cells #[.slice A2 n2 c2, .int .i64 x2] 60 (0, 0)), (bm, .cells (M A k c).cells 29 (0, 0))] ++ ((b2, .cells zc 29 (0, 0)) :: F)) rfl (.tmp 39) (.tmp 42) _ rfl 26 (.agg #[.int .u8 0, .int .u8 0, .int .u8 0, .int .u8 0, .int .u8 0, .int .u8 0, .int .u8 0, .int .u8 0, .int .u8 0, .int .u8 0, .int .u8 0, .int .u8 0, .int .u8 0, .int .u8 0, .int .u8 0, .int .u8 0, .int .u8 0, .int .u8 0, .int .u8 0, .int .u8 0, .int .u8 0, .int .u8 0, .int .u8 0, .int .u8 0, .int .u8 0, .int .u8 0, .int .u8 0, .int .u8 0, .int .u8 0, .int .u8 0, .int .u8 0, .int .u8 0]) 32 32 Tryd.underlying27 (by kernel_rfl) rfl (by omega) rfl HROW.out (St.swap (A := [_, _]) (St.alloc_ h5 _)) rfl (Src.newS _ 32 _ 26 rfl 1 (by rw [fold32 X hXs _ rfl]; exact hXs)) (by rw [fold32 X hXs _ rfl]; exact HONE.out) (k + 1) rfl (hcells (hsOf rest (k + 1))) (by rw [fold32 X hXs _ rfl]; exact HADD.out) (by unfold maxLen; omega) (by omega) ?_; intro A6 c6 w6 L6 hr6 h6; have S6 : w6.cell? ⟨bm, 36, none⟩ = some (.slice A k c) := FACTS.out _ _ h6 (by simp); have Z6 : w6.frozen? ⟨bm, 36, none⟩ = false := h6.frozen (g := bm) (t := 29) (cs := (M A k c).cells) (by simp) 36; dsimp only))
      all_goals
        have h7 := St.set (A := L6 ++ [(g, Obj.cells #[.slice A2 n2 c2, .int .i64 x2] 60 (0, 0))]) (g := bm) (cs := (M A k c).cells) (t := 29) (fr := (0, 0)) (B := (b2, .cells zc 29 (0, 0)) :: F) (by rw [List.append_assoc]; exact h6) 36 (.slice A6 (k + 1) c6)
        rw [HSET36.out A k c (by omega), List.append_assoc] at h7
        have h9 := St.swap (A := L6) (B := [_, _]) h7
        have hm2 : ∀ v, St W v I ([(g, .cells #[.slice A2 n2 c2, .int .i64 x2] 60 (0, 0)), (bm, .cells (M A6 (k + 1) c6).cells 29 (0, 0))] ++ (L6 ++ ((b2, .cells zc 29 (0, 0)) :: F))) → chLen (v.cell? ⟨bm, 36, none⟩) = k + 1 := fun v hv => by rw [FAC.out A6 (k + 1) c6 (by omega) _ _ _ hv (by simp)]; rfl
        have H9 := Lib.hid h9; have HR6 := Lib.hid hr6; have HR2 := Lib.hid hr2; have HM2 := Lib.hid hm2
        clear h7 h9 hr6 h6 S6 Z6 S0 h5 hr2 S5 S5a hm2 d36 d0 d1 f0 f1
        go_wp2_with fail
        refine ⟨⟨k + 1, A6, c6, L6, by omega, HPOS2.out, HR6.out, _, _, _, _, HR2.out, H9.out⟩, ?_⟩
        rw [HM2.out _ H9.out, HMSR.out]
        omega
    · have hend : k = 65 ∨ rsLen (stN rest k) = 0 := by omega
      obtain ⟨fin1, fin2, fin3⟩ := HFIN.out k hk hpos hend
      have okM := HMOK.out A k c (by omega)
      have hsz := Man.cells_size okM
      have hmo := Man.one (M A k c)
      have hmi : (Tryd.prog.info? 29).map (·.size) = some (M A k c).cells.size := by rw [hsz]; kernel_rfl
      have hmf : 0 + (M A k c).cells.size ≤ zc.size := by rw [hsz, HZS.out]; omega
      have hhin : ∀ L v, St W v I (L0 ++ L) → ∃ J, Le I J ∧ True := fun L v _ => ⟨I, Le.refl _, trivial⟩
      obtain ⟨mk, hmk⟩ : ∃ mk, mk = (M A k c).cells := ⟨_, rfl⟩
      have hzb : ∀ w, (Instr.build 29 #[]).run Tryd.prog w = .ok (.agg zc) w := fun w => by
        have h := run_build_zero w
        rw [HZC.out] at h
        exact h
      have hzv : zman.val = .agg zc := by rw [Man.val, HZC.out]
      have HZB := Lib.hid hzb; have HZV := Lib.hid hzv
      clear hzb hzv
      have hval : (hdM ⟨prod, ver, size, chunk, dig, rest⟩ dig A k c).val = .agg mk := by rw [hmk, HM.out]; rfl
      rw [← hmk] at hmo hmi hmf hsz hs1
      have FIN1 := Lib.hid fin1; have FIN2 := Lib.hid fin2; have FIN3 := Lib.hid fin3; have HSZ := Lib.hid hsz; have HMO := Lib.hid hmo; have HMI := Lib.hid hmi; have HMF := Lib.hid hmf; have HMKV := Lib.hid hmk; have HVAL := Lib.hid hval; have HROW := Lib.hid hrow; have HS := Lib.hid hs1; have HR1 := Lib.hid hr1; have OKM := Lib.hid okM
      clear fin1 fin2 fin3 hsz hmo hmi hmf hmk hval hrow hs1 hr1 okM hpos hend hhin hch HFIN HOK KH HSET36 FAC HMOK
      by_cases hn0 : n1 = 0
      · have hn0' : (n1 : Int) = 0 := by omega
        clear hgo hn1 hn0
        cases hS : stN rest k with
        | none =>
          have hx0 : x1 ≠ 0 := by
            have h9 := HR1.out
            rw [hS] at h9
            rintro rfl
            rcases h9.1 with h | h <;> cases h
          obtain rfl : G = false := FIN1.out hS
          have HSN := Lib.hid hS
          clear hS 
          go_wp2_with fail
          go_quiet (fail)
          have hsb := St.swap (A := (g, _) :: (bm, _) :: L0) (B := [(b2, _)]) (HS.out.drew nq)
          have HSB := Lib.hid hsb
          clear hsb
          go_wp2_with (first
            | (with_reducible refine wpList_build_st rfl 29 _ rfl _ ?_ (HZB.out _) ?_; · go_simp)
            | (with_reducible refine wpList_store_st rfl 29 (.tmp 2) (.tmp 63) rfl (g := b2) (off := 0) zc rfl rfl HSB.out HZF.out HZI.out HZO.out ?_; intro w12 h12; refine Hid.out ?_))
          refine Lib.hid ?_
          rw [setMany_whole _ _ (by rw [Array.length_toList]), Array.toArray_toList] at h12
          have H12 := Lib.hid h12
          clear h12
          go_wp2_with fail
          refine bodyPost_ret (results_row_tmp rfl _ _ b2 29 zc (0, 0) _ rfl (H12.out.own (b2, _) (List.mem_cons_self ..)) Tryd.underlying29 rfl HZI.out) rfl ?_
          have hq := HQ0.out _ (by simp) (St.weaken (A := (b2, _) :: (g, _) :: (bm, _) :: L0) (by have h9 := H12.out; simpa using h9))
          rw [HZV.out] at hq
          exact hq
        | some r =>
          have h9 := HR1.out
          rw [hS] at h9
          obtain ⟨rfl, -⟩ := h9
          have hne : stN rest k ≠ none := by rw [hS]; simp
          have fin2 := FIN2.out hne
          clear hS hne
          have hsw := St.swap (A := [_, _]) (B := L0) HS.out
          have kB := fun (v : World) (hv : St W v I (L0 ++ ([(g, .cells #[.slice A1 n1 c1, .int .i64 0] 60 (0, 0)), (bm, .cells mk 29 (0, 0))] ++ ((b2, .cells zc 29 (0, 0)) :: F)))) => rbytes_row TT.out (M A k c) OKM.out (hsOf rest k) (by rw [HM.out, hsOf_len]; rfl) (hsOf_32 _ _) (by rw [HM.out]; exact HROW.out) (by rw [HM.out]; have := HPL.out; exact Nat.le_trans this (by omega)) hv
          obtain ⟨BY, hBY⟩ : ∃ BY, (if rightM (M A k c) = true then mBy (M A k c) (hsOf rest k) else []) = BY := ⟨_, rfl⟩
          rw [hBY, show (M A k c).val = .agg mk by rw [HMKV.out]; rfl] at kB
          have fin := fin2 BY (by rw [← hBY, HM.out]; rfl)
          have sx : ∀ v L, St W v I (L ++ (L0 ++ ([(g, .cells #[.slice A1 n1 c1, .int .i64 0] 60 (0, 0)), (bm, .cells mk 29 (0, 0))] ++ ((b2, .cells zc 29 (0, 0)) :: F)))) → v.cell? ⟨g, 1, none⟩ = some (.int .i64 0) ∧ v.rangeAt bm 0 mk.toList ∧ (convert 22 9 (.slice A0 bs.length cap)).run Tryd.prog v = .ok (.string (pA bs)) v := fun v L hv => ⟨hv.cell (g := g) (cs := #[.slice A1 n1 c1, .int .i64 0]) (t := 60) (fr := (0, 0)) (by simp) 1, hv.rangeAt (g := bm) (cs := mk) (t := 29) (fr := (0, 0)) (by simp) (fun j hj => by simp), conv_str (P := Tryd.prog) Tryd.underlying22 Tryd.underlying5 Tryd.underlying9 (c := cap) (HP.out _ _ hv)⟩
          have hul : Tryd.prog.underlying 29 = some _ := Tryd.underlying29
          have hmi2 : (Tryd.prog.info? 29).map (·.size) = some mk.toList.length := by rw [Array.length_toList]; exact HMI.out
          have HDW := Lib.hid hsw.drew1; have KB := Lib.hid kB; have SX := Lib.hid sx; have HUL := Lib.hid hul; have HMI2 := Lib.hid hmi2; have FIN := Lib.hid fin
          clear fin2 hsw kB hBY sx hul hmi2 fin HS HR1 FIN1 FIN2
          obtain ⟨BL, hBL⟩ : ∃ BL, bs.length = BL := ⟨_, rfl⟩
          obtain ⟨sb, hsb⟩ : ∃ s, pA bs = s := ⟨_, rfl⟩
          obtain ⟨sY, hsY⟩ : ∃ s, pA BY = s := ⟨_, rfl⟩
          have hcy : ∀ (v : World) (A : Option Addr) (c : Nat), Src v 1 A BY.length (BY.map bval) → (convert 22 9 (.slice A BY.length c)).run Tryd.prog v = .ok (.string sY) v := fun v A c h => by
            rw [← hsY]
            exact conv_str (P := Tryd.prog) Tryd.underlying22 Tryd.underlying5 Tryd.underlying9 (c := c) h
          have HCY := Lib.hid hcy
          rw [hsb, hBL] at SX
          rw [hBL] at FIN ⊢
          clear hcy
          by_cases heq : BY = bs
          case neg =>
            obtain rfl : G = false := by rw [FIN.out, decide_eq_false heq, Bool.false_and]
            have hs1 : (sY.toList == sb.toList) = false := str_ne _ _ (fun e => heq (by rw [← hsY, ← hsb] at e; have h := congrArg sB e; rwa [sB_pA, sB_pA] at h))
            have hs2 : (sY.toList != sb.toList) = true := by rw [bne, hs1]; rfl
            clear heq hBL FIN hsb hsY
            go_wp2_with fail
            refine wp_region_held_drew (S := fun v => v.cell? ⟨g, 1, none⟩ = some (.int .i64 0) ∧ v.rangeAt bm 0 mk.toList ∧ (convert 22 9 (.slice A0 BL cap)).run Tryd.prog v = .ok (.string sb) v) (by kernel_rfl) (SX.out _ [] HDW.out) (fun hHeld => ?_)
            refine wpAnyH_take (i := 0) (oi := ?_) (v := ?_) ?_ ?_ ?_ ?_ ?_ ?_ ?_ ?_
            rotate_left 2
            · (simp only [List.getElem?_toArray, List.getElem?_cons_succ, List.getElem?_cons_zero]; exact rfl)
            · kernel_rfl
            · kernel_rfl
            · kernel_rfl
            · exact fun _ _ _ h => h
            · first | (refine Or.inl ⟨by rfl, ?_⟩; intro w hSw; (try dsimp only at hSw); go_simp; try with_reducible rfl) | (refine Or.inr ⟨by rfl, ?_⟩; rfl)
            · assumption
            try simp only [Act.put, List.setIfInBounds_toArray, List.set_cons_zero, List.set_cons_succ]
            refine wpAnyH_take (i := 1) (oi := ?_) (v := ?_) ?_ ?_ ?_ ?_ ?_ ?_ ?_ ?_
            rotate_left 2
            · (simp only [List.getElem?_toArray, List.getElem?_cons_succ, List.getElem?_cons_zero]; exact rfl)
            · kernel_rfl
            · kernel_rfl
            · kernel_rfl
            · exact fun _ _ _ h => h
            · first | (refine Or.inl ⟨by rfl, ?_⟩; intro w hSw; (try dsimp only at hSw); go_simp; try with_reducible rfl) | (refine Or.inr ⟨by rfl, ?_⟩; rfl)
            · assumption
            try simp only [Act.put, List.setIfInBounds_toArray, List.set_cons_zero, List.set_cons_succ]
            refine wpAnyH_take (i := 2) (oi := ?_) (v := ?_) ?_ ?_ ?_ ?_ ?_ ?_ ?_ ?_
            rotate_left 2
            · (simp only [List.getElem?_toArray, List.getElem?_cons_succ, List.getElem?_cons_zero]; exact rfl)
            · kernel_rfl
            · kernel_rfl
            · kernel_rfl
            · exact fun _ _ _ h => h
            · first | (refine Or.inl ⟨by rfl, ?_⟩; intro w hSw; (try dsimp only at hSw); go_simp; try with_reducible rfl) | (refine Or.inr ⟨by rfl, ?_⟩; rfl)
            · assumption
            try simp only [Act.put, List.setIfInBounds_toArray, List.set_cons_zero, List.set_cons_succ]
            refine wpAnyH_take (i := 3) (oi := ?_) (v := ?_) ?_ ?_ ?_ ?_ ?_ ?_ ?_ ?_
            rotate_left 2
            · (simp only [List.getElem?_toArray, List.getElem?_cons_succ, List.getElem?_cons_zero]; exact rfl)
            · kernel_rfl
            · kernel_rfl
            · kernel_rfl
            · exact fun _ _ _ h => h
            · first | (first | ((refine yieldsIf_load_mid ?_ 29 (.tmp 5) ?_ bm 0 ?_ mk.toList _ ?_ HUL.out ?_ HMI2.out) <;> first | rfl | exact fun w h => h.2.1) | (refine Or.inl ⟨by rfl, ?_⟩; intro w hSw; obtain ⟨hS1, hS2, hS3⟩ := hSw; go_simp; try with_reducible rfl)) | (refine Or.inr ⟨by rfl, ?_⟩; rfl)
            · assumption
            try simp only [Act.put, List.setIfInBounds_toArray, List.set_cons_zero, List.set_cons_succ]
            refine wpAnyH_take (i := 4) (oi := ?_) (v := ?_) ?_ ?_ ?_ ?_ ?_ ?_ ?_ ?_
            rotate_left 2
            · (simp only [List.getElem?_toArray, List.getElem?_cons_succ, List.getElem?_cons_zero]; exact rfl)
            · kernel_rfl
            · kernel_rfl
            · kernel_rfl
            · exact fun _ _ _ h => h
            · first | (refine Or.inl ⟨by rfl, ?_⟩; intro w hSw; (try dsimp only at hSw); go_simp; try with_reducible rfl) | (refine Or.inr ⟨by rfl, ?_⟩; rfl)
            · assumption
            try simp only [Act.put, List.setIfInBounds_toArray, List.set_cons_zero, List.set_cons_succ]
            refine wpAnyH_take (i := 5) (oi := ?_) (v := ?_) ?_ ?_ ?_ ?_ ?_ ?_ ?_ ?_
            rotate_left 2
            · (simp only [List.getElem?_toArray, List.getElem?_cons_succ, List.getElem?_cons_zero]; exact rfl)
            · kernel_rfl
            · kernel_rfl
            · kernel_rfl
            · exact fun _ _ _ h => h
            · first | (refine Or.inl ⟨by rfl, ?_⟩; intro w hSw; (try dsimp only at hSw); go_simp; try with_reducible rfl) | (refine Or.inr ⟨by rfl, ?_⟩; rfl)
            · assumption
            try simp only [Act.put, List.setIfInBounds_toArray, List.set_cons_zero, List.set_cons_succ]
            refine wpAnyH_take (i := 6) (oi := ?_) (v := ?_) ?_ ?_ ?_ ?_ ?_ ?_ ?_ ?_
            rotate_left 2
            · (simp only [List.getElem?_toArray, List.getElem?_cons_succ, List.getElem?_cons_zero]; exact rfl)
            · kernel_rfl
            · kernel_rfl
            · kernel_rfl
            · exact fun _ _ _ h => h
            · first | (first | ((refine yieldsIf_load_mid ?_ 29 (.tmp 5) ?_ bm 0 ?_ mk.toList _ ?_ HUL.out ?_ HMI2.out) <;> first | rfl | exact fun w h => h.2.1) | (refine Or.inl ⟨by rfl, ?_⟩; intro w hSw; obtain ⟨hS1, hS2, hS3⟩ := hSw; go_simp; try with_reducible rfl)) | (refine Or.inr ⟨by rfl, ?_⟩; rfl)
            · assumption
            try simp only [Act.put, List.setIfInBounds_toArray, List.set_cons_zero, List.set_cons_succ]
            refine wpAnyH_take (i := 9) (oi := ?_) (v := ?_) ?_ ?_ ?_ ?_ ?_ ?_ ?_ ?_
            rotate_left 2
            · (simp only [List.getElem?_toArray, List.getElem?_cons_succ, List.getElem?_cons_zero]; exact rfl)
            · kernel_rfl
            · kernel_rfl
            · kernel_rfl
            · exact fun _ _ _ h => h
            · first | (refine Or.inl ⟨by rfl, ?_⟩; intro w hSw; (try dsimp only at hSw); go_simp; try with_reducible rfl) | (refine Or.inr ⟨by rfl, ?_⟩; rfl)
            · assumption
            try simp only [Act.put, List.setIfInBounds_toArray, List.set_cons_zero, List.set_cons_succ]
            refine wpAnyH_take (i := 10) (oi := ?_) (v := ?_) ?_ ?_ ?_ ?_ ?_ ?_ ?_ ?_
            rotate_left 2
            · (simp only [List.getElem?_toArray, List.getElem?_cons_succ, List.getElem?_cons_zero]; exact rfl)
            · kernel_rfl
            · kernel_rfl
            · kernel_rfl
            · exact fun _ _ _ h => h
            · first | (refine Or.inl ⟨by rfl, ?_⟩; intro w hSw; (try dsimp only at hSw); go_simp; try with_reducible rfl) | (refine Or.inr ⟨by rfl, ?_⟩; rfl)
            · assumption
            try simp only [Act.put, List.setIfInBounds_toArray, List.set_cons_zero, List.set_cons_succ]
            refine wpAnyH_ready (rs := [7]) (by kernel_rfl) (by simp) ?_
            refine AllReadyH.cons (o := ?_) ?_ (fun K hK => ?_) ?_
            rotate_left 1
            · (simp only [List.getElem?_toArray, List.getElem?_cons_succ, List.getElem?_cons_zero]; exact rfl)
            · go_simp
              (first | (go_at_call 27; (refine (KB.out _ HDW.out).mono ?_); rintro e wx ⟨v5, rfl, A5, c5, L5, rfl, hr5, hx⟩; have hcv := HCY.out wx A5 c5 (hr5.src fun p hp => hx.own p (List.mem_append.2 (.inl hp))); dsimp only))
              refine hK.out _ _ ?_ (fun hHeld => ?_)
              · (try dsimp only) <;> (exact SX.out _ _ hx)
              clear hK K
              try simp only [Act.put, List.setIfInBounds_toArray, List.set_cons_zero, List.set_cons_succ]
              refine wpAnyH_ready (rs := [8]) (by kernel_rfl) (by simp) ?_
              refine AllReadyH.cons (o := ?_) ?_ (fun K hK => ?_) ?_
              rotate_left 1
              · (simp only [List.getElem?_toArray, List.getElem?_cons_succ, List.getElem?_cons_zero]; exact rfl)
              · go_simp
                refine hK.out _ _ ?_ (fun hHeld => ?_)
                · (try dsimp only) <;> (exact SX.out _ _ hx)
                clear hK K
                try simp only [Act.put, List.setIfInBounds_toArray, List.set_cons_zero, List.set_cons_succ]
                refine wpAnyH_take (i := 11) (oi := ?_) (v := ?_) ?_ ?_ ?_ ?_ ?_ ?_ ?_ ?_
                rotate_left 2
                · (simp only [List.getElem?_toArray, List.getElem?_cons_succ, List.getElem?_cons_zero]; exact rfl)
                · kernel_rfl
                · kernel_rfl
                · kernel_rfl
                · exact fun _ _ _ h => h
                · first | (refine Or.inl ⟨by rfl, ?_⟩; intro w hSw; (try dsimp only at hSw); go_simp; try with_reducible rfl) | (refine Or.inr ⟨by rfl, ?_⟩; rfl)
                · assumption
                try simp only [Act.put, List.setIfInBounds_toArray, List.set_cons_zero, List.set_cons_succ]
                refine wpAnyH_take (i := 12) (oi := ?_) (v := ?_) ?_ ?_ ?_ ?_ ?_ ?_ ?_ ?_
                rotate_left 2
                · (simp only [List.getElem?_toArray, List.getElem?_cons_succ, List.getElem?_cons_zero]; exact rfl)
                · kernel_rfl
                · kernel_rfl
                · kernel_rfl
                · exact fun _ _ _ h => h
                · first | (refine Or.inl ⟨by rfl, ?_⟩; intro w hSw; (try dsimp only at hSw); go_simp; try with_reducible rfl) | (refine Or.inr ⟨by rfl, ?_⟩; rfl)
                · assumption
                try simp only [Act.put, List.setIfInBounds_toArray, List.set_cons_zero, List.set_cons_succ]
                refine wpAnyH_take (i := 13) (oi := ?_) (v := ?_) ?_ ?_ ?_ ?_ ?_ ?_ ?_ ?_
                rotate_left 2
                · (simp only [List.getElem?_toArray, List.getElem?_cons_succ, List.getElem?_cons_zero]; exact rfl)
                · kernel_rfl
                · kernel_rfl
                · kernel_rfl
                · exact fun _ _ _ h => h
                · first | (refine Or.inl ⟨by rfl, ?_⟩; intro w hSw; (try dsimp only at hSw); go_simp; try with_reducible rfl) | (refine Or.inr ⟨by rfl, ?_⟩; rfl)
                · assumption
                try simp only [Act.put, List.setIfInBounds_toArray, List.set_cons_zero, List.set_cons_succ]
                refine wpAnyH_take (i := 14) (oi := ?_) (v := ?_) ?_ ?_ ?_ ?_ ?_ ?_ ?_ ?_
                rotate_left 2
                · (simp only [List.getElem?_toArray, List.getElem?_cons_succ, List.getElem?_cons_zero]; exact rfl)
                · kernel_rfl
                · kernel_rfl
                · kernel_rfl
                · exact fun _ _ _ h => h
                · first | (refine Or.inl ⟨by rfl, ?_⟩; intro w hSw; (try dsimp only at hSw); go_simp; try with_reducible rfl) | (refine Or.inr ⟨by rfl, ?_⟩; rfl)
                · assumption
                try simp only [Act.put, List.setIfInBounds_toArray, List.set_cons_zero, List.set_cons_succ]
                refine wpAnyH_take (i := 15) (oi := ?_) (v := ?_) ?_ ?_ ?_ ?_ ?_ ?_ ?_ ?_
                rotate_left 2
                · (simp only [List.getElem?_toArray, List.getElem?_cons_succ, List.getElem?_cons_zero]; exact rfl)
                · kernel_rfl
                · kernel_rfl
                · kernel_rfl
                · exact fun _ _ _ h => h
                · first | (refine Or.inl ⟨by rfl, ?_⟩; intro w hSw; (try dsimp only at hSw); go_simp; try with_reducible rfl) | (refine Or.inr ⟨by rfl, ?_⟩; rfl)
                · assumption
                try simp only [Act.put, List.setIfInBounds_toArray, List.set_cons_zero, List.set_cons_succ]
                refine wpAnyH_take (i := 16) (oi := ?_) (v := ?_) ?_ ?_ ?_ ?_ ?_ ?_ ?_ ?_
                rotate_left 2
                · (simp only [List.getElem?_toArray, List.getElem?_cons_succ, List.getElem?_cons_zero]; exact rfl)
                · kernel_rfl
                · kernel_rfl
                · kernel_rfl
                · exact fun _ _ _ h => h
                · first | (refine Or.inl ⟨by rfl, ?_⟩; intro w hSw; (try dsimp only at hSw); go_simp; try with_reducible rfl) | (refine Or.inr ⟨by rfl, ?_⟩; rfl)
                · assumption
                try simp only [Act.put, List.setIfInBounds_toArray, List.set_cons_zero, List.set_cons_succ]
                refine wpAnyH_take (i := 17) (oi := ?_) (v := ?_) ?_ ?_ ?_ ?_ ?_ ?_ ?_ ?_
                rotate_left 2
                · (simp only [List.getElem?_toArray, List.getElem?_cons_succ, List.getElem?_cons_zero]; exact rfl)
                · kernel_rfl
                · kernel_rfl
                · kernel_rfl
                · exact fun _ _ _ h => h
                · first | (refine Or.inl ⟨by rfl, ?_⟩; intro w hSw; (try dsimp only at hSw); go_simp; try with_reducible rfl) | (refine Or.inr ⟨by rfl, ?_⟩; rfl)
                · assumption
                try simp only [Act.put, List.setIfInBounds_toArray, List.set_cons_zero, List.set_cons_succ]
                refine wpAnyH_done (by kernel_rfl) ?_ _
                have HX := Lib.hid (St.weaken (A := L5) hx)
                clear hx hr5 hcv
                repeat clear hHeld
                have hsb := St.swap (A := L0 ++ [(g, _), (bm, _)]) (B := [(b2, _)]) (by rw [List.append_assoc]; exact HX.out)
                have HSB := Lib.hid hsb
                clear hsb HX
                go_wp2_with (first
                  | (with_reducible refine wpList_build_st rfl 29 _ rfl _ ?_ (HZB.out _) ?_; · go_simp)
                  | (with_reducible refine wpList_store_st rfl 29 (.tmp 2) (.tmp 63) rfl (g := b2) (off := 0) zc rfl rfl HSB.out HZF.out HZI.out HZO.out ?_; intro w12 h12; refine Hid.out ?_))
                refine Lib.hid ?_
                rw [setMany_whole _ _ (by rw [Array.length_toList]), Array.toArray_toList] at h12
                have H12 := Lib.hid h12
                clear h12
                go_wp2_with fail
                refine bodyPost_ret (results_row_tmp rfl _ _ b2 29 zc (0, 0) _ rfl (H12.out.own (b2, _) (List.mem_cons_self ..)) Tryd.underlying29 rfl HZI.out) rfl ?_
                have hq := HQ0.out _ (by simp) (St.weaken (A := (b2, _) :: (L0 ++ [(g, _), (bm, _)])) (by have h9 := H12.out; simpa using h9))
                rw [HZV.out] at hq
                exact hq
              exact AllReadyH.nil
            exact AllReadyH.nil
          case pos =>
            obtain rfl : sb = sY := by rw [← hsY, ← hsb, heq]
            have FIN : Hid (G = !decide (BL = 0)) := Lib.hid (by rw [FIN.out, decide_eq_true heq, Bool.true_and])
            clear heq hsb hsY hBL
            by_cases hb0 : BL = 0
            · obtain rfl : G = false := by rw [FIN.out, decide_eq_true hb0]; rfl
              have hb0' : (BL : Int) = 0 := by omega
              clear hb0 FIN
              go_wp2_with fail
              refine wp_region_held_drew (S := fun v => v.cell? ⟨g, 1, none⟩ = some (.int .i64 0) ∧ v.rangeAt bm 0 mk.toList ∧ (convert 22 9 (.slice A0 BL cap)).run Tryd.prog v = .ok (.string sb) v) (by kernel_rfl) (SX.out _ [] HDW.out) (fun hHeld => ?_)
              refine wpAnyH_take (i := 0) (oi := ?_) (v := ?_) ?_ ?_ ?_ ?_ ?_ ?_ ?_ ?_
              rotate_left 2
              · (simp only [List.getElem?_toArray, List.getElem?_cons_succ, List.getElem?_cons_zero]; exact rfl)
              · kernel_rfl
              · kernel_rfl
              · kernel_rfl
              · exact fun _ _ _ h => h
              · first | (refine Or.inl ⟨by rfl, ?_⟩; intro w hSw; (try dsimp only at hSw); go_simp; try with_reducible rfl) | (refine Or.inr ⟨by rfl, ?_⟩; rfl)
              · assumption
              try simp only [Act.put, List.setIfInBounds_toArray, List.set_cons_zero, List.set_cons_succ]
              refine wpAnyH_take (i := 1) (oi := ?_) (v := ?_) ?_ ?_ ?_ ?_ ?_ ?_ ?_ ?_
              rotate_left 2
              · (simp only [List.getElem?_toArray, List.getElem?_cons_succ, List.getElem?_cons_zero]; exact rfl)
              · kernel_rfl
              · kernel_rfl
              · kernel_rfl
              · exact fun _ _ _ h => h
              · first | (refine Or.inl ⟨by rfl, ?_⟩; intro w hSw; (try dsimp only at hSw); go_simp; try with_reducible rfl) | (refine Or.inr ⟨by rfl, ?_⟩; rfl)
              · assumption
              try simp only [Act.put, List.setIfInBounds_toArray, List.set_cons_zero, List.set_cons_succ]
              refine wpAnyH_take (i := 2) (oi := ?_) (v := ?_) ?_ ?_ ?_ ?_ ?_ ?_ ?_ ?_
              rotate_left 2
              · (simp only [List.getElem?_toArray, List.getElem?_cons_succ, List.getElem?_cons_zero]; exact rfl)
              · kernel_rfl
              · kernel_rfl
              · kernel_rfl
              · exact fun _ _ _ h => h
              · first | (refine Or.inl ⟨by rfl, ?_⟩; intro w hSw; (try dsimp only at hSw); go_simp; try with_reducible rfl) | (refine Or.inr ⟨by rfl, ?_⟩; rfl)
              · assumption
              try simp only [Act.put, List.setIfInBounds_toArray, List.set_cons_zero, List.set_cons_succ]
              refine wpAnyH_take (i := 3) (oi := ?_) (v := ?_) ?_ ?_ ?_ ?_ ?_ ?_ ?_ ?_
              rotate_left 2
              · (simp only [List.getElem?_toArray, List.getElem?_cons_succ, List.getElem?_cons_zero]; exact rfl)
              · kernel_rfl
              · kernel_rfl
              · kernel_rfl
              · exact fun _ _ _ h => h
              · first | (first | ((refine yieldsIf_load_mid ?_ 29 (.tmp 5) ?_ bm 0 ?_ mk.toList _ ?_ HUL.out ?_ HMI2.out) <;> first | rfl | exact fun w h => h.2.1) | (refine Or.inl ⟨by rfl, ?_⟩; intro w hSw; obtain ⟨hS1, hS2, hS3⟩ := hSw; go_simp; try with_reducible rfl)) | (refine Or.inr ⟨by rfl, ?_⟩; rfl)
              · assumption
              try simp only [Act.put, List.setIfInBounds_toArray, List.set_cons_zero, List.set_cons_succ]
              refine wpAnyH_take (i := 4) (oi := ?_) (v := ?_) ?_ ?_ ?_ ?_ ?_ ?_ ?_ ?_
              rotate_left 2
              · (simp only [List.getElem?_toArray, List.getElem?_cons_succ, List.getElem?_cons_zero]; exact rfl)
              · kernel_rfl
              · kernel_rfl
              · kernel_rfl
              · exact fun _ _ _ h => h
              · first | (refine Or.inl ⟨by rfl, ?_⟩; intro w hSw; (try dsimp only at hSw); go_simp; try with_reducible rfl) | (refine Or.inr ⟨by rfl, ?_⟩; rfl)
              · assumption
              try simp only [Act.put, List.setIfInBounds_toArray, List.set_cons_zero, List.set_cons_succ]
              refine wpAnyH_take (i := 5) (oi := ?_) (v := ?_) ?_ ?_ ?_ ?_ ?_ ?_ ?_ ?_
              rotate_left 2
              · (simp only [List.getElem?_toArray, List.getElem?_cons_succ, List.getElem?_cons_zero]; exact rfl)
              · kernel_rfl
              · kernel_rfl
              · kernel_rfl
              · exact fun _ _ _ h => h
              · first | (refine Or.inl ⟨by rfl, ?_⟩; intro w hSw; (try dsimp only at hSw); go_simp; try with_reducible rfl) | (refine Or.inr ⟨by rfl, ?_⟩; rfl)
              · assumption
              try simp only [Act.put, List.setIfInBounds_toArray, List.set_cons_zero, List.set_cons_succ]
              refine wpAnyH_take (i := 6) (oi := ?_) (v := ?_) ?_ ?_ ?_ ?_ ?_ ?_ ?_ ?_
              rotate_left 2
              · (simp only [List.getElem?_toArray, List.getElem?_cons_succ, List.getElem?_cons_zero]; exact rfl)
              · kernel_rfl
              · kernel_rfl
              · kernel_rfl
              · exact fun _ _ _ h => h
              · first | (first | ((refine yieldsIf_load_mid ?_ 29 (.tmp 5) ?_ bm 0 ?_ mk.toList _ ?_ HUL.out ?_ HMI2.out) <;> first | rfl | exact fun w h => h.2.1) | (refine Or.inl ⟨by rfl, ?_⟩; intro w hSw; obtain ⟨hS1, hS2, hS3⟩ := hSw; go_simp; try with_reducible rfl)) | (refine Or.inr ⟨by rfl, ?_⟩; rfl)
              · assumption
              try simp only [Act.put, List.setIfInBounds_toArray, List.set_cons_zero, List.set_cons_succ]
              refine wpAnyH_take (i := 9) (oi := ?_) (v := ?_) ?_ ?_ ?_ ?_ ?_ ?_ ?_ ?_
              rotate_left 2
              · (simp only [List.getElem?_toArray, List.getElem?_cons_succ, List.getElem?_cons_zero]; exact rfl)
              · kernel_rfl
              · kernel_rfl
              · kernel_rfl
              · exact fun _ _ _ h => h
              · first | (refine Or.inl ⟨by rfl, ?_⟩; intro w hSw; (try dsimp only at hSw); go_simp; try with_reducible rfl) | (refine Or.inr ⟨by rfl, ?_⟩; rfl)
              · assumption
              try simp only [Act.put, List.setIfInBounds_toArray, List.set_cons_zero, List.set_cons_succ]
              refine wpAnyH_take (i := 10) (oi := ?_) (v := ?_) ?_ ?_ ?_ ?_ ?_ ?_ ?_ ?_
              rotate_left 2
              · (simp only [List.getElem?_toArray, List.getElem?_cons_succ, List.getElem?_cons_zero]; exact rfl)
              · kernel_rfl
              · kernel_rfl
              · kernel_rfl
              · exact fun _ _ _ h => h
              · first | (refine Or.inl ⟨by rfl, ?_⟩; intro w hSw; (try dsimp only at hSw); go_simp; try with_reducible rfl) | (refine Or.inr ⟨by rfl, ?_⟩; rfl)
              · assumption
              try simp only [Act.put, List.setIfInBounds_toArray, List.set_cons_zero, List.set_cons_succ]
              refine wpAnyH_ready (rs := [7]) (by kernel_rfl) (by simp) ?_
              refine AllReadyH.cons (o := ?_) ?_ (fun K hK => ?_) ?_
              rotate_left 1
              · (simp only [List.getElem?_toArray, List.getElem?_cons_succ, List.getElem?_cons_zero]; exact rfl)
              · go_simp
                (first | (go_at_call 27; (refine (KB.out _ HDW.out).mono ?_); rintro e wx ⟨v5, rfl, A5, c5, L5, rfl, hr5, hx⟩; have hcv := HCY.out wx A5 c5 (hr5.src fun p hp => hx.own p (List.mem_append.2 (.inl hp))); dsimp only))
                refine hK.out _ _ ?_ (fun hHeld => ?_)
                · (try dsimp only) <;> (exact SX.out _ _ hx)
                clear hK K
                try simp only [Act.put, List.setIfInBounds_toArray, List.set_cons_zero, List.set_cons_succ]
                refine wpAnyH_ready (rs := [8]) (by kernel_rfl) (by simp) ?_
                refine AllReadyH.cons (o := ?_) ?_ (fun K hK => ?_) ?_
                rotate_left 1
                · (simp only [List.getElem?_toArray, List.getElem?_cons_succ, List.getElem?_cons_zero]; exact rfl)
                · go_simp
                  refine hK.out _ _ ?_ (fun hHeld => ?_)
                  · (try dsimp only) <;> (exact SX.out _ _ hx)
                  clear hK K
                  try simp only [Act.put, List.setIfInBounds_toArray, List.set_cons_zero, List.set_cons_succ]
                  refine wpAnyH_take (i := 11) (oi := ?_) (v := ?_) ?_ ?_ ?_ ?_ ?_ ?_ ?_ ?_
                  rotate_left 2
                  · (simp only [List.getElem?_toArray, List.getElem?_cons_succ, List.getElem?_cons_zero]; exact rfl)
                  · kernel_rfl
                  · kernel_rfl
                  · kernel_rfl
                  · exact fun _ _ _ h => h
                  · first | (refine Or.inl ⟨by rfl, ?_⟩; intro w hSw; (try dsimp only at hSw); go_simp; try with_reducible rfl) | (refine Or.inr ⟨by rfl, ?_⟩; rfl)
                  · assumption
                  try simp only [Act.put, List.setIfInBounds_toArray, List.set_cons_zero, List.set_cons_succ]
                  refine wpAnyH_take (i := 12) (oi := ?_) (v := ?_) ?_ ?_ ?_ ?_ ?_ ?_ ?_ ?_
                  rotate_left 2
                  · (simp only [List.getElem?_toArray, List.getElem?_cons_succ, List.getElem?_cons_zero]; exact rfl)
                  · kernel_rfl
                  · kernel_rfl
                  · kernel_rfl
                  · exact fun _ _ _ h => h
                  · first | (refine Or.inl ⟨by rfl, ?_⟩; intro w hSw; (try dsimp only at hSw); go_simp; try with_reducible rfl) | (refine Or.inr ⟨by rfl, ?_⟩; rfl)
                  · assumption
                  try simp only [Act.put, List.setIfInBounds_toArray, List.set_cons_zero, List.set_cons_succ]
                  refine wpAnyH_take (i := 13) (oi := ?_) (v := ?_) ?_ ?_ ?_ ?_ ?_ ?_ ?_ ?_
                  rotate_left 2
                  · (simp only [List.getElem?_toArray, List.getElem?_cons_succ, List.getElem?_cons_zero]; exact rfl)
                  · kernel_rfl
                  · kernel_rfl
                  · kernel_rfl
                  · exact fun _ _ _ h => h
                  · first | (refine Or.inl ⟨by rfl, ?_⟩; intro w hSw; (try dsimp only at hSw); go_simp; try with_reducible rfl) | (refine Or.inr ⟨by rfl, ?_⟩; rfl)
                  · assumption
                  try simp only [Act.put, List.setIfInBounds_toArray, List.set_cons_zero, List.set_cons_succ]
                  refine wpAnyH_take (i := 14) (oi := ?_) (v := ?_) ?_ ?_ ?_ ?_ ?_ ?_ ?_ ?_
                  rotate_left 2
                  · (simp only [List.getElem?_toArray, List.getElem?_cons_succ, List.getElem?_cons_zero]; exact rfl)
                  · kernel_rfl
                  · kernel_rfl
                  · kernel_rfl
                  · exact fun _ _ _ h => h
                  · first | (refine Or.inl ⟨by rfl, ?_⟩; intro w hSw; (try dsimp only at hSw); go_simp; try with_reducible rfl) | (refine Or.inr ⟨by rfl, ?_⟩; rfl)
                  · assumption
                  try simp only [Act.put, List.setIfInBounds_toArray, List.set_cons_zero, List.set_cons_succ]
                  refine wpAnyH_take (i := 15) (oi := ?_) (v := ?_) ?_ ?_ ?_ ?_ ?_ ?_ ?_ ?_
                  rotate_left 2
                  · (simp only [List.getElem?_toArray, List.getElem?_cons_succ, List.getElem?_cons_zero]; exact rfl)
                  · kernel_rfl
                  · kernel_rfl
                  · kernel_rfl
                  · exact fun _ _ _ h => h
                  · first | (refine Or.inl ⟨by rfl, ?_⟩; intro w hSw; (try dsimp only at hSw); go_simp; try with_reducible rfl) | (refine Or.inr ⟨by rfl, ?_⟩; rfl)
                  · assumption
                  try simp only [Act.put, List.setIfInBounds_toArray, List.set_cons_zero, List.set_cons_succ]
                  refine wpAnyH_take (i := 16) (oi := ?_) (v := ?_) ?_ ?_ ?_ ?_ ?_ ?_ ?_ ?_
                  rotate_left 2
                  · (simp only [List.getElem?_toArray, List.getElem?_cons_succ, List.getElem?_cons_zero]; exact rfl)
                  · kernel_rfl
                  · kernel_rfl
                  · kernel_rfl
                  · exact fun _ _ _ h => h
                  · first | (refine Or.inl ⟨by rfl, ?_⟩; intro w hSw; (try dsimp only at hSw); go_simp; try with_reducible rfl) | (refine Or.inr ⟨by rfl, ?_⟩; rfl)
                  · assumption
                  try simp only [Act.put, List.setIfInBounds_toArray, List.set_cons_zero, List.set_cons_succ]
                  refine wpAnyH_take (i := 17) (oi := ?_) (v := ?_) ?_ ?_ ?_ ?_ ?_ ?_ ?_ ?_
                  rotate_left 2
                  · (simp only [List.getElem?_toArray, List.getElem?_cons_succ, List.getElem?_cons_zero]; exact rfl)
                  · kernel_rfl
                  · kernel_rfl
                  · kernel_rfl
                  · exact fun _ _ _ h => h
                  · first | (refine Or.inl ⟨by rfl, ?_⟩; intro w hSw; (try dsimp only at hSw); go_simp; try with_reducible rfl) | (refine Or.inr ⟨by rfl, ?_⟩; rfl)
                  · assumption
                  try simp only [Act.put, List.setIfInBounds_toArray, List.set_cons_zero, List.set_cons_succ]
                  refine wpAnyH_done (by kernel_rfl) ?_ _
                  have HX := Lib.hid (St.weaken (A := L5) hx)
                  clear hx hr5 hcv
                  repeat clear hHeld
                  have hsb := St.swap (A := L0 ++ [(g, _), (bm, _)]) (B := [(b2, _)]) (by rw [List.append_assoc]; exact HX.out)
                  have HSB := Lib.hid hsb
                  clear hsb HX
                  go_wp2_with (first
                    | (with_reducible refine wpList_build_st rfl 29 _ rfl _ ?_ (HZB.out _) ?_; · go_simp)
                    | (with_reducible refine wpList_store_st rfl 29 (.tmp 2) (.tmp 63) rfl (g := b2) (off := 0) zc rfl rfl HSB.out HZF.out HZI.out HZO.out ?_; intro w12 h12; refine Hid.out ?_))
                  refine Lib.hid ?_
                  rw [setMany_whole _ _ (by rw [Array.length_toList]), Array.toArray_toList] at h12
                  have H12 := Lib.hid h12
                  clear h12
                  go_wp2_with fail
                  refine bodyPost_ret (results_row_tmp rfl _ _ b2 29 zc (0, 0) _ rfl (H12.out.own (b2, _) (List.mem_cons_self ..)) Tryd.underlying29 rfl HZI.out) rfl ?_
                  have hq := HQ0.out _ (by simp) (St.weaken (A := (b2, _) :: (L0 ++ [(g, _), (bm, _)])) (by have h9 := H12.out; simpa using h9))
                  rw [HZV.out] at hq
                  exact hq
                exact AllReadyH.nil
              exact AllReadyH.nil
            · obtain rfl : G = true := by rw [FIN.out, decide_eq_false hb0]; rfl
              have hb0' : ¬ (BL : Int) = 0 := by omega
              have hb0'' : ((BL : Int) == 0) = false := by simpa using hb0
              clear hb0 FIN
              go_wp2_with fail
              refine wp_region_held_drew (S := fun v => v.cell? ⟨g, 1, none⟩ = some (.int .i64 0) ∧ v.rangeAt bm 0 mk.toList ∧ (convert 22 9 (.slice A0 BL cap)).run Tryd.prog v = .ok (.string sb) v) (by kernel_rfl) (SX.out _ [] HDW.out) (fun hHeld => ?_)
              refine wpAnyH_take (i := 0) (oi := ?_) (v := ?_) ?_ ?_ ?_ ?_ ?_ ?_ ?_ ?_
              rotate_left 2
              · (simp only [List.getElem?_toArray, List.getElem?_cons_succ, List.getElem?_cons_zero]; exact rfl)
              · kernel_rfl
              · kernel_rfl
              · kernel_rfl
              · exact fun _ _ _ h => h
              · first | (refine Or.inl ⟨by rfl, ?_⟩; intro w hSw; (try dsimp only at hSw); go_simp; try with_reducible rfl) | (refine Or.inr ⟨by rfl, ?_⟩; rfl)
              · assumption
              try simp only [Act.put, List.setIfInBounds_toArray, List.set_cons_zero, List.set_cons_succ]
              refine wpAnyH_take (i := 1) (oi := ?_) (v := ?_) ?_ ?_ ?_ ?_ ?_ ?_ ?_ ?_
              rotate_left 2
              · (simp only [List.getElem?_toArray, List.getElem?_cons_succ, List.getElem?_cons_zero]; exact rfl)
              · kernel_rfl
              · kernel_rfl
              · kernel_rfl
              · exact fun _ _ _ h => h
              · first | (refine Or.inl ⟨by rfl, ?_⟩; intro w hSw; (try dsimp only at hSw); go_simp; try with_reducible rfl) | (refine Or.inr ⟨by rfl, ?_⟩; rfl)
              · assumption
              try simp only [Act.put, List.setIfInBounds_toArray, List.set_cons_zero, List.set_cons_succ]
              refine wpAnyH_take (i := 2) (oi := ?_) (v := ?_) ?_ ?_ ?_ ?_ ?_ ?_ ?_ ?_
              rotate_left 2
              · (simp only [List.getElem?_toArray, List.getElem?_cons_succ, List.getElem?_cons_zero]; exact rfl)
              · kernel_rfl
              · kernel_rfl
              · kernel_rfl
              · exact fun _ _ _ h => h
              · first | (refine Or.inl ⟨by rfl, ?_⟩; intro w hSw; (try dsimp only at hSw); go_simp; try with_reducible rfl) | (refine Or.inr ⟨by rfl, ?_⟩; rfl)
              · assumption
              try simp only [Act.put, List.setIfInBounds_toArray, List.set_cons_zero, List.set_cons_succ]
              refine wpAnyH_take (i := 3) (oi := ?_) (v := ?_) ?_ ?_ ?_ ?_ ?_ ?_ ?_ ?_
              rotate_left 2
              · (simp only [List.getElem?_toArray, List.getElem?_cons_succ, List.getElem?_cons_zero]; exact rfl)
              · kernel_rfl
              · kernel_rfl
              · kernel_rfl
              · exact fun _ _ _ h => h
              · first | (first | ((refine yieldsIf_load_mid ?_ 29 (.tmp 5) ?_ bm 0 ?_ mk.toList _ ?_ HUL.out ?_ HMI2.out) <;> first | rfl | exact fun w h => h.2.1) | (refine Or.inl ⟨by rfl, ?_⟩; intro w hSw; obtain ⟨hS1, hS2, hS3⟩ := hSw; go_simp; try with_reducible rfl)) | (refine Or.inr ⟨by rfl, ?_⟩; rfl)
              · assumption
              try simp only [Act.put, List.setIfInBounds_toArray, List.set_cons_zero, List.set_cons_succ]
              refine wpAnyH_take (i := 4) (oi := ?_) (v := ?_) ?_ ?_ ?_ ?_ ?_ ?_ ?_ ?_
              rotate_left 2
              · (simp only [List.getElem?_toArray, List.getElem?_cons_succ, List.getElem?_cons_zero]; exact rfl)
              · kernel_rfl
              · kernel_rfl
              · kernel_rfl
              · exact fun _ _ _ h => h
              · first | (refine Or.inl ⟨by rfl, ?_⟩; intro w hSw; (try dsimp only at hSw); go_simp; try with_reducible rfl) | (refine Or.inr ⟨by rfl, ?_⟩; rfl)
              · assumption
              try simp only [Act.put, List.setIfInBounds_toArray, List.set_cons_zero, List.set_cons_succ]
              refine wpAnyH_take (i := 5) (oi := ?_) (v := ?_) ?_ ?_ ?_ ?_ ?_ ?_ ?_ ?_
              rotate_left 2
              · (simp only [List.getElem?_toArray, List.getElem?_cons_succ, List.getElem?_cons_zero]; exact rfl)
              · kernel_rfl
              · kernel_rfl
              · kernel_rfl
              · exact fun _ _ _ h => h
              · first | (refine Or.inl ⟨by rfl, ?_⟩; intro w hSw; (try dsimp only at hSw); go_simp; try with_reducible rfl) | (refine Or.inr ⟨by rfl, ?_⟩; rfl)
              · assumption
              try simp only [Act.put, List.setIfInBounds_toArray, List.set_cons_zero, List.set_cons_succ]
              refine wpAnyH_take (i := 6) (oi := ?_) (v := ?_) ?_ ?_ ?_ ?_ ?_ ?_ ?_ ?_
              rotate_left 2
              · (simp only [List.getElem?_toArray, List.getElem?_cons_succ, List.getElem?_cons_zero]; exact rfl)
              · kernel_rfl
              · kernel_rfl
              · kernel_rfl
              · exact fun _ _ _ h => h
              · first | (first | ((refine yieldsIf_load_mid ?_ 29 (.tmp 5) ?_ bm 0 ?_ mk.toList _ ?_ HUL.out ?_ HMI2.out) <;> first | rfl | exact fun w h => h.2.1) | (refine Or.inl ⟨by rfl, ?_⟩; intro w hSw; obtain ⟨hS1, hS2, hS3⟩ := hSw; go_simp; try with_reducible rfl)) | (refine Or.inr ⟨by rfl, ?_⟩; rfl)
              · assumption
              try simp only [Act.put, List.setIfInBounds_toArray, List.set_cons_zero, List.set_cons_succ]
              refine wpAnyH_take (i := 9) (oi := ?_) (v := ?_) ?_ ?_ ?_ ?_ ?_ ?_ ?_ ?_
              rotate_left 2
              · (simp only [List.getElem?_toArray, List.getElem?_cons_succ, List.getElem?_cons_zero]; exact rfl)
              · kernel_rfl
              · kernel_rfl
              · kernel_rfl
              · exact fun _ _ _ h => h
              · first | (refine Or.inl ⟨by rfl, ?_⟩; intro w hSw; (try dsimp only at hSw); go_simp; try with_reducible rfl) | (refine Or.inr ⟨by rfl, ?_⟩; rfl)
              · assumption
              try simp only [Act.put, List.setIfInBounds_toArray, List.set_cons_zero, List.set_cons_succ]
              refine wpAnyH_take (i := 10) (oi := ?_) (v := ?_) ?_ ?_ ?_ ?_ ?_ ?_ ?_ ?_
              rotate_left 2
              · (simp only [List.getElem?_toArray, List.getElem?_cons_succ, List.getElem?_cons_zero]; exact rfl)
              · kernel_rfl
              · kernel_rfl
              · kernel_rfl
              · exact fun _ _ _ h => h
              · first | (refine Or.inl ⟨by rfl, ?_⟩; intro w hSw; (try dsimp only at hSw); go_simp; try with_reducible rfl) | (refine Or.inr ⟨by rfl, ?_⟩; rfl)
              · assumption
              try simp only [Act.put, List.setIfInBounds_toArray, List.set_cons_zero, List.set_cons_succ]
              refine wpAnyH_ready (rs := [7]) (by kernel_rfl) (by simp) ?_
              refine AllReadyH.cons (o := ?_) ?_ (fun K hK => ?_) ?_
              rotate_left 1
              · (simp only [List.getElem?_toArray, List.getElem?_cons_succ, List.getElem?_cons_zero]; exact rfl)
              · go_simp
                (first | (go_at_call 27; (refine (KB.out _ HDW.out).mono ?_); rintro e wx ⟨v5, rfl, A5, c5, L5, rfl, hr5, hx⟩; have hcv := HCY.out wx A5 c5 (hr5.src fun p hp => hx.own p (List.mem_append.2 (.inl hp))); dsimp only))
                refine hK.out _ _ ?_ (fun hHeld => ?_)
                · (try dsimp only) <;> (exact SX.out _ _ hx)
                clear hK K
                try simp only [Act.put, List.setIfInBounds_toArray, List.set_cons_zero, List.set_cons_succ]
                refine wpAnyH_ready (rs := [8]) (by kernel_rfl) (by simp) ?_
                refine AllReadyH.cons (o := ?_) ?_ (fun K hK => ?_) ?_
                rotate_left 1
                · (simp only [List.getElem?_toArray, List.getElem?_cons_succ, List.getElem?_cons_zero]; exact rfl)
                · go_simp
                  refine hK.out _ _ ?_ (fun hHeld => ?_)
                  · (try dsimp only) <;> (exact SX.out _ _ hx)
                  clear hK K
                  try simp only [Act.put, List.setIfInBounds_toArray, List.set_cons_zero, List.set_cons_succ]
                  refine wpAnyH_take (i := 11) (oi := ?_) (v := ?_) ?_ ?_ ?_ ?_ ?_ ?_ ?_ ?_
                  rotate_left 2
                  · (simp only [List.getElem?_toArray, List.getElem?_cons_succ, List.getElem?_cons_zero]; exact rfl)
                  · kernel_rfl
                  · kernel_rfl
                  · kernel_rfl
                  · exact fun _ _ _ h => h
                  · first | (refine Or.inl ⟨by rfl, ?_⟩; intro w hSw; (try dsimp only at hSw); go_simp; try with_reducible rfl) | (refine Or.inr ⟨by rfl, ?_⟩; rfl)
                  · assumption
                  try simp only [Act.put, List.setIfInBounds_toArray, List.set_cons_zero, List.set_cons_succ]
                  refine wpAnyH_take (i := 12) (oi := ?_) (v := ?_) ?_ ?_ ?_ ?_ ?_ ?_ ?_ ?_
                  rotate_left 2
                  · (simp only [List.getElem?_toArray, List.getElem?_cons_succ, List.getElem?_cons_zero]; exact rfl)
                  · kernel_rfl
                  · kernel_rfl
                  · kernel_rfl
                  · exact fun _ _ _ h => h
                  · first | (refine Or.inl ⟨by rfl, ?_⟩; intro w hSw; (try dsimp only at hSw); go_simp; try with_reducible rfl) | (refine Or.inr ⟨by rfl, ?_⟩; rfl)
                  · assumption
                  try simp only [Act.put, List.setIfInBounds_toArray, List.set_cons_zero, List.set_cons_succ]
                  refine wpAnyH_take (i := 13) (oi := ?_) (v := ?_) ?_ ?_ ?_ ?_ ?_ ?_ ?_ ?_
                  rotate_left 2
                  · (simp only [List.getElem?_toArray, List.getElem?_cons_succ, List.getElem?_cons_zero]; exact rfl)
                  · kernel_rfl
                  · kernel_rfl
                  · kernel_rfl
                  · exact fun _ _ _ h => h
                  · first | (refine Or.inl ⟨by rfl, ?_⟩; intro w hSw; (try dsimp only at hSw); go_simp; try with_reducible rfl) | (refine Or.inr ⟨by rfl, ?_⟩; rfl)
                  · assumption
                  try simp only [Act.put, List.setIfInBounds_toArray, List.set_cons_zero, List.set_cons_succ]
                  refine wpAnyH_take (i := 14) (oi := ?_) (v := ?_) ?_ ?_ ?_ ?_ ?_ ?_ ?_ ?_
                  rotate_left 2
                  · (simp only [List.getElem?_toArray, List.getElem?_cons_succ, List.getElem?_cons_zero]; exact rfl)
                  · kernel_rfl
                  · kernel_rfl
                  · kernel_rfl
                  · exact fun _ _ _ h => h
                  · first | (refine Or.inl ⟨by rfl, ?_⟩; intro w hSw; (try dsimp only at hSw); go_simp; try with_reducible rfl) | (refine Or.inr ⟨by rfl, ?_⟩; rfl)
                  · assumption
                  try simp only [Act.put, List.setIfInBounds_toArray, List.set_cons_zero, List.set_cons_succ]
                  refine wpAnyH_take (i := 15) (oi := ?_) (v := ?_) ?_ ?_ ?_ ?_ ?_ ?_ ?_ ?_
                  rotate_left 2
                  · (simp only [List.getElem?_toArray, List.getElem?_cons_succ, List.getElem?_cons_zero]; exact rfl)
                  · kernel_rfl
                  · kernel_rfl
                  · kernel_rfl
                  · exact fun _ _ _ h => h
                  · first | (refine Or.inl ⟨by rfl, ?_⟩; intro w hSw; (try dsimp only at hSw); go_simp; try with_reducible rfl) | (refine Or.inr ⟨by rfl, ?_⟩; rfl)
                  · assumption
                  try simp only [Act.put, List.setIfInBounds_toArray, List.set_cons_zero, List.set_cons_succ]
                  refine wpAnyH_take (i := 16) (oi := ?_) (v := ?_) ?_ ?_ ?_ ?_ ?_ ?_ ?_ ?_
                  rotate_left 2
                  · (simp only [List.getElem?_toArray, List.getElem?_cons_succ, List.getElem?_cons_zero]; exact rfl)
                  · kernel_rfl
                  · kernel_rfl
                  · kernel_rfl
                  · exact fun _ _ _ h => h
                  · first | (refine Or.inl ⟨by rfl, ?_⟩; intro w hSw; (try dsimp only at hSw); go_simp; try with_reducible rfl) | (refine Or.inr ⟨by rfl, ?_⟩; rfl)
                  · assumption
                  try simp only [Act.put, List.setIfInBounds_toArray, List.set_cons_zero, List.set_cons_succ]
                  refine wpAnyH_take (i := 17) (oi := ?_) (v := ?_) ?_ ?_ ?_ ?_ ?_ ?_ ?_ ?_
                  rotate_left 2
                  · (simp only [List.getElem?_toArray, List.getElem?_cons_succ, List.getElem?_cons_zero]; exact rfl)
                  · kernel_rfl
                  · kernel_rfl
                  · kernel_rfl
                  · exact fun _ _ _ h => h
                  · first | (refine Or.inl ⟨by rfl, ?_⟩; intro w hSw; (try dsimp only at hSw); go_simp; try with_reducible rfl) | (refine Or.inr ⟨by rfl, ?_⟩; rfl)
                  · assumption
                  try simp only [Act.put, List.setIfInBounds_toArray, List.set_cons_zero, List.set_cons_succ]
                  refine wpAnyH_done (by kernel_rfl) ?_ _
                  have HX := Lib.hid (St.weaken (A := L5) hx)
                  clear hx hr5 hcv
                  repeat clear hHeld
                  have hsb := St.swap (A := L0 ++ [(g, _), (bm, _)]) (B := [(b2, _)]) (by rw [List.append_assoc]; exact HX.out)
                  have HSB := Lib.hid hsb
                  clear hsb
                  go_wp2_with (first
                    | (with_reducible refine wpList_load_st rfl 29 (.tmp 5) rfl (g := bm) (off := 0) rfl HX.out (cs := mk) (t := 29) (fr := (0, 0)) (by simp) mk (fun j hj => by rw [Nat.zero_add]) _ Tryd.underlying29 rfl HMI.out ?_)
                    | (with_reducible refine wpList_store_st rfl 29 (.tmp 2) (.tmp 64) rfl (g := b2) (off := 0) mk rfl rfl HSB.out HMF.out HMI.out HMO.out ?_; intro w12 h12; refine Hid.out ?_))
                  refine Lib.hid ?_
                  rw [setMany_whole _ _ (by rw [Array.length_toList, HSZ.out, HZS.out]), Array.toArray_toList] at h12
                  have H12 := Lib.hid h12
                  clear h12
                  go_wp2_with fail
                  refine bodyPost_ret (results_row_tmp rfl _ _ b2 29 mk (0, 0) _ rfl (H12.out.own (b2, _) (List.mem_cons_self ..)) Tryd.underlying29 rfl HMI.out) rfl ?_
                  obtain ⟨g1, g2⟩ := FIN3.out (by simp)
                  have h9 := St.weaken (A := [_]) H12.out
                  rw [List.append_assoc] at h9
                  have hq := HQ1.out k A c L0 _ (by simp) g1 g2 HROW.out (St.mid h9)
                  rw [HVAL.out] at hq
                  exact hq
                exact AllReadyH.nil
              exact AllReadyH.nil
      · have hkI : ¬ ((k : Int) < 65) := by omega
        have hn0'' : 0 < n1 := by omega
        clear hgo hn1 hn0 hk
        cases hS : stN rest k with
        | none =>
          have hx0 : x1 ≠ 0 := by
            have h9 := HR1.out
            rw [hS] at h9
            rintro rfl
            rcases h9.1 with h | h <;> cases h
          obtain rfl : G = false := FIN1.out hS
          have HSN := Lib.hid hS
          clear hS 
          exfalso
          have h9 := HR1.out
          rw [HSN.out] at h9
          have := h9.2.2.1
          omega
        | some r =>
          have h9 := HR1.out
          rw [hS] at h9
          obtain ⟨rfl, -⟩ := h9
          have hne : stN rest k ≠ none := by rw [hS]; simp
          have fin2 := FIN2.out hne
          clear hS hne
          have hsw := St.swap (A := [_, _]) (B := L0) HS.out
          have kB := fun (v : World) (hv : St W v I (L0 ++ ([(g, .cells #[.slice A1 n1 c1, .int .i64 0] 60 (0, 0)), (bm, .cells mk 29 (0, 0))] ++ ((b2, .cells zc 29 (0, 0)) :: F)))) => rbytes_row TT.out (M A k c) OKM.out (hsOf rest k) (by rw [HM.out, hsOf_len]; rfl) (hsOf_32 _ _) (by rw [HM.out]; exact HROW.out) (by rw [HM.out]; have := HPL.out; exact Nat.le_trans this (by omega)) hv
          obtain ⟨BY, hBY⟩ : ∃ BY, (if rightM (M A k c) = true then mBy (M A k c) (hsOf rest k) else []) = BY := ⟨_, rfl⟩
          rw [hBY, show (M A k c).val = .agg mk by rw [HMKV.out]; rfl] at kB
          have fin := fin2 BY (by rw [← hBY, HM.out]; rfl)
          have sx : ∀ v L, St W v I (L ++ (L0 ++ ([(g, .cells #[.slice A1 n1 c1, .int .i64 0] 60 (0, 0)), (bm, .cells mk 29 (0, 0))] ++ ((b2, .cells zc 29 (0, 0)) :: F)))) → v.cell? ⟨g, 1, none⟩ = some (.int .i64 0) ∧ v.rangeAt bm 0 mk.toList ∧ (convert 22 9 (.slice A0 bs.length cap)).run Tryd.prog v = .ok (.string (pA bs)) v := fun v L hv => ⟨hv.cell (g := g) (cs := #[.slice A1 n1 c1, .int .i64 0]) (t := 60) (fr := (0, 0)) (by simp) 1, hv.rangeAt (g := bm) (cs := mk) (t := 29) (fr := (0, 0)) (by simp) (fun j hj => by simp), conv_str (P := Tryd.prog) Tryd.underlying22 Tryd.underlying5 Tryd.underlying9 (c := cap) (HP.out _ _ hv)⟩
          have hul : Tryd.prog.underlying 29 = some _ := Tryd.underlying29
          have hmi2 : (Tryd.prog.info? 29).map (·.size) = some mk.toList.length := by rw [Array.length_toList]; exact HMI.out
          have HDW := Lib.hid hsw.drew1; have KB := Lib.hid kB; have SX := Lib.hid sx; have HUL := Lib.hid hul; have HMI2 := Lib.hid hmi2; have FIN := Lib.hid fin
          clear fin2 hsw kB hBY sx hul hmi2 fin HS HR1 FIN1 FIN2
          obtain ⟨BL, hBL⟩ : ∃ BL, bs.length = BL := ⟨_, rfl⟩
          obtain ⟨sb, hsb⟩ : ∃ s, pA bs = s := ⟨_, rfl⟩
          obtain ⟨sY, hsY⟩ : ∃ s, pA BY = s := ⟨_, rfl⟩
          have hcy : ∀ (v : World) (A : Option Addr) (c : Nat), Src v 1 A BY.length (BY.map bval) → (convert 22 9 (.slice A BY.length c)).run Tryd.prog v = .ok (.string sY) v := fun v A c h => by
            rw [← hsY]
            exact conv_str (P := Tryd.prog) Tryd.underlying22 Tryd.underlying5 Tryd.underlying9 (c := c) h
          have HCY := Lib.hid hcy
          rw [hsb, hBL] at SX
          rw [hBL] at FIN ⊢
          clear hcy
          by_cases heq : BY = bs
          case neg =>
            obtain rfl : G = false := by rw [FIN.out, decide_eq_false heq, Bool.false_and]
            have hs1 : (sY.toList == sb.toList) = false := str_ne _ _ (fun e => heq (by rw [← hsY, ← hsb] at e; have h := congrArg sB e; rwa [sB_pA, sB_pA] at h))
            have hs2 : (sY.toList != sb.toList) = true := by rw [bne, hs1]; rfl
            clear heq hBL FIN hsb hsY
            go_wp2_with fail
            refine wp_region_held_drew (S := fun v => v.cell? ⟨g, 1, none⟩ = some (.int .i64 0) ∧ v.rangeAt bm 0 mk.toList ∧ (convert 22 9 (.slice A0 BL cap)).run Tryd.prog v = .ok (.string sb) v) (by kernel_rfl) (SX.out _ [] HDW.out) (fun hHeld => ?_)
            refine wpAnyH_take (i := 0) (oi := ?_) (v := ?_) ?_ ?_ ?_ ?_ ?_ ?_ ?_ ?_
            rotate_left 2
            · (simp only [List.getElem?_toArray, List.getElem?_cons_succ, List.getElem?_cons_zero]; exact rfl)
            · kernel_rfl
            · kernel_rfl
            · kernel_rfl
            · exact fun _ _ _ h => h
            · first | (refine Or.inl ⟨by rfl, ?_⟩; intro w hSw; (try dsimp only at hSw); go_simp; try with_reducible rfl) | (refine Or.inr ⟨by rfl, ?_⟩; rfl)
            · assumption
            try simp only [Act.put, List.setIfInBounds_toArray, List.set_cons_zero, List.set_cons_succ]
            refine wpAnyH_take (i := 1) (oi := ?_) (v := ?_) ?_ ?_ ?_ ?_ ?_ ?_ ?_ ?_
            rotate_left 2
            · (simp only [List.getElem?_toArray, List.getElem?_cons_succ, List.getElem?_cons_zero]; exact rfl)
            · kernel_rfl
            · kernel_rfl
            · kernel_rfl
            · exact fun _ _ _ h => h
            · first | (refine Or.inl ⟨by rfl, ?_⟩; intro w hSw; (try dsimp only at hSw); go_simp; try with_reducible rfl) | (refine Or.inr ⟨by rfl, ?_⟩; rfl)
            · assumption
            try simp only [Act.put, List.setIfInBounds_toArray, List.set_cons_zero, List.set_cons_succ]
            refine wpAnyH_take (i := 2) (oi := ?_) (v := ?_) ?_ ?_ ?_ ?_ ?_ ?_ ?_ ?_
            rotate_left 2
            · (simp only [List.getElem?_toArray, List.getElem?_cons_succ, List.getElem?_cons_zero]; exact rfl)
            · kernel_rfl
            · kernel_rfl
            · kernel_rfl
            · exact fun _ _ _ h => h
            · first | (refine Or.inl ⟨by rfl, ?_⟩; intro w hSw; (try dsimp only at hSw); go_simp; try with_reducible rfl) | (refine Or.inr ⟨by rfl, ?_⟩; rfl)
            · assumption
            try simp only [Act.put, List.setIfInBounds_toArray, List.set_cons_zero, List.set_cons_succ]
            refine wpAnyH_take (i := 3) (oi := ?_) (v := ?_) ?_ ?_ ?_ ?_ ?_ ?_ ?_ ?_
            rotate_left 2
            · (simp only [List.getElem?_toArray, List.getElem?_cons_succ, List.getElem?_cons_zero]; exact rfl)
            · kernel_rfl
            · kernel_rfl
            · kernel_rfl
            · exact fun _ _ _ h => h
            · first | (first | ((refine yieldsIf_load_mid ?_ 29 (.tmp 5) ?_ bm 0 ?_ mk.toList _ ?_ HUL.out ?_ HMI2.out) <;> first | rfl | exact fun w h => h.2.1) | (refine Or.inl ⟨by rfl, ?_⟩; intro w hSw; obtain ⟨hS1, hS2, hS3⟩ := hSw; go_simp; try with_reducible rfl)) | (refine Or.inr ⟨by rfl, ?_⟩; rfl)
            · assumption
            try simp only [Act.put, List.setIfInBounds_toArray, List.set_cons_zero, List.set_cons_succ]
            refine wpAnyH_take (i := 4) (oi := ?_) (v := ?_) ?_ ?_ ?_ ?_ ?_ ?_ ?_ ?_
            rotate_left 2
            · (simp only [List.getElem?_toArray, List.getElem?_cons_succ, List.getElem?_cons_zero]; exact rfl)
            · kernel_rfl
            · kernel_rfl
            · kernel_rfl
            · exact fun _ _ _ h => h
            · first | (refine Or.inl ⟨by rfl, ?_⟩; intro w hSw; (try dsimp only at hSw); go_simp; try with_reducible rfl) | (refine Or.inr ⟨by rfl, ?_⟩; rfl)
            · assumption
            try simp only [Act.put, List.setIfInBounds_toArray, List.set_cons_zero, List.set_cons_succ]
            refine wpAnyH_take (i := 5) (oi := ?_) (v := ?_) ?_ ?_ ?_ ?_ ?_ ?_ ?_ ?_
            rotate_left 2
            · (simp only [List.getElem?_toArray, List.getElem?_cons_succ, List.getElem?_cons_zero]; exact rfl)
            · kernel_rfl
            · kernel_rfl
            · kernel_rfl
            · exact fun _ _ _ h => h
            · first | (refine Or.inl ⟨by rfl, ?_⟩; intro w hSw; (try dsimp only at hSw); go_simp; try with_reducible rfl) | (refine Or.inr ⟨by rfl, ?_⟩; rfl)
            · assumption
            try simp only [Act.put, List.setIfInBounds_toArray, List.set_cons_zero, List.set_cons_succ]
            refine wpAnyH_take (i := 6) (oi := ?_) (v := ?_) ?_ ?_ ?_ ?_ ?_ ?_ ?_ ?_
            rotate_left 2
            · (simp only [List.getElem?_toArray, List.getElem?_cons_succ, List.getElem?_cons_zero]; exact rfl)
            · kernel_rfl
            · kernel_rfl
            · kernel_rfl
            · exact fun _ _ _ h => h
            · first | (first | ((refine yieldsIf_load_mid ?_ 29 (.tmp 5) ?_ bm 0 ?_ mk.toList _ ?_ HUL.out ?_ HMI2.out) <;> first | rfl | exact fun w h => h.2.1) | (refine Or.inl ⟨by rfl, ?_⟩; intro w hSw; obtain ⟨hS1, hS2, hS3⟩ := hSw; go_simp; try with_reducible rfl)) | (refine Or.inr ⟨by rfl, ?_⟩; rfl)
            · assumption
            try simp only [Act.put, List.setIfInBounds_toArray, List.set_cons_zero, List.set_cons_succ]
            refine wpAnyH_take (i := 9) (oi := ?_) (v := ?_) ?_ ?_ ?_ ?_ ?_ ?_ ?_ ?_
            rotate_left 2
            · (simp only [List.getElem?_toArray, List.getElem?_cons_succ, List.getElem?_cons_zero]; exact rfl)
            · kernel_rfl
            · kernel_rfl
            · kernel_rfl
            · exact fun _ _ _ h => h
            · first | (refine Or.inl ⟨by rfl, ?_⟩; intro w hSw; (try dsimp only at hSw); go_simp; try with_reducible rfl) | (refine Or.inr ⟨by rfl, ?_⟩; rfl)
            · assumption
            try simp only [Act.put, List.setIfInBounds_toArray, List.set_cons_zero, List.set_cons_succ]
            refine wpAnyH_take (i := 10) (oi := ?_) (v := ?_) ?_ ?_ ?_ ?_ ?_ ?_ ?_ ?_
            rotate_left 2
            · (simp only [List.getElem?_toArray, List.getElem?_cons_succ, List.getElem?_cons_zero]; exact rfl)
            · kernel_rfl
            · kernel_rfl
            · kernel_rfl
            · exact fun _ _ _ h => h
            · first | (refine Or.inl ⟨by rfl, ?_⟩; intro w hSw; (try dsimp only at hSw); go_simp; try with_reducible rfl) | (refine Or.inr ⟨by rfl, ?_⟩; rfl)
            · assumption
            try simp only [Act.put, List.setIfInBounds_toArray, List.set_cons_zero, List.set_cons_succ]
            refine wpAnyH_ready (rs := [7]) (by kernel_rfl) (by simp) ?_
            refine AllReadyH.cons (o := ?_) ?_ (fun K hK => ?_) ?_
            rotate_left 1
            · (simp only [List.getElem?_toArray, List.getElem?_cons_succ, List.getElem?_cons_zero]; exact rfl)
            · go_simp
              (first | (go_at_call 27; (refine (KB.out _ HDW.out).mono ?_); rintro e wx ⟨v5, rfl, A5, c5, L5, rfl, hr5, hx⟩; have hcv := HCY.out wx A5 c5 (hr5.src fun p hp => hx.own p (List.mem_append.2 (.inl hp))); dsimp only))
              refine hK.out _ _ ?_ (fun hHeld => ?_)
              · (try dsimp only) <;> (exact SX.out _ _ hx)
              clear hK K
              try simp only [Act.put, List.setIfInBounds_toArray, List.set_cons_zero, List.set_cons_succ]
              refine wpAnyH_ready (rs := [8]) (by kernel_rfl) (by simp) ?_
              refine AllReadyH.cons (o := ?_) ?_ (fun K hK => ?_) ?_
              rotate_left 1
              · (simp only [List.getElem?_toArray, List.getElem?_cons_succ, List.getElem?_cons_zero]; exact rfl)
              · go_simp
                refine hK.out _ _ ?_ (fun hHeld => ?_)
                · (try dsimp only) <;> (exact SX.out _ _ hx)
                clear hK K
                try simp only [Act.put, List.setIfInBounds_toArray, List.set_cons_zero, List.set_cons_succ]
                refine wpAnyH_take (i := 11) (oi := ?_) (v := ?_) ?_ ?_ ?_ ?_ ?_ ?_ ?_ ?_
                rotate_left 2
                · (simp only [List.getElem?_toArray, List.getElem?_cons_succ, List.getElem?_cons_zero]; exact rfl)
                · kernel_rfl
                · kernel_rfl
                · kernel_rfl
                · exact fun _ _ _ h => h
                · first | (refine Or.inl ⟨by rfl, ?_⟩; intro w hSw; (try dsimp only at hSw); go_simp; try with_reducible rfl) | (refine Or.inr ⟨by rfl, ?_⟩; rfl)
                · assumption
                try simp only [Act.put, List.setIfInBounds_toArray, List.set_cons_zero, List.set_cons_succ]
                refine wpAnyH_take (i := 12) (oi := ?_) (v := ?_) ?_ ?_ ?_ ?_ ?_ ?_ ?_ ?_
                rotate_left 2
                · (simp only [List.getElem?_toArray, List.getElem?_cons_succ, List.getElem?_cons_zero]; exact rfl)
                · kernel_rfl
                · kernel_rfl
                · kernel_rfl
                · exact fun _ _ _ h => h
                · first | (refine Or.inl ⟨by rfl, ?_⟩; intro w hSw; (try dsimp only at hSw); go_simp; try with_reducible rfl) | (refine Or.inr ⟨by rfl, ?_⟩; rfl)
                · assumption
                try simp only [Act.put, List.setIfInBounds_toArray, List.set_cons_zero, List.set_cons_succ]
                refine wpAnyH_take (i := 13) (oi := ?_) (v := ?_) ?_ ?_ ?_ ?_ ?_ ?_ ?_ ?_
                rotate_left 2
                · (simp only [List.getElem?_toArray, List.getElem?_cons_succ, List.getElem?_cons_zero]; exact rfl)
                · kernel_rfl
                · kernel_rfl
                · kernel_rfl
                · exact fun _ _ _ h => h
                · first | (refine Or.inl ⟨by rfl, ?_⟩; intro w hSw; (try dsimp only at hSw); go_simp; try with_reducible rfl) | (refine Or.inr ⟨by rfl, ?_⟩; rfl)
                · assumption
                try simp only [Act.put, List.setIfInBounds_toArray, List.set_cons_zero, List.set_cons_succ]
                refine wpAnyH_take (i := 14) (oi := ?_) (v := ?_) ?_ ?_ ?_ ?_ ?_ ?_ ?_ ?_
                rotate_left 2
                · (simp only [List.getElem?_toArray, List.getElem?_cons_succ, List.getElem?_cons_zero]; exact rfl)
                · kernel_rfl
                · kernel_rfl
                · kernel_rfl
                · exact fun _ _ _ h => h
                · first | (refine Or.inl ⟨by rfl, ?_⟩; intro w hSw; (try dsimp only at hSw); go_simp; try with_reducible rfl) | (refine Or.inr ⟨by rfl, ?_⟩; rfl)
                · assumption
                try simp only [Act.put, List.setIfInBounds_toArray, List.set_cons_zero, List.set_cons_succ]
                refine wpAnyH_take (i := 15) (oi := ?_) (v := ?_) ?_ ?_ ?_ ?_ ?_ ?_ ?_ ?_
                rotate_left 2
                · (simp only [List.getElem?_toArray, List.getElem?_cons_succ, List.getElem?_cons_zero]; exact rfl)
                · kernel_rfl
                · kernel_rfl
                · kernel_rfl
                · exact fun _ _ _ h => h
                · first | (refine Or.inl ⟨by rfl, ?_⟩; intro w hSw; (try dsimp only at hSw); go_simp; try with_reducible rfl) | (refine Or.inr ⟨by rfl, ?_⟩; rfl)
                · assumption
                try simp only [Act.put, List.setIfInBounds_toArray, List.set_cons_zero, List.set_cons_succ]
                refine wpAnyH_take (i := 16) (oi := ?_) (v := ?_) ?_ ?_ ?_ ?_ ?_ ?_ ?_ ?_
                rotate_left 2
                · (simp only [List.getElem?_toArray, List.getElem?_cons_succ, List.getElem?_cons_zero]; exact rfl)
                · kernel_rfl
                · kernel_rfl
                · kernel_rfl
                · exact fun _ _ _ h => h
                · first | (refine Or.inl ⟨by rfl, ?_⟩; intro w hSw; (try dsimp only at hSw); go_simp; try with_reducible rfl) | (refine Or.inr ⟨by rfl, ?_⟩; rfl)
                · assumption
                try simp only [Act.put, List.setIfInBounds_toArray, List.set_cons_zero, List.set_cons_succ]
                refine wpAnyH_take (i := 17) (oi := ?_) (v := ?_) ?_ ?_ ?_ ?_ ?_ ?_ ?_ ?_
                rotate_left 2
                · (simp only [List.getElem?_toArray, List.getElem?_cons_succ, List.getElem?_cons_zero]; exact rfl)
                · kernel_rfl
                · kernel_rfl
                · kernel_rfl
                · exact fun _ _ _ h => h
                · first | (refine Or.inl ⟨by rfl, ?_⟩; intro w hSw; (try dsimp only at hSw); go_simp; try with_reducible rfl) | (refine Or.inr ⟨by rfl, ?_⟩; rfl)
                · assumption
                try simp only [Act.put, List.setIfInBounds_toArray, List.set_cons_zero, List.set_cons_succ]
                refine wpAnyH_done (by kernel_rfl) ?_ _
                have HX := Lib.hid (St.weaken (A := L5) hx)
                clear hx hr5 hcv
                repeat clear hHeld
                have hsb := St.swap (A := L0 ++ [(g, _), (bm, _)]) (B := [(b2, _)]) (by rw [List.append_assoc]; exact HX.out)
                have HSB := Lib.hid hsb
                clear hsb HX
                go_wp2_with (first
                  | (with_reducible refine wpList_build_st rfl 29 _ rfl _ ?_ (HZB.out _) ?_; · go_simp)
                  | (with_reducible refine wpList_store_st rfl 29 (.tmp 2) (.tmp 63) rfl (g := b2) (off := 0) zc rfl rfl HSB.out HZF.out HZI.out HZO.out ?_; intro w12 h12; refine Hid.out ?_))
                refine Lib.hid ?_
                rw [setMany_whole _ _ (by rw [Array.length_toList]), Array.toArray_toList] at h12
                have H12 := Lib.hid h12
                clear h12
                go_wp2_with fail
                refine bodyPost_ret (results_row_tmp rfl _ _ b2 29 zc (0, 0) _ rfl (H12.out.own (b2, _) (List.mem_cons_self ..)) Tryd.underlying29 rfl HZI.out) rfl ?_
                have hq := HQ0.out _ (by simp) (St.weaken (A := (b2, _) :: (L0 ++ [(g, _), (bm, _)])) (by have h9 := H12.out; simpa using h9))
                rw [HZV.out] at hq
                exact hq
              exact AllReadyH.nil
            exact AllReadyH.nil
          case pos =>
            obtain rfl : sb = sY := by rw [← hsY, ← hsb, heq]
            have FIN : Hid (G = !decide (BL = 0)) := Lib.hid (by rw [FIN.out, decide_eq_true heq, Bool.true_and])
            clear heq hsb hsY hBL
            by_cases hb0 : BL = 0
            · obtain rfl : G = false := by rw [FIN.out, decide_eq_true hb0]; rfl
              have hb0' : (BL : Int) = 0 := by omega
              clear hb0 FIN
              go_wp2_with fail
              refine wp_region_held_drew (S := fun v => v.cell? ⟨g, 1, none⟩ = some (.int .i64 0) ∧ v.rangeAt bm 0 mk.toList ∧ (convert 22 9 (.slice A0 BL cap)).run Tryd.prog v = .ok (.string sb) v) (by kernel_rfl) (SX.out _ [] HDW.out) (fun hHeld => ?_)
              refine wpAnyH_take (i := 0) (oi := ?_) (v := ?_) ?_ ?_ ?_ ?_ ?_ ?_ ?_ ?_
              rotate_left 2
              · (simp only [List.getElem?_toArray, List.getElem?_cons_succ, List.getElem?_cons_zero]; exact rfl)
              · kernel_rfl
              · kernel_rfl
              · kernel_rfl
              · exact fun _ _ _ h => h
              · first | (refine Or.inl ⟨by rfl, ?_⟩; intro w hSw; (try dsimp only at hSw); go_simp; try with_reducible rfl) | (refine Or.inr ⟨by rfl, ?_⟩; rfl)
              · assumption
              try simp only [Act.put, List.setIfInBounds_toArray, List.set_cons_zero, List.set_cons_succ]
              refine wpAnyH_take (i := 1) (oi := ?_) (v := ?_) ?_ ?_ ?_ ?_ ?_ ?_ ?_ ?_
              rotate_left 2
              · (simp only [List.getElem?_toArray, List.getElem?_cons_succ, List.getElem?_cons_zero]; exact rfl)
              · kernel_rfl
              · kernel_rfl
              · kernel_rfl
              · exact fun _ _ _ h => h
              · first | (refine Or.inl ⟨by rfl, ?_⟩; intro w hSw; (try dsimp only at hSw); go_simp; try with_reducible rfl) | (refine Or.inr ⟨by rfl, ?_⟩; rfl)
              · assumption
              try simp only [Act.put, List.setIfInBounds_toArray, List.set_cons_zero, List.set_cons_succ]
              refine wpAnyH_take (i := 2) (oi := ?_) (v := ?_) ?_ ?_ ?_ ?_ ?_ ?_ ?_ ?_
              rotate_left 2
              · (simp only [List.getElem?_toArray, List.getElem?_cons_succ, List.getElem?_cons_zero]; exact rfl)
              · kernel_rfl
              · kernel_rfl
              · kernel_rfl
              · exact fun _ _ _ h => h
              · first | (refine Or.inl ⟨by rfl, ?_⟩; intro w hSw; (try dsimp only at hSw); go_simp; try with_reducible rfl) | (refine Or.inr ⟨by rfl, ?_⟩; rfl)
              · assumption
              try simp only [Act.put, List.setIfInBounds_toArray, List.set_cons_zero, List.set_cons_succ]
              refine wpAnyH_take (i := 3) (oi := ?_) (v := ?_) ?_ ?_ ?_ ?_ ?_ ?_ ?_ ?_
              rotate_left 2
              · (simp only [List.getElem?_toArray, List.getElem?_cons_succ, List.getElem?_cons_zero]; exact rfl)
              · kernel_rfl
              · kernel_rfl
              · kernel_rfl
              · exact fun _ _ _ h => h
              · first | (first | ((refine yieldsIf_load_mid ?_ 29 (.tmp 5) ?_ bm 0 ?_ mk.toList _ ?_ HUL.out ?_ HMI2.out) <;> first | rfl | exact fun w h => h.2.1) | (refine Or.inl ⟨by rfl, ?_⟩; intro w hSw; obtain ⟨hS1, hS2, hS3⟩ := hSw; go_simp; try with_reducible rfl)) | (refine Or.inr ⟨by rfl, ?_⟩; rfl)
              · assumption
              try simp only [Act.put, List.setIfInBounds_toArray, List.set_cons_zero, List.set_cons_succ]
              refine wpAnyH_take (i := 4) (oi := ?_) (v := ?_) ?_ ?_ ?_ ?_ ?_ ?_ ?_ ?_
              rotate_left 2
              · (simp only [List.getElem?_toArray, List.getElem?_cons_succ, List.getElem?_cons_zero]; exact rfl)
              · kernel_rfl
              · kernel_rfl
              · kernel_rfl
              · exact fun _ _ _ h => h
              · first | (refine Or.inl ⟨by rfl, ?_⟩; intro w hSw; (try dsimp only at hSw); go_simp; try with_reducible rfl) | (refine Or.inr ⟨by rfl, ?_⟩; rfl)
              · assumption
              try simp only [Act.put, List.setIfInBounds_toArray, List.set_cons_zero, List.set_cons_succ]
              refine wpAnyH_take (i := 5) (oi := ?_) (v := ?_) ?_ ?_ ?_ ?_ ?_ ?_ ?_ ?_
              rotate_left 2
              · (simp only [List.getElem?_toArray, List.getElem?_cons_succ, List.getElem?_cons_zero]; exact rfl)
              · kernel_rfl
              · kernel_rfl
              · kernel_rfl
              · exact fun _ _ _ h => h
              · first | (refine Or.inl ⟨by rfl, ?_⟩; intro w hSw; (try dsimp only at hSw); go_simp; try with_reducible rfl) | (refine Or.inr ⟨by rfl, ?_⟩; rfl)
              · assumption
              try simp only [Act.put, List.setIfInBounds_toArray, List.set_cons_zero, List.set_cons_succ]
              refine wpAnyH_take (i := 6) (oi := ?_) (v := ?_) ?_ ?_ ?_ ?_ ?_ ?_ ?_ ?_
              rotate_left 2
              · (simp only [List.getElem?_toArray, List.getElem?_cons_succ, List.getElem?_cons_zero]; exact rfl)
              · kernel_rfl
              · kernel_rfl
              · kernel_rfl
              · exact fun _ _ _ h => h
              · first | (first | ((refine yieldsIf_load_mid ?_ 29 (.tmp 5) ?_ bm 0 ?_ mk.toList _ ?_ HUL.out ?_ HMI2.out) <;> first | rfl | exact fun w h => h.2.1) | (refine Or.inl ⟨by rfl, ?_⟩; intro w hSw; obtain ⟨hS1, hS2, hS3⟩ := hSw; go_simp; try with_reducible rfl)) | (refine Or.inr ⟨by rfl, ?_⟩; rfl)
              · assumption
              try simp only [Act.put, List.setIfInBounds_toArray, List.set_cons_zero, List.set_cons_succ]
              refine wpAnyH_take (i := 9) (oi := ?_) (v := ?_) ?_ ?_ ?_ ?_ ?_ ?_ ?_ ?_
              rotate_left 2
              · (simp only [List.getElem?_toArray, List.getElem?_cons_succ, List.getElem?_cons_zero]; exact rfl)
              · kernel_rfl
              · kernel_rfl
              · kernel_rfl
              · exact fun _ _ _ h => h
              · first | (refine Or.inl ⟨by rfl, ?_⟩; intro w hSw; (try dsimp only at hSw); go_simp; try with_reducible rfl) | (refine Or.inr ⟨by rfl, ?_⟩; rfl)
              · assumption
              try simp only [Act.put, List.setIfInBounds_toArray, List.set_cons_zero, List.set_cons_succ]
              refine wpAnyH_take (i := 10) (oi := ?_) (v := ?_) ?_ ?_ ?_ ?_ ?_ ?_ ?_ ?_
              rotate_left 2
              · (simp only [List.getElem?_toArray, List.getElem?_cons_succ, List.getElem?_cons_zero]; exact rfl)
              · kernel_rfl
              · kernel_rfl
              · kernel_rfl
              · exact fun _ _ _ h => h
              · first | (refine Or.inl ⟨by rfl, ?_⟩; intro w hSw; (try dsimp only at hSw); go_simp; try with_reducible rfl) | (refine Or.inr ⟨by rfl, ?_⟩; rfl)
              · assumption
              try simp only [Act.put, List.setIfInBounds_toArray, List.set_cons_zero, List.set_cons_succ]
              refine wpAnyH_ready (rs := [7]) (by kernel_rfl) (by simp) ?_
              refine AllReadyH.cons (o := ?_) ?_ (fun K hK => ?_) ?_
              rotate_left 1
              · (simp only [List.getElem?_toArray, List.getElem?_cons_succ, List.getElem?_cons_zero]; exact rfl)
              · go_simp
                (first | (go_at_call 27; (refine (KB.out _ HDW.out).mono ?_); rintro e wx ⟨v5, rfl, A5, c5, L5, rfl, hr5, hx⟩; have hcv := HCY.out wx A5 c5 (hr5.src fun p hp => hx.own p (List.mem_append.2 (.inl hp))); dsimp only))
                refine hK.out _ _ ?_ (fun hHeld => ?_)
                · (try dsimp only) <;> (exact SX.out _ _ hx)
                clear hK K
                try simp only [Act.put, List.setIfInBounds_toArray, List.set_cons_zero, List.set_cons_succ]
                refine wpAnyH_ready (rs := [8]) (by kernel_rfl) (by simp) ?_
                refine AllReadyH.cons (o := ?_) ?_ (fun K hK => ?_) ?_
                rotate_left 1
                · (simp only [List.getElem?_toArray, List.getElem?_cons_succ, List.getElem?_cons_zero]; exact rfl)
                · go_simp
                  refine hK.out _ _ ?_ (fun hHeld => ?_)
                  · (try dsimp only) <;> (exact SX.out _ _ hx)
                  clear hK K
                  try simp only [Act.put, List.setIfInBounds_toArray, List.set_cons_zero, List.set_cons_succ]
                  refine wpAnyH_take (i := 11) (oi := ?_) (v := ?_) ?_ ?_ ?_ ?_ ?_ ?_ ?_ ?_
                  rotate_left 2
                  · (simp only [List.getElem?_toArray, List.getElem?_cons_succ, List.getElem?_cons_zero]; exact rfl)
                  · kernel_rfl
                  · kernel_rfl
                  · kernel_rfl
                  · exact fun _ _ _ h => h
                  · first | (refine Or.inl ⟨by rfl, ?_⟩; intro w hSw; (try dsimp only at hSw); go_simp; try with_reducible rfl) | (refine Or.inr ⟨by rfl, ?_⟩; rfl)
                  · assumption
                  try simp only [Act.put, List.setIfInBounds_toArray, List.set_cons_zero, List.set_cons_succ]
                  refine wpAnyH_take (i := 12) (oi := ?_) (v := ?_) ?_ ?_ ?_ ?_ ?_ ?_ ?_ ?_
                  rotate_left 2
                  · (simp only [List.getElem?_toArray, List.getElem?_cons_succ, List.getElem?_cons_zero]; exact rfl)
                  · kernel_rfl
                  · kernel_rfl
                  · kernel_rfl
                  · exact fun _ _ _ h => h
                  · first | (refine Or.inl ⟨by rfl, ?_⟩; intro w hSw; (try dsimp only at hSw); go_simp; try with_reducible rfl) | (refine Or.inr ⟨by rfl, ?_⟩; rfl)
                  · assumption
                  try simp only [Act.put, List.setIfInBounds_toArray, List.set_cons_zero, List.set_cons_succ]
                  refine wpAnyH_take (i := 13) (oi := ?_) (v := ?_) ?_ ?_ ?_ ?_ ?_ ?_ ?_ ?_
                  rotate_left 2
                  · (simp only [List.getElem?_toArray, List.getElem?_cons_succ, List.getElem?_cons_zero]; exact rfl)
                  · kernel_rfl
                  · kernel_rfl
                  · kernel_rfl
                  · exact fun _ _ _ h => h
                  · first | (refine Or.inl ⟨by rfl, ?_⟩; intro w hSw; (try dsimp only at hSw); go_simp; try with_reducible rfl) | (refine Or.inr ⟨by rfl, ?_⟩; rfl)
                  · assumption
                  try simp only [Act.put, List.setIfInBounds_toArray, List.set_cons_zero, List.set_cons_succ]
                  refine wpAnyH_take (i := 14) (oi := ?_) (v := ?_) ?_ ?_ ?_ ?_ ?_ ?_ ?_ ?_
                  rotate_left 2
                  · (simp only [List.getElem?_toArray, List.getElem?_cons_succ, List.getElem?_cons_zero]; exact rfl)
                  · kernel_rfl
                  · kernel_rfl
                  · kernel_rfl
                  · exact fun _ _ _ h => h
                  · first | (refine Or.inl ⟨by rfl, ?_⟩; intro w hSw; (try dsimp only at hSw); go_simp; try with_reducible rfl) | (refine Or.inr ⟨by rfl, ?_⟩; rfl)
                  · assumption
                  try simp only [Act.put, List.setIfInBounds_toArray, List.set_cons_zero, List.set_cons_succ]
                  refine wpAnyH_take (i := 15) (oi := ?_) (v := ?_) ?_ ?_ ?_ ?_ ?_ ?_ ?_ ?_
                  rotate_left 2
                  · (simp only [List.getElem?_toArray, List.getElem?_cons_succ, List.getElem?_cons_zero]; exact rfl)
                  · kernel_rfl
                  · kernel_rfl
                  · kernel_rfl
                  · exact fun _ _ _ h => h
                  · first | (refine Or.inl ⟨by rfl, ?_⟩; intro w hSw; (try dsimp only at hSw); go_simp; try with_reducible rfl) | (refine Or.inr ⟨by rfl, ?_⟩; rfl)
                  · assumption
                  try simp only [Act.put, List.setIfInBounds_toArray, List.set_cons_zero, List.set_cons_succ]
                  refine wpAnyH_take (i := 16) (oi := ?_) (v := ?_) ?_ ?_ ?_ ?_ ?_ ?_ ?_ ?_
                  rotate_left 2
                  · (simp only [List.getElem?_toArray, List.getElem?_cons_succ, List.getElem?_cons_zero]; exact rfl)
                  · kernel_rfl
                  · kernel_rfl
                  · kernel_rfl
                  · exact fun _ _ _ h => h
                  · first | (refine Or.inl ⟨by rfl, ?_⟩; intro w hSw; (try dsimp only at hSw); go_simp; try with_reducible rfl) | (refine Or.inr ⟨by rfl, ?_⟩; rfl)
                  · assumption
                  try simp only [Act.put, List.setIfInBounds_toArray, List.set_cons_zero, List.set_cons_succ]
                  refine wpAnyH_take (i := 17) (oi := ?_) (v := ?_) ?_ ?_ ?_ ?_ ?_ ?_ ?_ ?_
                  rotate_left 2
                  · (simp only [List.getElem?_toArray, List.getElem?_cons_succ, List.getElem?_cons_zero]; exact rfl)
                  · kernel_rfl
                  · kernel_rfl
                  · kernel_rfl
                  · exact fun _ _ _ h => h
                  · first | (refine Or.inl ⟨by rfl, ?_⟩; intro w hSw; (try dsimp only at hSw); go_simp; try with_reducible rfl) | (refine Or.inr ⟨by rfl, ?_⟩; rfl)
                  · assumption
                  try simp only [Act.put, List.setIfInBounds_toArray, List.set_cons_zero, List.set_cons_succ]
                  refine wpAnyH_done (by kernel_rfl) ?_ _
                  have HX := Lib.hid (St.weaken (A := L5) hx)
                  clear hx hr5 hcv
                  repeat clear hHeld
                  have hsb := St.swap (A := L0 ++ [(g, _), (bm, _)]) (B := [(b2, _)]) (by rw [List.append_assoc]; exact HX.out)
                  have HSB := Lib.hid hsb
                  clear hsb HX
                  go_wp2_with (first
                    | (with_reducible refine wpList_build_st rfl 29 _ rfl _ ?_ (HZB.out _) ?_; · go_simp)
                    | (with_reducible refine wpList_store_st rfl 29 (.tmp 2) (.tmp 63) rfl (g := b2) (off := 0) zc rfl rfl HSB.out HZF.out HZI.out HZO.out ?_; intro w12 h12; refine Hid.out ?_))
                  refine Lib.hid ?_
                  rw [setMany_whole _ _ (by rw [Array.length_toList]), Array.toArray_toList] at h12
                  have H12 := Lib.hid h12
                  clear h12
                  go_wp2_with fail
                  refine bodyPost_ret (results_row_tmp rfl _ _ b2 29 zc (0, 0) _ rfl (H12.out.own (b2, _) (List.mem_cons_self ..)) Tryd.underlying29 rfl HZI.out) rfl ?_
                  have hq := HQ0.out _ (by simp) (St.weaken (A := (b2, _) :: (L0 ++ [(g, _), (bm, _)])) (by have h9 := H12.out; simpa using h9))
                  rw [HZV.out] at hq
                  exact hq
                exact AllReadyH.nil
              exact AllReadyH.nil
            · obtain rfl : G = true := by rw [FIN.out, decide_eq_false hb0]; rfl
              have hb0' : ¬ (BL : Int) = 0 := by omega
              have hb0'' : ((BL : Int) == 0) = false := by simpa using hb0
              clear hb0 FIN
              go_wp2_with fail
              refine wp_region_held_drew (S := fun v => v.cell? ⟨g, 1, none⟩ = some (.int .i64 0) ∧ v.rangeAt bm 0 mk.toList ∧ (convert 22 9 (.slice A0 BL cap)).run Tryd.prog v = .ok (.string sb) v) (by kernel_rfl) (SX.out _ [] HDW.out) (fun hHeld => ?_)
              refine wpAnyH_take (i := 0) (oi := ?_) (v := ?_) ?_ ?_ ?_ ?_ ?_ ?_ ?_ ?_
              rotate_left 2
              · (simp only [List.getElem?_toArray, List.getElem?_cons_succ, List.getElem?_cons_zero]; exact rfl)
              · kernel_rfl
              · kernel_rfl
              · kernel_rfl
              · exact fun _ _ _ h => h
              · first | (refine Or.inl ⟨by rfl, ?_⟩; intro w hSw; (try dsimp only at hSw); go_simp; try with_reducible rfl) | (refine Or.inr ⟨by rfl, ?_⟩; rfl)
              · assumption
              try simp only [Act.put, List.setIfInBounds_toArray, List.set_cons_zero, List.set_cons_succ]
              refine wpAnyH_take (i := 1) (oi := ?_) (v := ?_) ?_ ?_ ?_ ?_ ?_ ?_ ?_ ?_
              rotate_left 2
              · (simp only [List.getElem?_toArray, List.getElem?_cons_succ, List.getElem?_cons_zero]; exact rfl)
              · kernel_rfl
              · kernel_rfl
              · kernel_rfl
              · exact fun _ _ _ h => h
              · first | (refine Or.inl ⟨by rfl, ?_⟩; intro w hSw; (try dsimp only at hSw); go_simp; try with_reducible rfl) | (refine Or.inr ⟨by rfl, ?_⟩; rfl)
              · assumption
              try simp only [Act.put, List.setIfInBounds_toArray, List.set_cons_zero, List.set_cons_succ]
              refine wpAnyH_take (i := 2) (oi := ?_) (v := ?_) ?_ ?_ ?_ ?_ ?_ ?_ ?_ ?_
              rotate_left 2
              · (simp only [List.getElem?_toArray, List.getElem?_cons_succ, List.getElem?_cons_zero]; exact rfl)
              · kernel_rfl
              · kernel_rfl
              · kernel_rfl
              · exact fun _ _ _ h => h
              · first | (refine Or.inl ⟨by rfl, ?_⟩; intro w hSw; (try dsimp only at hSw); go_simp; try with_reducible rfl) | (refine Or.inr ⟨by rfl, ?_⟩; rfl)
              · assumption
              try simp only [Act.put, List.setIfInBounds_toArray, List.set_cons_zero, List.set_cons_succ]
              refine wpAnyH_take (i := 3) (oi := ?_) (v := ?_) ?_ ?_ ?_ ?_ ?_ ?_ ?_ ?_
              rotate_left 2
              · (simp only [List.getElem?_toArray, List.getElem?_cons_succ, List.getElem?_cons_zero]; exact rfl)
              · kernel_rfl
              · kernel_rfl
              · kernel_rfl
              · exact fun _ _ _ h => h
              · first | (first | ((refine yieldsIf_load_mid ?_ 29 (.tmp 5) ?_ bm 0 ?_ mk.toList _ ?_ HUL.out ?_ HMI2.out) <;> first | rfl | exact fun w h => h.2.1) | (refine Or.inl ⟨by rfl, ?_⟩; intro w hSw; obtain ⟨hS1, hS2, hS3⟩ := hSw; go_simp; try with_reducible rfl)) | (refine Or.inr ⟨by rfl, ?_⟩; rfl)
              · assumption
              try simp only [Act.put, List.setIfInBounds_toArray, List.set_cons_zero, List.set_cons_succ]
              refine wpAnyH_take (i := 4) (oi := ?_) (v := ?_) ?_ ?_ ?_ ?_ ?_ ?_ ?_ ?_
              rotate_left 2
              · (simp only [List.getElem?_toArray, List.getElem?_cons_succ, List.getElem?_cons_zero]; exact rfl)
              · kernel_rfl
              · kernel_rfl
              · kernel_rfl
              · exact fun _ _ _ h => h
              · first | (refine Or.inl ⟨by rfl, ?_⟩; intro w hSw; (try dsimp only at hSw); go_simp; try with_reducible rfl) | (refine Or.inr ⟨by rfl, ?_⟩; rfl)
              · assumption
              try simp only [Act.put, List.setIfInBounds_toArray, List.set_cons_zero, List.set_cons_succ]
              refine wpAnyH_take (i := 5) (oi := ?_) (v := ?_) ?_ ?_ ?_ ?_ ?_ ?_ ?_ ?_
              rotate_left 2
              · (simp only [List.getElem?_toArray, List.getElem?_cons_succ, List.getElem?_cons_zero]; exact rfl)
              · kernel_rfl
              · kernel_rfl
              · kernel_rfl
              · exact fun _ _ _ h => h
              · first | (refine Or.inl ⟨by rfl, ?_⟩; intro w hSw; (try dsimp only at hSw); go_simp; try with_reducible rfl) | (refine Or.inr ⟨by rfl, ?_⟩; rfl)
              · assumption
              try simp only [Act.put, List.setIfInBounds_toArray, List.set_cons_zero, List.set_cons_succ]
              refine wpAnyH_take (i := 6) (oi := ?_) (v := ?_) ?_ ?_ ?_ ?_ ?_ ?_ ?_ ?_
              rotate_left 2
              · (simp only [List.getElem?_toArray, List.getElem?_cons_succ, List.getElem?_cons_zero]; exact rfl)
              · kernel_rfl
              · kernel_rfl
              · kernel_rfl
              · exact fun _ _ _ h => h
              · first | (first | ((refine yieldsIf_load_mid ?_ 29 (.tmp 5) ?_ bm 0 ?_ mk.toList _ ?_ HUL.out ?_ HMI2.out) <;> first | rfl | exact fun w h => h.2.1) | (refine Or.inl ⟨by rfl, ?_⟩; intro w hSw; obtain ⟨hS1, hS2, hS3⟩ := hSw; go_simp; try with_reducible rfl)) | (refine Or.inr ⟨by rfl, ?_⟩; rfl)
              · assumption
              try simp only [Act.put, List.setIfInBounds_toArray, List.set_cons_zero, List.set_cons_succ]
              refine wpAnyH_take (i := 9) (oi := ?_) (v := ?_) ?_ ?_ ?_ ?_ ?_ ?_ ?_ ?_
              rotate_left 2
              · (simp only [List.getElem?_toArray, List.getElem?_cons_succ, List.getElem?_cons_zero]; exact rfl)
              · kernel_rfl
              · kernel_rfl
              · kernel_rfl
              · exact fun _ _ _ h => h
              · first | (refine Or.inl ⟨by rfl, ?_⟩; intro w hSw; (try dsimp only at hSw); go_simp; try with_reducible rfl) | (refine Or.inr ⟨by rfl, ?_⟩; rfl)
              · assumption
              try simp only [Act.put, List.setIfInBounds_toArray, List.set_cons_zero, List.set_cons_succ]
              refine wpAnyH_take (i := 10) (oi := ?_) (v := ?_) ?_ ?_ ?_ ?_ ?_ ?_ ?_ ?_
              rotate_left 2
              · (simp only [List.getElem?_toArray, List.getElem?_cons_succ, List.getElem?_cons_zero]; exact rfl)
              · kernel_rfl
              · kernel_rfl
              · kernel_rfl
              · exact fun _ _ _ h => h
              · first | (refine Or.inl ⟨by rfl, ?_⟩; intro w hSw; (try dsimp only at hSw); go_simp; try with_reducible rfl) | (refine Or.inr ⟨by rfl, ?_⟩; rfl)
              · assumption
              try simp only [Act.put, List.setIfInBounds_toArray, List.set_cons_zero, List.set_cons_succ]
              refine wpAnyH_ready (rs := [7]) (by kernel_rfl) (by simp) ?_
              refine AllReadyH.cons (o := ?_) ?_ (fun K hK => ?_) ?_
              rotate_left 1
              · (simp only [List.getElem?_toArray, List.getElem?_cons_succ, List.getElem?_cons_zero]; exact rfl)
              · go_simp
                (first | (go_at_call 27; (refine (KB.out _ HDW.out).mono ?_); rintro e wx ⟨v5, rfl, A5, c5, L5, rfl, hr5, hx⟩; have hcv := HCY.out wx A5 c5 (hr5.src fun p hp => hx.own p (List.mem_append.2 (.inl hp))); dsimp only))
                refine hK.out _ _ ?_ (fun hHeld => ?_)
                · (try dsimp only) <;> (exact SX.out _ _ hx)
                clear hK K
                try simp only [Act.put, List.setIfInBounds_toArray, List.set_cons_zero, List.set_cons_succ]
                refine wpAnyH_ready (rs := [8]) (by kernel_rfl) (by simp) ?_
                refine AllReadyH.cons (o := ?_) ?_ (fun K hK => ?_) ?_
                rotate_left 1
                · (simp only [List.getElem?_toArray, List.getElem?_cons_succ, List.getElem?_cons_zero]; exact rfl)
                · go_simp
                  refine hK.out _ _ ?_ (fun hHeld => ?_)
                  · (try dsimp only) <;> (exact SX.out _ _ hx)
                  clear hK K
                  try simp only [Act.put, List.setIfInBounds_toArray, List.set_cons_zero, List.set_cons_succ]
                  refine wpAnyH_take (i := 11) (oi := ?_) (v := ?_) ?_ ?_ ?_ ?_ ?_ ?_ ?_ ?_
                  rotate_left 2
                  · (simp only [List.getElem?_toArray, List.getElem?_cons_succ, List.getElem?_cons_zero]; exact rfl)
                  · kernel_rfl
                  · kernel_rfl
                  · kernel_rfl
                  · exact fun _ _ _ h => h
                  · first | (refine Or.inl ⟨by rfl, ?_⟩; intro w hSw; (try dsimp only at hSw); go_simp; try with_reducible rfl) | (refine Or.inr ⟨by rfl, ?_⟩; rfl)
                  · assumption
                  try simp only [Act.put, List.setIfInBounds_toArray, List.set_cons_zero, List.set_cons_succ]
                  refine wpAnyH_take (i := 12) (oi := ?_) (v := ?_) ?_ ?_ ?_ ?_ ?_ ?_ ?_ ?_
                  rotate_left 2
                  · (simp only [List.getElem?_toArray, List.getElem?_cons_succ, List.getElem?_cons_zero]; exact rfl)
                  · kernel_rfl
                  · kernel_rfl
                  · kernel_rfl
                  · exact fun _ _ _ h => h
                  · first | (refine Or.inl ⟨by rfl, ?_⟩; intro w hSw; (try dsimp only at hSw); go_simp; try with_reducible rfl) | (refine Or.inr ⟨by rfl, ?_⟩; rfl)
                  · assumption
                  try simp only [Act.put, List.setIfInBounds_toArray, List.set_cons_zero, List.set_cons_succ]
                  refine wpAnyH_take (i := 13) (oi := ?_) (v := ?_) ?_ ?_ ?_ ?_ ?_ ?_ ?_ ?_
                  rotate_left 2
                  · (simp only [List.getElem?_toArray, List.getElem?_cons_succ, List.getElem?_cons_zero]; exact rfl)
                  · kernel_rfl
                  · kernel_rfl
                  · kernel_rfl
                  · exact fun _ _ _ h => h
                  · first | (refine Or.inl ⟨by rfl, ?_⟩; intro w hSw; (try dsimp only at hSw); go_simp; try with_reducible rfl) | (refine Or.inr ⟨by rfl, ?_⟩; rfl)
                  · assumption
                  try simp only [Act.put, List.setIfInBounds_toArray, List.set_cons_zero, List.set_cons_succ]
                  refine wpAnyH_take (i := 14) (oi := ?_) (v := ?_) ?_ ?_ ?_ ?_ ?_ ?_ ?_ ?_
                  rotate_left 2
                  · (simp only [List.getElem?_toArray, List.getElem?_cons_succ, List.getElem?_cons_zero]; exact rfl)
                  · kernel_rfl
                  · kernel_rfl
                  · kernel_rfl
                  · exact fun _ _ _ h => h
                  · first | (refine Or.inl ⟨by rfl, ?_⟩; intro w hSw; (try dsimp only at hSw); go_simp; try with_reducible rfl) | (refine Or.inr ⟨by rfl, ?_⟩; rfl)
                  · assumption
                  try simp only [Act.put, List.setIfInBounds_toArray, List.set_cons_zero, List.set_cons_succ]
                  refine wpAnyH_take (i := 15) (oi := ?_) (v := ?_) ?_ ?_ ?_ ?_ ?_ ?_ ?_ ?_
                  rotate_left 2
                  · (simp only [List.getElem?_toArray, List.getElem?_cons_succ, List.getElem?_cons_zero]; exact rfl)
                  · kernel_rfl
                  · kernel_rfl
                  · kernel_rfl
                  · exact fun _ _ _ h => h
                  · first | (refine Or.inl ⟨by rfl, ?_⟩; intro w hSw; (try dsimp only at hSw); go_simp; try with_reducible rfl) | (refine Or.inr ⟨by rfl, ?_⟩; rfl)
                  · assumption
                  try simp only [Act.put, List.setIfInBounds_toArray, List.set_cons_zero, List.set_cons_succ]
                  refine wpAnyH_take (i := 16) (oi := ?_) (v := ?_) ?_ ?_ ?_ ?_ ?_ ?_ ?_ ?_
                  rotate_left 2
                  · (simp only [List.getElem?_toArray, List.getElem?_cons_succ, List.getElem?_cons_zero]; exact rfl)
                  · kernel_rfl
                  · kernel_rfl
                  · kernel_rfl
                  · exact fun _ _ _ h => h
                  · first | (refine Or.inl ⟨by rfl, ?_⟩; intro w hSw; (try dsimp only at hSw); go_simp; try with_reducible rfl) | (refine Or.inr ⟨by rfl, ?_⟩; rfl)
                  · assumption
                  try simp only [Act.put, List.setIfInBounds_toArray, List.set_cons_zero, List.set_cons_succ]
                  refine wpAnyH_take (i := 17) (oi := ?_) (v := ?_) ?_ ?_ ?_ ?_ ?_ ?_ ?_ ?_
                  rotate_left 2
                  · (simp only [List.getElem?_toArray, List.getElem?_cons_succ, List.getElem?_cons_zero]; exact rfl)
                  · kernel_rfl
                  · kernel_rfl
                  · kernel_rfl
                  · exact fun _ _ _ h => h
                  · first | (refine Or.inl ⟨by rfl, ?_⟩; intro w hSw; (try dsimp only at hSw); go_simp; try with_reducible rfl) | (refine Or.inr ⟨by rfl, ?_⟩; rfl)
                  · assumption
                  try simp only [Act.put, List.setIfInBounds_toArray, List.set_cons_zero, List.set_cons_succ]
                  refine wpAnyH_done (by kernel_rfl) ?_ _
                  have HX := Lib.hid (St.weaken (A := L5) hx)
                  clear hx hr5 hcv
                  repeat clear hHeld
                  have hsb := St.swap (A := L0 ++ [(g, _), (bm, _)]) (B := [(b2, _)]) (by rw [List.append_assoc]; exact HX.out)
                  have HSB := Lib.hid hsb
                  clear hsb
                  go_wp2_with (first
                    | (with_reducible refine wpList_load_st rfl 29 (.tmp 5) rfl (g := bm) (off := 0) rfl HX.out (cs := mk) (t := 29) (fr := (0, 0)) (by simp) mk (fun j hj => by rw [Nat.zero_add]) _ Tryd.underlying29 rfl HMI.out ?_)
                    | (with_reducible refine wpList_store_st rfl 29 (.tmp 2) (.tmp 64) rfl (g := b2) (off := 0) mk rfl rfl HSB.out HMF.out HMI.out HMO.out ?_; intro w12 h12; refine Hid.out ?_))
                  refine Lib.hid ?_
                  rw [setMany_whole _ _ (by rw [Array.length_toList, HSZ.out, HZS.out]), Array.toArray_toList] at h12
                  have H12 := Lib.hid h12
                  clear h12
                  go_wp2_with fail
                  refine bodyPost_ret (results_row_tmp rfl _ _ b2 29 mk (0, 0) _ rfl (H12.out.own (b2, _) (List.mem_cons_self ..)) Tryd.underlying29 rfl HMI.out) rfl ?_
                  obtain ⟨g1, g2⟩ := FIN3.out (by simp)
                  have h9 := St.weaken (A := [_]) H12.out
                  rw [List.append_assoc] at h9
                  have hq := HQ1.out k A c L0 _ (by simp) g1 g2 HROW.out (St.mid h9)
                  rw [HVAL.out] at hq
                  exact hq
                exact AllReadyH.nil
              exact AllReadyH.nil
end
end Go.Proofs.YtfbffmckmchbbaaDoor
