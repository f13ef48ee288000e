/- net: Fetch. net: Fetch of what is not there; More; New. -/
import Derived.Test.YtnhlpiomfljlcaaDoorNtA
import Derived.Deep.RegionHeld3
namespace Go.Proofs.YtnhlpiomfljlcaaDoor
section
set_option linter.unusedVariables false
set_option linter.unusedSimpArgs false
open Go.RowKit

def turned (b : List UInt8) (f : Fault) : List UInt8 := if b = [] then [] else b.modify (max f.at_ 0 % (b.length : Int)).toNat (· ^^^ f.v)
/-- What is fetched, and the error's number. -/
def fetched (bs : List UInt8) (f : Fault) (a m : Int) : List UInt8 × Int :=
  if f.kind = 1 then ([], 181) else if f.kind = 2 then (turned (piece bs a m) f, 0)
  else if f.kind = 3 then ((piece bs a m).take (max 0 (min f.at_ (piece bs a m).length)).toNat, 0) else if f.kind = 4 then (piece bs f.at_ m, 0) else (piece bs a m, 0)
def first (fs : List Fault) : Fault := fs.headD ⟨0, 0, 0⟩

/-- Bytes of the call's own, beside the stand-in. -/
def FreshN (W w : World) (J : Nat → Option Obj) (g m : Nat) (es : List (ByteArray × Part)) (fs : List Fault) (cnt : Nat) (F : List (Nat × Obj)) (bs : List UInt8) (v : Value) : Prop :=
  ∃ A c L', v = .slice A bs.length c ∧ Row 5 1 (.slice A bs.length c) bs.length (bs.map bval) L' ∧ NetSt W w J g m es fs cnt (L' ++ F)
section
variable {W w : World} {J : Nat → Option Obj} {g m : Nat} {es : List (ByteArray × Part)} {fs : List Fault} {cnt : Nat} {F : List (Nat × Obj)}
theorem FreshN.nil (h : NetSt W w J g m es fs cnt F) : FreshN W w J g m es fs cnt F [] (.slice none 0 0) := ⟨none, 0, [], rfl, Row.nil _ _, h⟩

theorem FreshN.drew {bs : List UInt8} {v : Value} (h : FreshN W w J g m es fs cnt F bs v) (n : Nat) : FreshN W (w.drewN n) J g m es fs cnt F bs v := by
  obtain ⟨A, c, L', h1, h2, φ, h3⟩ := h
  exact ⟨A, c, L', h1, h2, φ, h3.drew n⟩
theorem row_take {E : TypeId} {A : Option Addr} {n c k : Nat} {xs : List Value} {L : List (Nat × Obj)} (hk : k ≤ n) (h : Row E 1 (.slice A n c) n xs L) : Row E 1 (.slice A k c) k (xs.take k) L := by
  obtain ⟨hl, ⟨hv, h0, hL⟩ | ⟨g, off, cap, cur, hv, rfl, hnc, hcm, hsz, hxs⟩⟩ := h
  · injection hv with h1 _ h2
    subst h1; subst h2; subst h0; subst hL
    obtain rfl : k = 0 := by omega
    exact ⟨by simp, .inl ⟨rfl, rfl, rfl⟩⟩
  injection hv with h1 _ h2
  subst h1; subst h2
  refine ⟨by simp; omega, .inr ⟨g, off, c, cur, rfl, rfl, by omega, hcm, hsz, ?_⟩⟩
  rw [← hxs, List.take_take]
  congr 1
  omega
theorem row_set {E : TypeId} {A : Option Addr} {n c i : Nat} {u : Value} {xs : List Value} {L : List (Nat × Obj)} (hi : i < n) (h : Row E 1 (.slice A n c) n xs L) :
    ∃ g off cur, A = some ⟨g, off, none⟩ ∧ L = [(g, .cells cur E (0, 0))] ∧ cur[off + i]? = xs[i]? ∧ Row E 1 (.slice A n c) n (xs.set i u) [(g, .cells (cur.setIfInBounds (off + i) u) E (0, 0))] := by
  obtain ⟨hl, ⟨hv, h0, hL⟩ | ⟨g, off, cap, cur, hv, rfl, hnc, hcm, hsz, hxs⟩⟩ := h
  · omega
  injection hv with h1 _ h2
  subst h1; subst h2
  refine ⟨g, off, cur, rfl, rfl, ?_, by simp; omega, .inr ⟨g, off, c, _, rfl, rfl, hnc, hcm, by simp; omega, ?_⟩⟩
  · rw [← hxs, List.getElem?_take, if_pos (by omega), List.getElem?_drop]; simp
  · rw [← hxs]
    simp only [Array.toList_setIfInBounds]
    apply List.ext_getElem?
    intro j
    simp only [List.getElem?_take, List.getElem?_drop, List.getElem?_set, List.length_take, List.length_drop]
    by_cases hj : j < n * 1
    · by_cases he : i = j
      · subst he
        have hlt : off + i < cur.size := by omega
        simp [hj, hlt]
        rw [if_pos hi, if_pos (by omega)]
      · simp [hj, he]
    · by_cases he : i = j
      · omega
      · simp [hj, he]

theorem u8_xorI (a b : UInt8) : bits .xor .u8 (a.toNat : Int) (b.toNat : Int) = ((a ^^^ b).toNat : Int) := by rw [u8_xor_nat _ _ a.toNat_lt b.toNat_lt, UInt8.toNat_xor]

set_option maxRecDepth 100000 in
set_option maxHeartbeats 4000000 in
theorem net_fetch (t : TB W J) (ho : Offs W J es) (s : ByteArray) (hs : s.size ≤ 35184372088830) (a n : Int) (hfs : fs.length ≤ 1000000) (hcnt : cnt ≤ 1000000000) (p : Part) (hlp : lookP es ⟨(foldOf s).toArray⟩ = some p) (h : NetSt W w J g m es fs cnt F) :
    Calls Tryd.prog 65 #[.pointer (some ⟨g, 0, none⟩), .string s, .int .i64 a, .int .i64 n] w fun e w' => ∃ v, e = .returned (.tuple #[v, .int .i64 (fetched p.bs (first fs) a n).2]) ∧ FreshN W w' J g m es fs.tail (cnt + 1) F (fetched p.bs (first fs) a n).1 v := by
  obtain ⟨φ, h⟩ := h
  have c0 : ∀ x : SW W J (φ.L' g m es cnt ++ F), x.w.cell? ⟨g, 0, none⟩ = some (.map (some m)) := fun x => (net_cells φ x.ok).1
  have hlk : ∀ x : SW W J (φ.L' g m es cnt ++ F), (Instr.lookup 99 (.map (some m)) (.string ⟨(foldOf s).toArray⟩) true).run Tryd.prog x.w = .ok (.tuple #[.slice p.A p.bs.length p.c, .bool true]) x.w := fun x => by
    rw [run_lookup_map Tryd.underlying99 Tryd.underlying9 (net_cells φ x.ok).2.2.2.1 (Tryd.zeroValue27 x.w), look_ev, hlp]
    rfl
  have hF := fun (x : SW W J (φ.L' g m es cnt ++ F)) => fold_any t s hs x.ok
  have hp : POk p W J := by obtain ⟨k', hk'⟩ := lookP_mem hlp; exact ho _ hk'
  generalize foldOf s = fo at *
  have HF := Lib.hid hF; have H := Lib.hid h
  have hne : Nonempty (SW W J (φ.L' g m es cnt ++ F)) := ⟨⟨_, h⟩⟩
  clear hF h hlp ho
  obtain ⟨f, hf⟩ : ∃ f, first fs = f := ⟨_, rfl⟩
  rw [hf]
  have HFI := Lib.hid hf
  clear hf
  obtain ⟨B, E, hBE⟩ : ∃ B E, fetched p.bs f a n = (B, E) := ⟨_, _, rfl⟩
  rw [hBE]
  have HBE := Lib.hid hBE
  clear hBE
  go_enter Tryd.func65, Tryd.ntmps65
  go_wp2_with fail
  refine wp_region_sw _ H.out (by kernel_rfl) (by kernel_rfl) ?_
  repeat (go_big_quiet_step ((go_at_call 31; (with_reducible refine (HF.out _).mono ?_); exact fun e w'' ⟨h1, h2⟩ => ⟨h1, ⟨_, h2⟩, rfl⟩)))
  refine wpQuiet_nil ?_
  rintro _ ⟨x, rfl⟩
  have h1 := x.ok
  obtain ⟨w1, hw1⟩ : ∃ w1, x.w = w1 := ⟨_, rfl⟩
  rw [hw1] at h1 ⊢
  obtain ⟨_, d1, d2, _, _, f2⟩ := net_cells φ h1
  have hset := St.set (A := []) h1 2 (.int .i64 ((cnt + 1 : Nat) : Int))
  have hn1 : NetSt W (w1.setCell ⟨g, 2, none⟩ (.int .i64 ((cnt + 1 : Nat) : Int))) J g m es fs (cnt + 1) F := ⟨φ, hset⟩
  have hcast : ((cnt + 1 : Nat) : Int) = (cnt : Int) + 1 := by omega
  rw [hcast] at hn1
  have HN1 := Lib.hid hn1
  clear c0 hlk HF H hne hset hn1 h1 hcast hw1
  go_wp2_with fail
  have hnx : Calls Tryd.prog 80 #[.pointer (some ⟨g, 0, none⟩)] (w1.setCell ⟨g, 2, none⟩ (.int .i64 ((cnt : Int) + 1))) fun e w' => e = .returned (.agg #[.int .i64 f.kind, .int .i64 f.at_, .int .u8 (f.v.toNat : Int)]) ∧ NetSt W w' J g m es fs.tail (cnt + 1) F := by
    have hf := HFI.out
    have hn := HN1.out
    cases fs with
    | nil => rw [← hf]; exact net_next_none hn
    | cons f0 rest =>
      have : f0 = f := hf
      subst this
      exact net_next f0 rest (by simp at hfs; omega) hn
  refine hnx.mono ?_
  rintro e w2 ⟨rfl, ψ, h2⟩
  clear hnx HN1 HFI x φ d1 d2 f2
  obtain ⟨fb, hfb⟩ : ∃ fb, fb = w2.heap.size := ⟨_, rfl⟩
  have h3 := h2.alloc (.cells #[.int .i64 f.kind, .int .i64 f.at_, .int .u8 (f.v.toNat : Int)] 102)
  rw [← hfb] at h3
  have hsl := net_slice p hp a n h3
  unfold Part.val at hsl
  have HSL := Lib.hid hsl; have HFB := Lib.hid hfb
  clear hsl h2 h3
  go_wp2_with fail
  rw [← hfb]
  clear hfb
  refine HSL.out.mono ?_
  rintro e w3 ⟨v, rfl, A, c, Lr, rfl, hrow, h4⟩
  clear HSL
  obtain ⟨e0, e1, e2⟩ : w3.cell? ⟨fb, 0, none⟩ = some (.int .i64 f.kind) ∧ w3.cell? ⟨fb, 1, none⟩ = some (.int .i64 f.at_) ∧ w3.cell? ⟨fb, 2, none⟩ = some (.int .u8 (f.v.toNat : Int)) := by
    have hm : (fb, Obj.cells #[.int .i64 f.kind, .int .i64 f.at_, .int .u8 (f.v.toNat : Int)] 102 (0, 0)) ∈ Lr ++ ((fb, Obj.cells #[.int .i64 f.kind, .int .i64 f.at_, .int .u8 (f.v.toNat : Int)] 102 (0, 0)) :: (ψ.L' g m es (cnt + 1) ++ F)) := by simp
    exact ⟨h4.cell hm 0, h4.cell hm 1, h4.cell hm 2⟩
  have hmid : ∀ (w' : World) (L2 : List (Nat × Obj)), St W w' J (L2 ++ ((fb, Obj.cells #[.int .i64 f.kind, .int .i64 f.at_, .int .u8 (f.v.toNat : Int)] 102 (0, 0)) :: (ψ.L' g m es (cnt + 1) ++ F))) → St W w' J (ψ.L' g m es (cnt + 1) ++ (L2 ++ F)) := fun w' L2 hh => St.swap (St.mid (A := L2) (B := [_]) hh)
  have HM := Lib.hid hmid; have H4 := Lib.hid h4; have HR := Lib.hid hrow
  clear hmid h4 hrow
  have hE := HBE.out
  unfold fetched at hE
  generalize hpc : piece p.bs a n = pc at *
  by_cases k1 : f.kind = 1
  · rw [if_pos k1] at hE
    injection hE with hB hE
    subst hB; subst hE
    rw [k1] at e0
    go_wp2_with fail
    go_ret2
    exact ⟨_, rfl, FreshN.nil ⟨ψ, St.weaken (HM.out w3 Lr H4.out |> St.swap)⟩⟩
  rw [if_neg k1] at hE
  by_cases k2 : f.kind = 2
  · rw [if_pos k2] at hE
    injection hE with hB hE
    subst hB; subst hE
    rw [k2] at e0
    by_cases hpn : pc = []
    · subst hpn
      go_wp2_with fail
      go_ret2
      exact ⟨_, rfl, A, c, Lr, rfl, HR.out, ψ, HM.out w3 Lr H4.out⟩
    · have hpos : 0 < pc.length := by cases pc with | nil => exact absurd rfl hpn | cons _ _ => simp
      have hpos' : (0 : Int) < pc.length := by omega
      obtain ⟨a', ha'⟩ := Int.eq_ofNat_of_zero_le (Int.le_max_right f.at_ 0)
      have hmx : max f.at_ 0 = (a' : Int) := ha'
      obtain ⟨i, hi⟩ : ∃ i, a' % pc.length = i := ⟨_, rfl⟩
      have hil : i < pc.length := by rw [← hi]; exact Nat.mod_lt _ hpos
      have hil' : (i : Int) < pc.length := by omega
      obtain ⟨gb, off, cur, rfl, hLr, hcur, hrow2⟩ := row_set (u := bval (pc[i] ^^^ f.v)) hil HR.out
      have hbc : w3.cell? ⟨gb, off + i, none⟩ = some (.int .u8 ((pc[i]'hil).toNat : Int)) := by
        rw [H4.out.cell (g := gb) (cs := cur) (t := 5) (fr := (0, 0)) (by simp [hLr]), hcur, List.getElem?_map, List.getElem?_eq_getElem hil]
        rfl
      have hbf : w3.frozen? ⟨gb, off + i, none⟩ = false := H4.out.frozen (g := gb) (cs := cur) (t := 5) (by simp [hLr]) _
      have hxo := u8_xorI (pc[i]'hil) f.v
      have hst4 := H4.out
      rw [hLr] at hst4
      have hset := St.set (A := []) hst4 (off + i) (bval (pc[i] ^^^ f.v))
      have hfin := HM.out _ [(gb, .cells (cur.setIfInBounds (off + i) (bval (pc[i] ^^^ f.v))) 5 (0, 0))] hset
      have htl : (turned pc f).length = pc.length := by rw [turned, if_neg hpn, List.length_modify]
      have htm : (turned pc f).map bval = (pc.map bval).set i (bval (pc[i] ^^^ f.v)) := by
        rw [turned, if_neg hpn, hmx, ← Int.natCast_emod, hi, Int.toNat_natCast]
        apply List.ext_getElem?
        intro j
        simp only [List.getElem?_map, List.getElem?_modify, List.getElem?_set, List.length_map]
        by_cases hij : i = j
        · subst hij
          simp [hil]
        · simp [hij]
      have hfn : FreshN W (w3.setCell ⟨gb, off + i, none⟩ (bval (pc[i] ^^^ f.v))) J g m es fs.tail (cnt + 1) F (turned pc f) (.slice (some ⟨gb, off, none⟩) pc.length c) :=
        ⟨_, c, _, by rw [htl], by rw [htl, htm]; exact hrow2, ψ, hfin⟩
      have hv8 : bval (pc[i]'hil ^^^ f.v) = .int .u8 (((pc[i]'hil).toNat ^^^ f.v.toNat : Nat) : Int) := by rw [bval, UInt8.toNat_xor]
      rw [hv8] at hfn
      have HFN := Lib.hid hfn
      clear hv8 hfn hfin hset hst4 htm htl hrow2 hcur ha' HR H4 HM hLr
      generalize hbx : pc[i]'hil = bx at *
      clear hbx
      go_wp2_with fail
      refine wp_region_quiet_tail 13 (by kernel_rfl) (by kernel_rfl) ?_
      simp only [List.take_succ_cons, List.take_zero, List.drop_succ_cons, List.drop_zero]
      repeat (go_big_quiet_step (fail))
      refine wpQuiet_nil ?_
      rintro _ ⟨nq, rfl⟩
      have hbc' : (w3.drewN nq).cell? ⟨gb, off + i, none⟩ = some (.int .u8 (bx.toNat : Int)) := hbc
      have hbf' : (w3.drewN nq).frozen? ⟨gb, off + i, none⟩ = false := hbf
      go_wp2_with fail
      go_ret2
      exact ⟨_, rfl, HFN.out.drew nq⟩
  rw [if_neg k2] at hE
  by_cases k3 : f.kind = 3
  · rw [if_pos k3] at hE
    injection hE with hB hE
    subst hB; subst hE
    rw [k3] at e0
    have hcap : pc.length ≤ c := by
      obtain ⟨_, ⟨_, h0, _⟩ | ⟨_, _, _, _, hv3, _, hnc, _⟩⟩ := HR.out
      · omega
      · injection hv3 with _ _ h3; omega
    obtain ⟨k, hk⟩ := Int.eq_ofNat_of_zero_le (Int.le_max_left 0 (min f.at_ (pc.length : Int)))
    have hk1 : max 0 (min f.at_ (pc.length : Int)) = (k : Int) := hk
    have hkl : k ≤ pc.length := by omega
    have hkn : (max 0 (min f.at_ (pc.length : Int))).toNat = k := by omega
    have e5 := run_slice_to (P := Tryd.prog) (t := 27) Tryd.underlying27 (fun w => by simp [Tryd.sizeOf5 w]) A pc.length c k (by omega)
    have hfn : FreshN W w3 J g m es fs.tail (cnt + 1) F (pc.take k) (.slice A k c) := by
      have hr2 := row_take hkl HR.out
      rw [← List.map_take] at hr2
      have hl2 : (pc.take k).length = k := by rw [List.length_take]; omega
      exact ⟨A, c, Lr, by rw [hl2], by rw [hl2]; exact hr2, ψ, HM.out w3 Lr H4.out⟩
    have HKN := Lib.hid hkn
    have HFN := Lib.hid hfn
    clear hfn hk hkn HR H4 HM
    go_wp2_with fail
    go_ret2
    exact ⟨_, rfl, by rw [HKN.out]; exact HFN.out⟩
  rw [if_neg k3] at hE
  by_cases k4 : f.kind = 4
  · rw [if_pos k4] at hE
    injection hE with hB hE
    subst hB; subst hE
    rw [k4] at e0
    have hsl2 := net_slice p hp f.at_ n H4.out
    unfold Part.val at hsl2
    have HSL2 := Lib.hid hsl2
    clear hsl2
    go_wp2_with fail
    refine HSL2.out.mono ?_
    rintro e w4 ⟨v, rfl, A2, c2, Lr2, rfl, hrow2, h5⟩
    have h6 := HM.out w4 Lr2 (St.mid (A := Lr2) (B := Lr) h5)
    have H6 := Lib.hid h6; have HR2 := Lib.hid hrow2
    clear h6 h5 hrow2 HSL2 HR H4 HM
    go_wp2_with fail
    go_ret2
    exact ⟨_, rfl, A2, c2, Lr2, rfl, HR2.out, ψ, H6.out⟩
  rw [if_neg k4] at hE
  injection hE with hB hE
  subst hB; subst hE
  go_wp2_with fail
  go_ret2
  exact ⟨_, rfl, A, c, Lr, rfl, HR.out, ψ, HM.out w3 Lr H4.out⟩
end
end

section
set_option linter.unusedVariables false
set_option linter.unusedSimpArgs false
open Go.RowKit
section
variable {W w : World} {J : Nat → Option Obj} {g m : Nat} {es : List (ByteArray × Part)} {fs : List Fault} {cnt : Nat} {F : List (Nat × Obj)}

set_option maxRecDepth 100000 in
set_option maxHeartbeats 4000000 in
theorem net_fetch_none (t : TB W J) (s : ByteArray) (hs : s.size ≤ 35184372088830) (a n : Int) (hlp : lookP es ⟨(foldOf s).toArray⟩ = none) (h : NetSt W w J g m es fs cnt F) :
    Calls Tryd.prog 65 #[.pointer (some ⟨g, 0, none⟩), .string s, .int .i64 a, .int .i64 n] w fun e w' => e = .returned (.tuple #[.slice none 0 0, .int .i64 182]) ∧ NetSt W w' J g m es fs cnt F := by
  obtain ⟨φ, h⟩ := h
  have c0 : ∀ x : SW W J (φ.L' g m es cnt ++ F), x.w.cell? ⟨g, 0, none⟩ = some (.map (some m)) := fun x => (net_cells φ x.ok).1
  have hlk : ∀ x : SW W J (φ.L' g m es cnt ++ F), (Instr.lookup 99 (.map (some m)) (.string ⟨(foldOf s).toArray⟩) true).run Tryd.prog x.w = .ok (.tuple #[.slice none 0 0, .bool false]) x.w := fun x => by
    rw [run_lookup_map Tryd.underlying99 Tryd.underlying9 (net_cells φ x.ok).2.2.2.1 (Tryd.zeroValue27 x.w), look_ev, hlp]
    rfl
  have hF := fun (x : SW W J (φ.L' g m es cnt ++ F)) => fold_any t s hs x.ok
  generalize foldOf s = fo at *
  have HF := Lib.hid hF; have H := Lib.hid h
  have hne : Nonempty (SW W J (φ.L' g m es cnt ++ F)) := ⟨⟨_, h⟩⟩
  clear hF h hlp
  go_enter Tryd.func65, Tryd.ntmps65
  go_wp2_with fail
  refine wp_region_sw _ H.out (by kernel_rfl) (by kernel_rfl) ?_
  repeat (go_big_quiet_step ((go_at_call 31; (with_reducible refine (HF.out _).mono ?_); exact fun e w'' ⟨h1, h2⟩ => ⟨h1, ⟨_, h2⟩, rfl⟩)))
  refine wpQuiet_nil ?_
  rintro _ ⟨x, rfl⟩
  have hfin := x.ok
  have HFIN := Lib.hid hfin
  clear hfin c0 hlk HF H hne
  go_wp2_with fail
  go_ret2
  exact ⟨rfl, φ, HFIN.out⟩

theorem run_slice3 {P : Program} {t e : TypeId} {sz : Nat} (ht : P.underlying t = some (.slice e)) (hs : ∀ w, (sizeOf e).run P w = .ok sz w) (A : Option Addr) (n c : Nat) (hc : n ≤ c) (w : World) :
    (Instr.slice t (.slice A n c) none (some (.int .i64 n)) (some (.int .i64 n))).run P w = .ok (.slice A n n) w := by
  have h1 : (n : Int) ≤ c := by omega
  simp [Instr.slice, run_underlying ht, Instr.sliceBounds, Instr.sliceBound, asIntOf, h1, hs, addr_add0]
  intro h2
  omega
theorem row_clip {E : TypeId} {sz : Nat} {A : Option Addr} {n c : Nat} {xs : List Value} {L : List (Nat × Obj)} (h : Row E sz (.slice A n c) n xs L) : Row E sz (.slice A n n) n xs L ∧ n ≤ c := by
  obtain ⟨hl, ⟨hv, h0, hL⟩ | ⟨g, off, cap, cur, hv, rfl, hnc, hcm, hsz, hxs⟩⟩ := h
  · injection hv with h1 _ h2
    subst h1; subst h2; subst h0; subst hL
    exact ⟨⟨hl, .inl ⟨rfl, rfl, rfl⟩⟩, by omega⟩
  injection hv with h1 _ h2
  subst h1; subst h2
  refine ⟨⟨hl, .inr ⟨g, off, n, cur, rfl, rfl, Nat.le_refl _, by omega, ?_, hxs⟩⟩, hnc⟩
  have := Nat.mul_le_mul_right sz hnc
  omega

set_option maxRecDepth 100000 in
set_option maxHeartbeats 2000000 in
theorem clip_faults {A : Option Addr} {n c : Nat} (hc : n ≤ c) (w : World) : Calls Tryd.prog 50 #[.slice A n c] w fun e w' => e = .returned (.slice A n n) ∧ w = w' := by
  have e1 := run_slice3 (P := Tryd.prog) (sz := 3) Tryd.underlying64 (fun w => by simp [Tryd.sizeOf102 w]) A n c hc
  go_enter Tryd.func50, Tryd.ntmps50
  go_wp2_with fail
  go_ret
  exact ⟨rfl, rfl⟩

set_option maxRecDepth 100000 in
set_option maxHeartbeats 4000000 in
theorem net_more (A : Option Addr) (c : Nat) (l : List Fault) (hp : FIn A l W J) (hlen : fs.length + l.length ≤ 1000000) (h : NetSt W w J g m es fs cnt F) :
    Calls Tryd.prog 27 #[.pointer (some ⟨g, 0, none⟩), .slice A l.length c] w fun e w' => e = .returned (.tuple #[]) ∧ NetSt W w' J g m es (fs ++ l) cnt F := by
  obtain ⟨φ, h⟩ := h
  obtain ⟨_, c1, _, _, f1, _⟩ := net_cells φ h
  obtain ⟨hr, hc⟩ := row_clip φ.row
  have hsrc := hp _ _ h
  have hone := fall_one l
  have h2 : St W w J (φ.L ++ ([(g, .cells #[.map (some m), .slice φ.A fs.length φ.c, .int .i64 cnt] 104 (0, 0)), (m, mapObj (es.map ev))] ++ F)) := St.swap (A := [_, _]) h
  go_enter Tryd.func27, Tryd.ntmps27
  go_wp2_with fail
  refine (clip_faults hc w).mono ?_
  rintro e w1 ⟨rfl, rfl⟩
  go_wp2_with (at_builtin; refine Hid.out ?_)
  refine Lib.hid ?_
  refine wpList_append_row0 (F := [(g, .cells #[.map (some m), .slice φ.A fs.length φ.c, .int .i64 cnt] 104 (0, 0)), (m, mapObj (es.map ev))] ++ F) rfl (.tmp 9) (.tmp 10) 64 rfl 102 (.agg #[.int .i64 0, .int .i64 0, .int .u8 0]) 3 24 Tryd.underlying64 (by kernel_rfl) rfl (by omega) rfl hr (by exact h2) rfl (by exact hsrc) hone (fs.length + l.length) rfl (fall fs ++ fall l) rfl (by unfold maxLen; omega) (by omega) ?_
  intro A1 c2 w2 L1 hr1 h3 ho
  have h4 := St.swap (B := [(g, .cells #[.map (some m), .slice φ.A fs.length φ.c, .int .i64 cnt] 104 (0, 0)), (m, mapObj (es.map ev))]) h3
  have q2 : w2.cell? ⟨g, 1, none⟩ = some (.slice φ.A fs.length φ.c) := h4.cell (g := g) (cs := #[.map (some m), .slice φ.A fs.length φ.c, .int .i64 cnt]) (t := 104) (fr := (0, 0)) (by simp) 1
  have f2 : w2.frozen? ⟨g, 1, none⟩ = false := h4.frozen (g := g) (cs := #[.map (some m), .slice φ.A fs.length φ.c, .int .i64 cnt]) (t := 104) (by simp) 1
  have h5 := St.set (A := []) h4 1 (.slice A1 (fs.length + l.length) c2)
  have hfin : NetSt W (w2.setCell ⟨g, 1, none⟩ (.slice A1 (fs.length + l.length) c2)) J g m es (fs ++ l) cnt F := by
    have hle : fs.length + l.length = (fs ++ l).length := by simp
    have hfa : fall fs ++ fall l = fall (fs ++ l) := by simp [fall]
    rw [hle] at hr1 h5 ⊢
    rw [hfa] at hr1
    exact ⟨⟨A1, c2, L1, hr1⟩, h5⟩
  have HFIN := Lib.hid hfin
  clear hfin h5 h4 h3 hr1 ho h2 hsrc hone hr h
  go_wp2_with fail
  go_end0
  exact ⟨rfl, HFIN.out⟩
end
end
end Go.Proofs.YtnhlpiomfljlcaaDoor
