/- The document's net: Find, right. -/
import Derived.Test.YtjmdhljhlcbneaaDoorRname
import Derived.Test.YtjmdhljhlcbneaaDoorNetE
namespace Go.Proofs.YtjmdhljhlcbneaaDoor
set_option linter.unusedVariables false
set_option linter.unusedSimpArgs false
open Go.RowKit

def findFrom (nm : ByteArray) : List (ByteArray × Part) → Nat → Int
  | [], _ => -1
  | o :: os, k => if foldOf o.1 = foldOf nm then (k : Int) else findFrom nm os (k + 1)
/-- Which offer has a name. -/
def findIx (os : List (ByteArray × Part)) (nm : ByteArray) : Int := findFrom nm os 0
theorem findFrom_drop (nm : ByteArray) (os : List (ByteArray × Part)) (k : Nat) (o : ByteArray × Part) (h : os[k]? = some o) : findFrom nm (os.drop k) k = if foldOf o.1 = foldOf nm then (k : Int) else findFrom nm (os.drop (k + 1)) (k + 1) := by
  have hl := (List.getElem?_eq_some_iff.1 h).1
  have he := (List.getElem?_eq_some_iff.1 h).2
  rw [List.drop_eq_getElem_cons hl, he, findFrom]
/-- Offers that a block r leads to, whatever else happens. -/
def OffsAt (r : Nat) (A : Option Addr) (c : Nat) (os : List (ByteArray × Part)) (W : World) (I : Nat → Option Obj) (L : List (Nat × Obj)) : Prop :=
  ∀ w', St W w' I L → w'.cell? ⟨r, 0, none⟩ = some (.slice A os.length c) ∧ ∀ k o, os[k]? = some o → ∃ b off, A = some (⟨b, off, none⟩ : Addr) ∧ w'.cell? ⟨b, off + k * 2, none⟩ = some (.string o.1) ∧ w'.cell? ⟨b, off + k * 2 + 1, none⟩ = some (.slice o.2.A o.2.bs.length o.2.c)

set_option maxRecDepth 100000 in
set_option maxHeartbeats 4000000 in
theorem rfind {W w : World} {I : Nat → Option Obj} {L : List (Nat × Obj)} (t : TB W I) (r : Nat) (A : Option Addr) (c : Nat) (os : List (ByteArray × Part)) (hn : ∀ o ∈ os, o.1.size ≤ 1000000) (hl : os.length ≤ 1000000) (ha : OffsAt r A c os W I L) (nm : ByteArray) (hm : nm.size ≤ 1000000) (h : St W w I L) :
    Calls Tryd.prog 18 #[.pointer (some ⟨r, 0, none⟩), .string nm] w fun e w' => e = .returned (.int .i64 (findIx os nm)) ∧ St W w' I L := by
  obtain ⟨R, hR⟩ : ∃ R, findIx os nm = R := ⟨_, rfl⟩
  rw [hR]
  have c0 := (ha w h).1
  have H := Lib.hid h; have HA := Lib.hid ha; have HR := Lib.hid hR; have HN := Lib.hid hn
  have cN := fun (v : World) (hv : St W v I L) => rfold_any t nm (by omega) hv
  have CN := Lib.hid cN; have T := Lib.hid t
  clear h ha hR hn cN t
  go_enter Tryd.func18, Tryd.ntmps18
  go_wp2_with fail
  go_loopw [12] (fun i wr => ∃ k : Nat, i = .int .i64 k ∧ k ≤ os.length ∧ findFrom nm (os.drop k) k = R ∧ St W wr I L) (fun i _ => os.length - (intOf i).toNat)
  case atStart => exact ⟨0, rfl, by omega, HR.out, H.out⟩
  case round =>
    obtain ⟨k, rfl, hk, hrest, hst⟩ := hrel
    clear H c0
    by_cases hkl : k < os.length
    · obtain ⟨o, ho⟩ : ∃ o, os[k]? = some o := ⟨_, List.getElem?_eq_getElem hkl⟩
      obtain ⟨b, off, rfl, q0, q1⟩ := (HA.out wr hst).2 k o ho
      rw [findFrom_drop nm os k o ho] at hrest
      have hos := HN.out o (List.mem_of_getElem? ho)
      obtain ⟨onm, p⟩ := o
      simp only at q0 q1 hrest hos
      have cO := fun (v : World) (hv : St W v I L) => rfold_any T.out onm (by omega) hv
      have CO := Lib.hid cO; have HST := Lib.hid hst; have HRE := Lib.hid hrest
      generalize foldOf onm = fo at *
      generalize foldOf nm = fn at *
      clear cO hst hrest ho
      go_wp2_with fail
      refine (CO.out _ (St.alloc_ HST.out _)).mono ?_
      rintro e w1 ⟨rfl, h1⟩
      have H1 := Lib.hid h1
      clear h1 q0 q1 CO HST
      go_wp2_with fail
      refine (CN.out _ H1.out).mono ?_
      rintro e w2 ⟨rfl, h2⟩
      have H2 := Lib.hid h2
      clear h2 H1
      by_cases hfe : fo = fn
      · have hb : (fo == fn) = true := beq_iff_eq.2 hfe
        have hre := HRE.out
        rw [if_pos hfe] at hre
        subst hre
        clear hfe HRE
        go_wp2_with fail
        go_ret
        exact ⟨rfl, H2.out⟩
      · have hb : (fo == fn) = false := beq_eq_false_iff_ne.2 hfe
        have hre := HRE.out
        rw [if_neg hfe] at hre
        have HRE2 := Lib.hid hre
        clear HRE hre
        go_wp2_with fail
        refine ⟨⟨k + 1, by go_num, by omega, HRE2.out, H2.out⟩, ?_⟩
        simp [intOf]; omega
    · obtain rfl : k = os.length := by omega
      rw [List.drop_length, findFrom] at hrest
      subst hrest
      have HST := Lib.hid hst
      clear hst
      go_wp2_with fail
      go_ret
      exact ⟨rfl, HST.out⟩

theorem piece_step (bs : List UInt8) (a m : Nat) (k : Nat) (hk : a + k < bs.length) (hm : k < m) : (bs.drop a).take (k + 1) = (bs.drop a).take k ++ [bs[a + k]'hk] := by
  rw [List.take_add_one, List.getElem?_drop, List.getElem?_eq_getElem hk]
  rfl

set_option maxRecDepth 100000 in
set_option maxHeartbeats 4000000 in
theorem rright {W w : World} {I : Nat → Option Obj} {F : List (Nat × Obj)} (p : Part) (hp : POk p W I) (a m : Int) (h : St W w I F) :
    Calls Tryd.prog 27 #[p.val, .int .i64 a, .int .i64 m] w fun e w' => ∃ v, e = .returned v ∧ FreshB W w' I F (piece p.bs a m) v := by
  unfold Part.val
  have h1 := h.alloc (.cells #[] 5)
  have hr0 := Row.empty 5 1 w.heap.size
  have hl9 := hp.len
  have H1 := Lib.hid h1; have HR0 := Lib.hid hr0; have HP := Lib.hid hp
  clear h h1 hr0 hp
  go_enter Tryd.func27, Tryd.ntmps27
  by_cases ha : a < 0
  · have he : piece p.bs a m = [] := by rw [piece, if_pos (.inl ha)]
    have HE := Lib.hid he
    clear he
    go_wp2_with fail
    go_ret
    exact ⟨_, rfl, by rw [HE.out]; exact ⟨_, 0, _, rfl, HR0.out, H1.out⟩⟩
  obtain ⟨an, rfl⟩ := Int.eq_ofNat_of_zero_le (by omega : 0 ≤ a)
  go_wp2_with fail
  go_loopw [7, 8] (fun v i wr => ∃ (k : Nat) (A : Option Addr) (c : Nat) (L' : List (Nat × Obj)), v = .slice A k c ∧ i = .int .i64 ((an + k : Nat) : Int) ∧ (k = 0 ∨ (an + k ≤ p.bs.length ∧ (k : Int) ≤ m)) ∧ Row 5 1 (.slice A k c) k (((p.bs.drop an).take k).map bval) L' ∧ St W wr I (L' ++ F)) (fun _ i _ => p.bs.length - (intOf i).toNat)
  case atStart => exact ⟨0, _, 0, _, rfl, rfl, .inl rfl, HR0.out, H1.out⟩
  case round =>
    obtain ⟨k, A, c, L', rfl, rfl, hk, hrow, hst⟩ := hrel
    clear H1 HR0
    by_cases hlt : an + k < p.bs.length
    · have hlt' : ((an + k : Nat) : Int) < p.bs.length := by omega
      by_cases hkm : (k : Int) < m
      · obtain ⟨mn, rfl⟩ := Int.eq_ofNat_of_zero_le (by omega : 0 ≤ m)
        have hstep := piece_step p.bs an mn k hlt (by omega)
        have hsrc := HP.out.in_ wr _ hst
        obtain ⟨ad, hA, hcell⟩ := hsrc.2 (an + k) (bval (p.bs[an + k]'hlt)) (by rw [List.getElem?_map, List.getElem?_eq_getElem hlt]; rfl)
        have hone := Src.one wr (bval (p.bs[an + k]'hlt)) 5
        have hap := St.alloc_ hst (.cells #[bval (p.bs[an + k]'hlt)] 5)
        obtain ⟨bx, hbx⟩ : ∃ bx, p.bs[an + k]'hlt = bx := ⟨_, rfl⟩
        rw [hbx] at hstep hcell hone hap
        generalize p.A = pA at *
        subst hA
        unfold bval at hcell
        have HS := Lib.hid hstep; have HROW := Lib.hid hrow; have HONE := Lib.hid hone; have HAP := Lib.hid hap
        clear hstep hrow hst hsrc hone hap hbx hk
        have hm' : (k : Int) + 1 ≤ mn := by omega
        go_wp2_with (at_builtin; refine Hid.out ?_)
        refine Lib.hid ?_
        refine wpList_append_row0 (F := F) (L := L') rfl (.tmp 26) (.tmp 31) 22 rfl 5 (.int .u8 0) 1 1 Tryd.underlying22 (by kernel_rfl) rfl (by omega) rfl HROW.out (by exact HAP.out) rfl (by exact HONE.out) (by intro u hu; simp at hu; subst hu; rfl) (k + 1) rfl (((p.bs.drop an).take (k + 1)).map bval) (by rw [HS.out, List.map_append]; rfl) (by unfold maxLen; omega) (by omega) ?_
        intro A1 c1 w2 L1 hr1 h3 ho
        have H3 := Lib.hid h3; have HR1 := Lib.hid hr1
        clear hr1 h3 ho HROW HAP HONE HS hcell
        go_wp2_with fail
        refine ⟨⟨k + 1, A1, c1, L1, rfl, by go_num, .inr ⟨by omega, by omega⟩, HR1.out, H3.out⟩, ?_⟩
        simp [intOf]; omega
      · have hfin : piece p.bs an m = (p.bs.drop an).take k := by
          rcases hk with rfl | ⟨h1, h2⟩
          · rw [List.take_zero, piece, if_pos (.inr (.inr (by omega)))]
          · obtain rfl : m = (k : Int) := by omega
            by_cases hk0 : k = 0
            · subst hk0; rw [List.take_zero, piece, if_pos (.inr (.inr (by omega)))]
            · rw [piece, if_neg (by omega), Int.toNat_natCast, Int.toNat_natCast]
        have hkl : ((p.bs.drop an).take k).length = k := by rw [List.length_take, List.length_drop]; omega
        have HF := Lib.hid hfin; have HROW := Lib.hid hrow; have HST := Lib.hid hst; have HKL := Lib.hid hkl
        clear hfin hrow hst hkl
        go_wp2_with fail
        go_ret
        exact ⟨_, rfl, by rw [HF.out]; exact ⟨A, c, L', by rw [HKL.out]; rfl, by rw [HKL.out]; exact HROW.out, HST.out⟩⟩
    · have hlt' : ¬ ((an + k : Nat) : Int) < p.bs.length := by omega
      have hfin : piece p.bs an m = (p.bs.drop an).take k := by
        by_cases hc : (an : Int) < 0 ∨ (p.bs.length : Int) ≤ an ∨ m < 1
        · rw [piece, if_pos hc]
          have : k = 0 ∨ p.bs.length ≤ an := by omega
          rcases this with rfl | h
          · simp
          · rw [List.drop_eq_nil_of_le h]; simp
        · rw [piece, if_neg hc, Int.toNat_natCast]
          rcases hk with rfl | ⟨h1, h2⟩
          · omega
          · rw [List.take_of_length_le (by rw [List.length_drop]; omega), List.take_of_length_le (by rw [List.length_drop]; omega)]
      have hkl : ((p.bs.drop an).take k).length = k := by
        rcases hk with rfl | ⟨h1, h2⟩
        · simp
        · rw [List.length_take, List.length_drop]; omega
      have HF := Lib.hid hfin; have HROW := Lib.hid hrow; have HST := Lib.hid hst; have HKL := Lib.hid hkl
      clear hfin hrow hst hkl
      go_wp2_with fail
      go_ret
      exact ⟨_, rfl, by rw [HF.out]; exact ⟨A, c, L', by rw [HKL.out]; rfl, by rw [HKL.out]; exact HROW.out, HST.out⟩⟩
end Go.Proofs.YtjmdhljhlcbneaaDoor
