/- The document's Name: walk. The document's Right for calls: walk. -/
import Derived.Test.YtnjnooeldkideaaDoorMGlyphO
import Derived.Test.YtnjnooeldkideaaDoorCallA
namespace Go.Proofs.YtnjnooeldkideaaDoor
section
set_option linter.unusedVariables false
set_option linter.unusedSimpArgs false
open Go.RowKit Go.Lib
theorem rall_get (s : ByteArray) : ∀ (l : List Nat) (k p j : Nat), l[k]? = some p → j < 3 → (rall s l)[k * 3 + j]? = (rcell s p)[j]?
 | [], k, p, j, h, _ => by simp at h
 | q :: l, 0, p, j, h, hj => by
  simp at h
  subst h
  simp only [rall, List.flatMap_cons, Nat.zero_mul, Nat.zero_add]
  rw [List.getElem?_append_left (by simp [rcell]; omega)]
 | q :: l, k + 1, p, j, h, hj => by
  simp only [rall, List.flatMap_cons]
  rw [List.getElem?_append_right (by simp [rcell]; omega), show (k + 1) * 3 + j - (rcell s q).length = k * 3 + j by simp [rcell]; omega]
  exact rall_get s l k p j (by simpa using h) hj
def RunesIn (A : Option Addr) (s : ByteArray) (l : List Nat) (J : Nat → Option Obj) : Prop := ∀ k p, l[k]? = some p → ∃ b off, A = some (⟨b, off, none⟩ : Addr) ∧ roCell J ⟨b, off + k * 3, none⟩ = some (.int .i64 (refNumber s p : Nat)) ∧ roCell J ⟨b, off + k * 3 + 1, none⟩ = some (.string (refBytes s p)) ∧ roCell J ⟨b, off + k * 3 + 2, none⟩ = some (.bool (brokenAt s p))
theorem runes_freeze {W w : World} {I : Nat → Option Obj} {F Lr : List (Nat × Obj)} {A : Option Addr} {c : Nat} {s : ByteArray} {l : List Nat} (hr : Row 106 3 (.slice A l.length c) l.length (rall s l) Lr) (h : St W w I (Lr ++ F)) : ∃ J, Le I J ∧ St W w J F ∧ RunesIn A s l J := by
 obtain ⟨_, ⟨hv, h0, hL⟩ | ⟨gb, off, cap, cur, hv, rfl, hnc, hcm, hsz, hxs⟩⟩ := hr
 ·subst hL
  have hb := List.eq_nil_of_length_eq_zero h0
  subst hb
  exact ⟨I, Le.refl _, h, fun k p hk => by simp at hk⟩
 ·injection hv with h1 _ h2
  subst h1; subst h2
  obtain ⟨J, hle, hg, h'⟩ := St.freeze h
  refine ⟨J, hle, h', fun k p hk => ⟨gb, off, rfl, ?_⟩⟩
  have hkl := (List.getElem?_eq_some_iff.1 hk).1
  have key : ∀ j, j < 3 → roCell J ⟨gb, off + (k * 3 + j), none⟩ = (rcell s p)[j]? := fun j hj => by
   have h1 := rall_get s l k p j hk hj
   rw [← hxs, List.getElem?_take_of_lt (by omega), List.getElem?_drop] at h1
   unfold roCell
   simp only [hg]
   simpa using h1
  exact ⟨key 0 (by omega), key 1 (by omega), key 2 (by omega)⟩
theorem dec_ascii (n a b c d : Nat) (h : a < 128) : decodeN n a b c d = (a, 1) := by unfold decodeN; rw [if_pos h]
theorem dec_big (n a b c d : Nat) (h : ¬ a < 128) : 128 ≤ (decodeN n a b c d).1 := by
 unfold decodeN
 repeat' split
 all_goals simp only []
 all_goals omega
theorem byte_text (s : ByteArray) (p : Nat) (hp : p < s.size) (hb : brokenAt s p = false) (x : UInt8) (hx : x.toNat < 128) : (refBytes s p).toList = [x] ↔ (Utf8.decode s p).1 = x.toNat := by
 rw [ByteArray.toList_eq, refBytes, ByteArray.data_extract, Array.toList_extract]
 have hd := decode_at s p
 have h0 := get_lt s p hp
 have hl : s.data.toList.length = s.size := rfl
 have hg : s.data.toList[p]'(by rw [hl]; exact hp) = s.get! p := by rw [h0]; rfl
 have hwd := Lib.width_pos s p
 have hwl := width_le s p hp
 by_cases ha : (s.get! p).toNat < 128
 ·rw [hd, dec_ascii _ _ _ _ _ ha]
  simp only [List.extract, Nat.add_sub_cancel_left]
  rw [List.drop_eq_getElem_cons (by rw [hl]; exact hp), hg, List.take_succ_cons, List.take_zero]
  constructor
  ·intro h; simp at h; rw [h]
  ·intro h; have := UInt8.toNat_inj.1 h; rw [this]
 ·have h1 := dec_big (s.size - p) (s.get! p).toNat (s.get! (p + 1)).toNat (s.get! (p + 2)).toNat (s.get! (p + 3)).toNat ha
  rw [← hd] at h1
  constructor
  ·intro h
   simp only [List.extract] at h
   rw [List.drop_eq_getElem_cons (by rw [hl]; exact hp), hg] at h
   obtain ⟨k, hk⟩ : ∃ k, p + (Utf8.decode s p).2 - p = k + 1 := ⟨(Utf8.decode s p).2 - 1, by omega⟩
   rw [hk, List.take_succ_cons] at h
   injection h with h2 h3
   rw [h2] at ha
   omega
  ·intro h; omega
set_option maxRecDepth 100000 in
set_option maxHeartbeats 4000000 in
theorem rname_any {W w : World} {I : Nat → Option Obj} {L : List (Nat × Obj)} (t : TB W I) (s : ByteArray) (hm : s.size ≤ 1000000000) (h : St W w I L) :
  Calls Tryd.prog 29 #[.string s] w fun e w' => e = .returned (.int .i64 (if nameOk s then 0 else 41)) ∧ St W w' I L := by
 have cR := runes_any s hm h
 have hzl := runesOf_lt s
 have hln := runesOf_len s
 obtain ⟨R, hR⟩ : ∃ R : Int, R = (if nameOk s then 0 else 41) := ⟨_, rfl⟩
 rw [← hR]
 have hfd : nameOk s = (decide (1 ≤ (runesOf s).length) && decide ((runesOf s).length ≤ 24) && allOk s (runesOf s) 0) := rfl
 rw [hfd] at hR
 generalize runesOf s = l at *
 have HR := Lib.hid hR; have CR := Lib.hid cR
 clear hR cR h hfd
 go_enter Tryd.func29, Tryd.ntmps29
 go_wp2_with fail
 refine CR.out.mono ?_
 rintro e w1 ⟨A, c, L', rfl, hrow, h1⟩
 obtain ⟨J, hle, h2, hrin⟩ := runes_freeze hrow h1
 have H2 := Lib.hid h2; have HRIN := Lib.hid hrin; have HLE := Lib.hid hle
 have T := Lib.hid (t.more hle)
 clear hrow h1 h2 CR t hrin hle
 by_cases hl0 : l.length = 0
 ·have hl0' : ((l.length : Int) == 0) = true := by rw [hl0]; rfl
  go_wp2_with fail
  go_ret
  exact ⟨by rw [HR.out]; simp [hl0], H2.out.less HLE.out⟩
 have hl0' : ((l.length : Int) == 0) = false := beq_eq_false_iff_ne.2 (by omega)
 by_cases hl24 : 24 < l.length
 ·have hl24' : (24 : Int) < l.length := by omega
  go_wp2_with fail
  go_ret
  exact ⟨by rw [HR.out]; simp [show ¬ l.length ≤ 24 by omega], H2.out.less HLE.out⟩
 have hl24' : ¬ (24 : Int) < l.length := by omega
 have hR2 : R = if allOk s l 0 then 0 else 41 := by rw [HR.out]; simp [show l.length ≤ 24 by omega, show 1 ≤ l.length by omega]
 have HR2 := Lib.hid hR2
 clear hR2 HR
 go_wp2_with fail
 go_loopw [20] (fun i wr => ∃ k : Nat, i = .int .i64 k ∧ allOk s (l.take k) 0 = true ∧ k ≤ l.length ∧ St W wr J L) (fun i _ => l.length - (intOf i).toNat)
 case atStart => exact ⟨0, rfl, rfl, by omega, H2.out⟩
 case round =>
  obtain ⟨k, rfl, hall, hk, hst⟩ := hrel
  clear H2
  by_cases hkl : k < l.length
  ·obtain ⟨p, hp⟩ : ∃ p, l[k]? = some p := ⟨_, List.getElem?_eq_getElem hkl⟩
   obtain ⟨b, off, rfl, r0, r1, r2⟩ := HRIN.out k p hp
   have hps := hzl p (List.mem_of_getElem? hp)
   have q0 := hst.ro r0
   have q1 := hst.ro r1
   have q2 := hst.ro r2
   have hnext : allOk s (l.take (k + 1)) 0 = placeOk s p (k == 0) := by
    rw [List.take_add_one, hp, allOk_append, hall]
    simp [allOk, Nat.min_eq_left (Nat.le_of_lt hkl)]
   have hbad : placeOk s p (k == 0) = false → allOk s l 0 = false := fun h => by
    have h1 : allOk s (l.take (k + 1)) 0 = false := by rw [hnext, h]
    rw [← List.take_append_drop (k + 1) l, allOk_append, h1, Bool.false_and]
   unfold placeOk at hnext hbad
   have hno : brokenAt s p = false → refNumber s p = (Utf8.decode s p).1 := fun h => by unfold refNumber; rw [h]; rfl
   have hrn : refNumber s p ≤ 1114111 := by
    unfold refNumber
    have := (s.get! p).toNat_lt
    have := Lib.rune_le s p
    split <;> omega
   have hbt := byte_text s p hps
   generalize refBytes s p = rb at *
   generalize refNumber s p = rn at *
   generalize (Utf8.decode s p).1 = dn at *
   have HN := Lib.hid hnext; have HST := Lib.hid hst; have HBAD := Lib.hid hbad
   cases hbr : brokenAt s p with
   | true =>
    rw [hbr] at q2
    have hX := HBAD.out (by rw [hbr]; rfl)
    have HX := Lib.hid hX
    clear hno hst hnext r0 r1 r2 hp hbr hzl hbt hX hbad hall
    go_wp2_with fail
    all_goals
     go_ret
     exact ⟨by rw [HR2.out, HX.out]; rfl, St.less HLE.out (St.alloc_ HST.out _)⟩
   | false =>
    rw [hbr] at q2 HN HBAD
    have he := hno hbr
    have h45 := hbt hbr 45 (by decide)
    have h95 := hbt hbr 95 (by decide)
    have h46 := hbt hbr 46 (by decide)
    subst he
    have hcL := fun (v : World) (hv : St W v J L) => Tryd.unicode_IsLetter_all (rn : Int) v (by omega) (by omega) (T.out.on hv).props (T.out.on hv).letter
    have hcD := fun (v : World) (hv : St W v J L) => Tryd.unicode_IsDigit_all (rn : Int) v (by omega) (by omega) (T.out.on hv).digit
    unfold partOk at HN HBAD
    generalize isLetterU (rn : Int) = bl at *
    generalize isDigitU (rn : Int) = bd at *
    have CL := Lib.hid hcL; have CD := Lib.hid hcD
    have H45 := Lib.hid h45; have H95 := Lib.hid h95; have H46 := Lib.hid h46
    clear hno hst hnext r0 r1 r2 hp hbr hzl hbt hbad hall hcL hcD h45 h95 h46
    go_wp2_with fail
    refine (CL.out _ (St.alloc_ HST.out _)).mono ?_
    rintro e w2 ⟨rfl, hb⟩
    have h3 := (HST.out.alloc (.cells #[.int .i64 rn, .string rb, .bool false] 106)).belowTo hb
    have f0 := h3.cell (g := wr.heap.size) (cs := #[.int .i64 rn, .string rb, .bool false]) (t := 106) (fr := (0, 0)) (by simp) 1
    have f1 := h3.cell (g := wr.heap.size) (cs := #[.int .i64 rn, .string rb, .bool false]) (t := 106) (fr := (0, 0)) (by simp) 2
    have H3 := Lib.hid h3
    clear h3 hb CL
    by_cases hk0 : k = 0
    ·subst hk0
     cases bl with
     | true =>
      have hN := HN.out
      have HN2 := Lib.hid hN
      clear hN
      go_wp2_with fail
      refine ⟨⟨1, rfl, HN2.out, by omega, St.weaken (A := [_]) H3.out⟩, ?_⟩
      simp [intOf]; omega
     | false =>
      have hX := HBAD.out rfl
      have HX := Lib.hid hX
      clear hX
      go_wp2_with fail
      go_ret
      exact ⟨by rw [HR2.out, HX.out]; rfl, St.less HLE.out (St.weaken (A := [_]) H3.out)⟩
    ·have hk0' : ¬ (k : Int) = 0 := by omega
     have hk0'' : (0 : Int) < k := by omega
     have hk0n : (k == 0) = false := beq_eq_false_iff_ne.2 hk0
     rw [hk0n] at HN HBAD
     clear hk0n
     go_wp2_with fail
     refine (CD.out _ (St.weaken (A := [_]) H3.out)).mono ?_
     rintro e w3 ⟨rfl, hb⟩
     have h4 := H3.out.belowTo hb
     have g0 := h4.cell (g := wr.heap.size) (cs := #[.int .i64 rn, .string rb, .bool false]) (t := 106) (fr := (0, 0)) (by simp) 1
     have g1 := h4.cell (g := wr.heap.size) (cs := #[.int .i64 rn, .string rb, .bool false]) (t := 106) (fr := (0, 0)) (by simp) 2
     have H4 := Lib.hid h4
     clear h4 hb CD f0 f1
     cases bd with
     | true =>
      have hN := HN.out
      have HN2 := Lib.hid (show allOk s (List.take (k + 1) l) 0 = true by rw [hN]; cases bl <;> rfl)
      clear hN
      go_wp2_with fail
      all_goals
       refine ⟨⟨k + 1, by go_num, HN2.out, by omega, St.weaken (A := [_]) H4.out⟩, ?_⟩
       simp [intOf]; omega
     | false =>
      by_cases e45 : rb.toList = [45]
      ·have e := H45.out.1 e45
       have HN2 := Lib.hid (show allOk s (List.take (k + 1) l) 0 = true by rw [HN.out, e]; cases bl <;> rfl)
       clear e
       go_wp2_with fail
       all_goals
        refine ⟨⟨k + 1, by go_num, HN2.out, by omega, St.weaken (A := [_]) H4.out⟩, ?_⟩
        simp [intOf]; omega
      by_cases e95 : rb.toList = [95]
      ·have e := H95.out.1 e95
       have HN2 := Lib.hid (show allOk s (List.take (k + 1) l) 0 = true by rw [HN.out, e]; cases bl <;> rfl)
       clear e
       go_wp2_with fail
       all_goals
        refine ⟨⟨k + 1, by go_num, HN2.out, by omega, St.weaken (A := [_]) H4.out⟩, ?_⟩
        simp [intOf]; omega
      by_cases e46 : rb.toList = [46]
      ·have e := H46.out.1 e46
       have HN2 := Lib.hid (show allOk s (List.take (k + 1) l) 0 = true by rw [HN.out, e]; cases bl <;> rfl)
       clear e
       go_wp2_with fail
       all_goals
        refine ⟨⟨k + 1, by go_num, HN2.out, by omega, St.weaken (A := [_]) H4.out⟩, ?_⟩
        simp [intOf]; omega
      have n45 : ¬ rn = 45 := fun h => e45 (H45.out.2 h)
      have n95 : ¬ rn = 95 := fun h => e95 (H95.out.2 h)
      have n46 : ¬ rn = 46 := fun h => e46 (H46.out.2 h)
      have m45 : ((rn : Int) == 45) = false := beq_eq_false_iff_ne.2 (by omega)
      have m95 : ((rn : Int) == 95) = false := beq_eq_false_iff_ne.2 (by omega)
      have m46 : ((rn : Int) == 46) = false := beq_eq_false_iff_ne.2 (by omega)
      rw [m45, m95, m46] at HN HBAD
      have b45 : (rb.toList == [45]) = false := beq_eq_false_iff_ne.2 e45
      have b95 : (rb.toList == [95]) = false := beq_eq_false_iff_ne.2 e95
      have b46 : (rb.toList == [46]) = false := beq_eq_false_iff_ne.2 e46
      clear n45 n95 n46 m45 m95 m46
      cases bl with
      | true =>
       have hN := HN.out
       have HN2 := Lib.hid (show allOk s (List.take (k + 1) l) 0 = true by rw [hN]; rfl)
       clear hN
       go_wp2_with fail
       all_goals
        refine ⟨⟨k + 1, by go_num, HN2.out, by omega, St.weaken (A := [_]) H4.out⟩, ?_⟩
        simp [intOf]; omega
      | false =>
       have hX := HBAD.out rfl
       have HX := Lib.hid hX
       clear hX
       go_wp2_with fail
       all_goals
        go_ret
        exact ⟨by rw [HR2.out, HX.out]; rfl, St.less HLE.out (St.weaken (A := [_]) H4.out)⟩
  ·obtain rfl : k = l.length := by omega
   rw [List.take_length] at hall
   have HST := Lib.hid hst
   have hR' := HR2.out
   rw [hall] at hR'
   have HR' := Lib.hid hR'
   clear hst hR'
   go_wp2_with fail
   go_ret
   exact ⟨by rw [HR'.out]; rfl, HST.out.less HLE.out⟩
end

section
set_option linter.unusedVariables false
set_option linter.unusedSimpArgs false
set_option linter.unnecessarySimpa false
open Go.RowKit Go.Lib
section
variable {W w : World} {I : Nat → Option Obj} {F : List (Nat × Obj)}
theorem emp_isEmpty (x : ByteArray) : x.toList.isEmpty = emp x := by
 unfold emp
 rw [ByteArray.toList_eq, ByteArray.toList_eq]
 cases h : x.data.toList with
 | nil => rfl
 | cons a l => rfl
set_option maxRecDepth 100000 in
set_option maxHeartbeats 16000000 in
theorem cref_right (t : TB W I) (c : Cl) (ok : c.Ok) (h : St W w I F) :
  Calls Tryd.prog 18 #[c.val] w fun e w' => e = .returned (.bool (rightC c)) ∧ St W w' I F := by
 have h0 := h.alloc (.cells c.cells 24)
 have kN := fun (v : World) (F : List (Nat × Obj)) (hv : St W v I F) => rname_any t c.name ok.n1 hv
 have p0 := h0.clf (b := w.heap.size) (c := c) (by simp)
 have rk := right_kind c
 have n1 := emp_isEmpty c.name
 have n2 := emp.eq_1 c.name
 unfold Cl.val
 obtain ⟨R, hR⟩ : ∃ R, rightC c = R := ⟨_, rfl⟩
 rw [hR] at rk ⊢
 generalize hC : c.cells = C at *
 generalize c.client = cl at *
 generalize c.slot = sl at *
 generalize c.job = jo at *
 generalize emp c.name = E at *
 generalize c.name = na at *
 generalize c.kind = kd at *
 have KN := Lib.hid kN; have RK := Lib.hid rk; have H0 := Lib.hid h0; have N2 := Lib.hid n2
 obtain ⟨p0, p1, p2, p3, p4⟩ := p0
 clear kN rk h0 h t ok hR hC n2
 by_cases c0 : 0 ≤ cl
 ·by_cases c1 : cl ≤ 7
  ·by_cases k1 : kd = 1
   ·subst k1
    by_cases sl0 : sl = 0
    ·subst sl0
     by_cases jo0 : jo = 0
     ·subst jo0
      by_cases hB : nameOk na = true
      ·rw [hB] at KN
       have hR2 : R = true := by rw [RK.out 1 rfl, if_pos (by decide)]; simp [*]
       clear RK
       subst hR2
       go_enter Tryd.func18, Tryd.ntmps18
       go_wp2_with fail
       refine (KN.out _ _ H0.out).mono ?_
       rintro e w5 ⟨rfl, h5⟩
       have H5 := Lib.hid h5
       clear h5 H0 KN
       go_wp2_with fail
       go_ret
       exact ⟨rfl, St.weaken (A := [_]) H5.out⟩
      ·have hB2 : nameOk na = false := by simpa using hB
       rw [hB2] at KN
       have hR2 : R = false := by rw [RK.out 1 rfl, if_pos (by decide)]; simp [hB2]
       clear RK
       subst hR2
       go_enter Tryd.func18, Tryd.ntmps18
       go_wp2_with fail
       refine (KN.out _ _ H0.out).mono ?_
       rintro e w5 ⟨rfl, h5⟩
       have H5 := Lib.hid h5
       clear h5 H0 KN
       go_wp2_with fail
       go_ret
       exact ⟨rfl, St.weaken (A := [_]) H5.out⟩
     ·have qj : (jo == 0) = false := beq_eq_false_iff_ne.2 jo0
      have hR2 : R = false := by rw [RK.out 1 rfl, if_pos (by decide)]; simp [qj]
      clear RK
      subst hR2
      go_enter Tryd.func18, Tryd.ntmps18
      go_wp2_with fail
      go_ret
      exact ⟨by (rfl), St.weaken (A := [_]) H0.out⟩
    ·have qs : (sl == 0) = false := beq_eq_false_iff_ne.2 sl0
     have hR2 : R = false := by rw [RK.out 1 rfl, if_pos (by decide)]; simp [qs]
     clear RK
     subst hR2
     go_enter Tryd.func18, Tryd.ntmps18
     go_wp2_with fail
     go_ret
     exact ⟨by (rfl), St.weaken (A := [_]) H0.out⟩
   by_cases k2 : kd = 2
   ·subst k2
    by_cases sl0 : sl = 0
    ·subst sl0
     by_cases hE : E = true
     ·subst hE
      by_cases j0 : 0 ≤ jo
      ·by_cases j1 : jo ≤ 1073741824
       ·have hR2 : R = true := by rw [RK.out 2 rfl, if_neg (by decide), if_pos (by decide)]; simp [*]
        clear RK
        subst hR2
        go_enter Tryd.func18, Tryd.ntmps18
        go_wp2_with fail
        go_ret
        exact ⟨by (rfl), St.weaken (A := [_]) H0.out⟩
       ·have hR2 : R = false := by rw [RK.out 2 rfl, if_neg (by decide), if_pos (by decide)]; simp [decide_eq_false j1]
        clear RK
        subst hR2
        go_enter Tryd.func18, Tryd.ntmps18
        go_wp2_with fail
        go_ret
        exact ⟨by (rfl), St.weaken (A := [_]) H0.out⟩
      ·have hR2 : R = false := by rw [RK.out 2 rfl, if_neg (by decide), if_pos (by decide)]; simp [decide_eq_false j0]
       clear RK
       subst hR2
       go_enter Tryd.func18, Tryd.ntmps18
       go_wp2_with fail
       go_ret
       exact ⟨by (rfl), St.weaken (A := [_]) H0.out⟩
     ·have hE2 : E = false := by simpa using hE
      subst hE2
      have hR2 : R = false := by rw [RK.out 2 rfl, if_neg (by decide), if_pos (by decide)]; simp
      clear RK
      subst hR2
      go_enter Tryd.func18, Tryd.ntmps18
      go_wp2_with fail
      go_ret
      exact ⟨by (rfl), St.weaken (A := [_]) H0.out⟩
    ·have qs : (sl == 0) = false := beq_eq_false_iff_ne.2 sl0
     have hR2 : R = false := by rw [RK.out 2 rfl, if_neg (by decide), if_pos (by decide)]; simp [qs]
     clear RK
     subst hR2
     go_enter Tryd.func18, Tryd.ntmps18
     go_wp2_with fail
     go_ret
     exact ⟨by (rfl), St.weaken (A := [_]) H0.out⟩
   by_cases k3 : kd = 3
   ·subst k3
    by_cases sl0 : sl = 0
    ·subst sl0
     by_cases jo0 : jo = 0
     ·subst jo0
      by_cases hE : E = true
      ·subst hE
       have hR2 : R = true := by rw [RK.out 3 rfl, if_neg (by decide), if_neg (by decide), if_pos (by decide)]; simp [*]
       clear RK
       subst hR2
       go_enter Tryd.func18, Tryd.ntmps18
       go_wp2_with fail
       go_ret
       exact ⟨by (rfl), St.weaken (A := [_]) H0.out⟩
      ·have hE2 : E = false := by simpa using hE
       subst hE2
       have hR2 : R = false := by rw [RK.out 3 rfl, if_neg (by decide), if_neg (by decide), if_pos (by decide)]; simp
       clear RK
       subst hR2
       go_enter Tryd.func18, Tryd.ntmps18
       go_wp2_with fail
       go_ret
       exact ⟨by (rfl), St.weaken (A := [_]) H0.out⟩
     ·have qj : (jo == 0) = false := beq_eq_false_iff_ne.2 jo0
      have hR2 : R = false := by rw [RK.out 3 rfl, if_neg (by decide), if_neg (by decide), if_pos (by decide)]; simp [qj]
      clear RK
      subst hR2
      go_enter Tryd.func18, Tryd.ntmps18
      go_wp2_with fail
      go_ret
      exact ⟨by (rfl), St.weaken (A := [_]) H0.out⟩
    ·have qs : (sl == 0) = false := beq_eq_false_iff_ne.2 sl0
     have hR2 : R = false := by rw [RK.out 3 rfl, if_neg (by decide), if_neg (by decide), if_pos (by decide)]; simp [qs]
     clear RK
     subst hR2
     go_enter Tryd.func18, Tryd.ntmps18
     go_wp2_with fail
     go_ret
     exact ⟨by (rfl), St.weaken (A := [_]) H0.out⟩
   by_cases k6 : kd = 6
   ·subst k6
    by_cases sl0 : sl = 0
    ·subst sl0
     by_cases jo0 : jo = 0
     ·subst jo0
      by_cases hE : E = true
      ·subst hE
       have hR2 : R = true := by rw [RK.out 6 rfl, if_neg (by decide), if_neg (by decide), if_pos (by decide)]; simp [*]
       clear RK
       subst hR2
       go_enter Tryd.func18, Tryd.ntmps18
       go_wp2_with fail
       go_ret
       exact ⟨by (rfl), St.weaken (A := [_]) H0.out⟩
      ·have hE2 : E = false := by simpa using hE
       subst hE2
       have hR2 : R = false := by rw [RK.out 6 rfl, if_neg (by decide), if_neg (by decide), if_pos (by decide)]; simp
       clear RK
       subst hR2
       go_enter Tryd.func18, Tryd.ntmps18
       go_wp2_with fail
       go_ret
       exact ⟨by (rfl), St.weaken (A := [_]) H0.out⟩
     ·have qj : (jo == 0) = false := beq_eq_false_iff_ne.2 jo0
      have hR2 : R = false := by rw [RK.out 6 rfl, if_neg (by decide), if_neg (by decide), if_pos (by decide)]; simp [qj]
      clear RK
      subst hR2
      go_enter Tryd.func18, Tryd.ntmps18
      go_wp2_with fail
      go_ret
      exact ⟨by (rfl), St.weaken (A := [_]) H0.out⟩
    ·have qs : (sl == 0) = false := beq_eq_false_iff_ne.2 sl0
     have hR2 : R = false := by rw [RK.out 6 rfl, if_neg (by decide), if_neg (by decide), if_pos (by decide)]; simp [qs]
     clear RK
     subst hR2
     go_enter Tryd.func18, Tryd.ntmps18
     go_wp2_with fail
     go_ret
     exact ⟨by (rfl), St.weaken (A := [_]) H0.out⟩
   by_cases k4 : kd = 4
   ·subst k4
    by_cases jo0 : jo = 0
    ·subst jo0
     by_cases hE : E = true
     ·subst hE
      by_cases s0 : 0 ≤ sl
      ·by_cases s1 : sl ≤ 255
       ·have hR2 : R = true := by rw [RK.out 4 rfl, if_neg (by decide), if_neg (by decide), if_neg (by decide), if_pos (by decide)]; simp [*]
        clear RK
        subst hR2
        go_enter Tryd.func18, Tryd.ntmps18
        go_wp2_with fail
        go_ret
        exact ⟨by (rfl), St.weaken (A := [_]) H0.out⟩
       ·have hR2 : R = false := by rw [RK.out 4 rfl, if_neg (by decide), if_neg (by decide), if_neg (by decide), if_pos (by decide)]; simp [decide_eq_false s1]
        clear RK
        subst hR2
        go_enter Tryd.func18, Tryd.ntmps18
        go_wp2_with fail
        go_ret
        exact ⟨by (rfl), St.weaken (A := [_]) H0.out⟩
      ·have hR2 : R = false := by rw [RK.out 4 rfl, if_neg (by decide), if_neg (by decide), if_neg (by decide), if_pos (by decide)]; simp [decide_eq_false s0]
       clear RK
       subst hR2
       go_enter Tryd.func18, Tryd.ntmps18
       go_wp2_with fail
       go_ret
       exact ⟨by (rfl), St.weaken (A := [_]) H0.out⟩
     ·have hE2 : E = false := by simpa using hE
      subst hE2
      have hR2 : R = false := by rw [RK.out 4 rfl, if_neg (by decide), if_neg (by decide), if_neg (by decide), if_pos (by decide)]; simp
      clear RK
      subst hR2
      go_enter Tryd.func18, Tryd.ntmps18
      go_wp2_with fail
      go_ret
      exact ⟨by (rfl), St.weaken (A := [_]) H0.out⟩
    ·have qj : (jo == 0) = false := beq_eq_false_iff_ne.2 jo0
     have hR2 : R = false := by rw [RK.out 4 rfl, if_neg (by decide), if_neg (by decide), if_neg (by decide), if_pos (by decide)]; simp [qj]
     clear RK
     subst hR2
     go_enter Tryd.func18, Tryd.ntmps18
     go_wp2_with fail
     go_ret
     exact ⟨by (rfl), St.weaken (A := [_]) H0.out⟩
   by_cases k5 : kd = 5
   ·subst k5
    by_cases jo0 : jo = 0
    ·subst jo0
     by_cases hE : E = true
     ·subst hE
      by_cases s0 : 0 ≤ sl
      ·by_cases s1 : sl ≤ 255
       ·have hR2 : R = true := by rw [RK.out 5 rfl, if_neg (by decide), if_neg (by decide), if_neg (by decide), if_pos (by decide)]; simp [*]
        clear RK
        subst hR2
        go_enter Tryd.func18, Tryd.ntmps18
        go_wp2_with fail
        go_ret
        exact ⟨by (rfl), St.weaken (A := [_]) H0.out⟩
       ·have hR2 : R = false := by rw [RK.out 5 rfl, if_neg (by decide), if_neg (by decide), if_neg (by decide), if_pos (by decide)]; simp [decide_eq_false s1]
        clear RK
        subst hR2
        go_enter Tryd.func18, Tryd.ntmps18
        go_wp2_with fail
        go_ret
        exact ⟨by (rfl), St.weaken (A := [_]) H0.out⟩
      ·have hR2 : R = false := by rw [RK.out 5 rfl, if_neg (by decide), if_neg (by decide), if_neg (by decide), if_pos (by decide)]; simp [decide_eq_false s0]
       clear RK
       subst hR2
       go_enter Tryd.func18, Tryd.ntmps18
       go_wp2_with fail
       go_ret
       exact ⟨by (rfl), St.weaken (A := [_]) H0.out⟩
     ·have hE2 : E = false := by simpa using hE
      subst hE2
      have hR2 : R = false := by rw [RK.out 5 rfl, if_neg (by decide), if_neg (by decide), if_neg (by decide), if_pos (by decide)]; simp
      clear RK
      subst hR2
      go_enter Tryd.func18, Tryd.ntmps18
      go_wp2_with fail
      go_ret
      exact ⟨by (rfl), St.weaken (A := [_]) H0.out⟩
    ·have qj : (jo == 0) = false := beq_eq_false_iff_ne.2 jo0
     have hR2 : R = false := by rw [RK.out 5 rfl, if_neg (by decide), if_neg (by decide), if_neg (by decide), if_pos (by decide)]; simp [qj]
     clear RK
     subst hR2
     go_enter Tryd.func18, Tryd.ntmps18
     go_wp2_with fail
     go_ret
     exact ⟨by (rfl), St.weaken (A := [_]) H0.out⟩
   have hR : R = false := by
    rw [RK.out kd rfl, if_neg k1, if_neg k2, if_neg (by omega), if_neg (by omega)]
    simp
   subst hR
   clear RK
   go_enter Tryd.func18, Tryd.ntmps18
   go_wp2_with fail
   go_ret
   exact ⟨by (rfl), St.weaken (A := [_]) H0.out⟩
  ·have hR : R = false := by rw [RK.out kd rfl]; simp [decide_eq_false c1]
   subst hR
   clear RK
   go_enter Tryd.func18, Tryd.ntmps18
   go_wp2_with fail
   go_ret
   exact ⟨by (rfl), St.weaken (A := [_]) H0.out⟩
 ·have hR : R = false := by rw [RK.out kd rfl]; simp [decide_eq_false c0]
  subst hR
  clear RK
  go_enter Tryd.func18, Tryd.ntmps18
  go_wp2_with fail
  go_ret
  exact ⟨by (rfl), St.weaken (A := [_]) H0.out⟩
end
end
end Go.Proofs.YtnjnooeldkideaaDoor
