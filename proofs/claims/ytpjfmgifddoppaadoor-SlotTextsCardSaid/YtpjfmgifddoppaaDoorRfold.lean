/- The document's Fold: walk. -/
import Derived.Test.YtpjfmgifddoppaaDoorGlRn
namespace Go.Proofs.YtpjfmgifddoppaaDoor
set_option linter.unusedVariables false
set_option linter.unusedSimpArgs false
open Go.RowKit Go.Lib

theorem rall_get (s : ByteArray) : ∀ (l : List Nat) (k p j : Nat), l[k]? = some p → j < 3 → (rall s l)[k * 3 + j]? = (rcell s p)[j]?
  | [], k, p, j, h, _ => by simp at h
  | q :: l, 0, p, j, h, hj => by
    simp at h
    subst h
    simp only [rall, List.flatMap_cons, Nat.zero_mul, Nat.zero_add]
    rw [List.getElem?_append_left (by simp [rcell]; omega)]
  | q :: l, k + 1, p, j, h, hj => by
    simp only [rall, List.flatMap_cons]
    rw [List.getElem?_append_right (by simp [rcell]; omega), show (k + 1) * 3 + j - (rcell s q).length = k * 3 + j by simp [rcell]; omega]
    exact rall_get s l k p j (by simpa using h) hj
/-- Runes that turn no more. -/
def RunesIn (A : Option Addr) (s : ByteArray) (l : List Nat) (J : Nat → Option Obj) : Prop := ∀ k p, l[k]? = some p → ∃ b off, A = some (⟨b, off, none⟩ : Addr) ∧ roCell J ⟨b, off + k * 3, none⟩ = some (.int .i64 (refNumber s p : Nat)) ∧ roCell J ⟨b, off + k * 3 + 1, none⟩ = some (.string (refBytes s p)) ∧ roCell J ⟨b, off + k * 3 + 2, none⟩ = some (.bool (brokenAt s p))
theorem runes_freeze {W w : World} {I : Nat → Option Obj} {F Lr : List (Nat × Obj)} {A : Option Addr} {c : Nat} {s : ByteArray} {l : List Nat} (hr : Row 81 3 (.slice A l.length c) l.length (rall s l) Lr) (h : St W w I (Lr ++ F)) : ∃ J, Le I J ∧ St W w J F ∧ RunesIn A s l J := by
  obtain ⟨_, ⟨hv, h0, hL⟩ | ⟨gb, off, cap, cur, hv, rfl, hnc, hcm, hsz, hxs⟩⟩ := hr
  · subst hL
    have hb := List.eq_nil_of_length_eq_zero h0
    subst hb
    exact ⟨I, Le.refl _, h, fun k p hk => by simp at hk⟩
  · injection hv with h1 _ h2
    subst h1; subst h2
    obtain ⟨J, hle, hg, h'⟩ := St.freeze h
    refine ⟨J, hle, h', fun k p hk => ⟨gb, off, rfl, ?_⟩⟩
    have hkl := (List.getElem?_eq_some_iff.1 hk).1
    have key : ∀ j, j < 3 → roCell J ⟨gb, off + (k * 3 + j), none⟩ = (rcell s p)[j]? := fun j hj => by
      have h1 := rall_get s l k p j hk hj
      rw [← hxs, List.getElem?_take_of_lt (by omega), List.getElem?_drop] at h1
      unfold roCell
      simp only [hg]
      simpa using h1
    exact ⟨key 0 (by omega), key 1 (by omega), key 2 (by omega)⟩

theorem foldPiece_broken (s : ByteArray) (p : Nat) (hp : p < s.size) (hb : brokenAt s p = true) : refBytes s p = ⟨(foldPiece s p).toArray⟩ := by
  have h2 : (Utf8.decode s p).2 = 1 := by
    unfold brokenAt at hb
    simp only [Bool.and_eq_true, beq_iff_eq] at hb
    exact hb.2
  rw [foldPiece, if_pos hb, refBytes, h2]
  apply ByteArray.ext
  rw [ByteArray.data_extract]
  have hs : s.data.size = s.size := rfl
  apply Array.ext
  · simp only [Array.size_extract]; simp; omega
  · intro i h1 h3
    simp only [Array.size_extract] at h1
    obtain rfl : i = 0 := by omega
    rw [get_lt s p hp]
    simp
    rfl
theorem str_app (a b : List UInt8) : (⟨a.toArray⟩ : ByteArray) ++ ⟨b.toArray⟩ = ⟨(a ++ b).toArray⟩ := by
  apply ByteArray.ext
  rw [ByteArray.data_append]
  simp

set_option maxRecDepth 100000 in
set_option maxHeartbeats 4000000 in
theorem rfold_any {W w : World} {I : Nat → Option Obj} {L : List (Nat × Obj)} (t : TB W I) (tc : TabC W) (s : ByteArray) (hm : s.size ≤ 1000000000) (h : St W w I L) :
    Calls Tryd.prog 50 #[.string s] w fun e w' => e = .returned (.string ⟨(foldOf s).toArray⟩) ∧ St W w' I L := by
  have cR := runes_any s hm h
  have hzl := runesOf_lt s
  have hln := runesOf_len s
  obtain ⟨R, hR⟩ : ∃ R : ByteArray, R = ⟨(foldOf s).toArray⟩ := ⟨_, rfl⟩
  rw [← hR]
  have hfd : foldOf s = (runesOf s).flatMap (foldPiece s) := rfl
  rw [hfd] at hR
  generalize runesOf s = l at *
  have HR := Lib.hid hR; have CR := Lib.hid cR
  clear hR cR h hfd
  go_enter Tryd.func50, Tryd.ntmps50
  go_wp2_with fail
  refine CR.out.mono ?_
  rintro e w1 ⟨A, c, L', rfl, hrow, h1⟩
  obtain ⟨J, hle, h2, hrin⟩ := runes_freeze hrow h1
  have H2 := Lib.hid h2; have HRIN := Lib.hid hrin
  have T := Lib.hid (t.more hle)
  clear hrow h1 h2 CR t hrin
  go_wp2_with fail
  go_loopw [3, 9] (fun v i wr => ∃ k : Nat, i = .int .i64 k ∧ v = .string ⟨((l.take k).flatMap (foldPiece s)).toArray⟩ ∧ k ≤ l.length ∧ St W wr J L) (fun _ i _ => l.length - (intOf i).toNat)
  case atStart => exact ⟨0, rfl, by simp, by omega, H2.out⟩
  case round =>
    obtain ⟨k, rfl, rfl, hk, hst⟩ := hrel
    clear H2
    by_cases hkl : k < l.length
    · obtain ⟨p, hp⟩ : ∃ p, l[k]? = some p := ⟨_, List.getElem?_eq_getElem hkl⟩
      obtain ⟨b, off, rfl, r0, r1, r2⟩ := HRIN.out k p hp
      have hps := hzl p (List.mem_of_getElem? hp)
      have q0 := hst.ro r0
      have q1 := hst.ro r1
      have q2 := hst.ro r2
      have hnext : (l.take (k + 1)).flatMap (foldPiece s) = (l.take k).flatMap (foldPiece s) ++ foldPiece s p := by rw [List.take_add_one, hp]; simp
      have hno : brokenAt s p = false → refNumber s p = (Utf8.decode s p).1 := fun h => by unfold refNumber; rw [h]; rfl
      have hok := toLowerU_ok _ (rune_ok s p)
      have hrl := Lib.rune_le s p
      have hfb := foldPiece_broken s p hps
      have hfg : brokenAt s p = false → foldPiece s p = encodeRune (toLowerU ((Utf8.decode s p).1 : Int)) := fun h => by rw [foldPiece, h]; rfl
      have hal := foldPieces_len s (l.take k)
      have hkl2 : (l.take k).length ≤ 1000000000 := by simp; omega
      have hrbs : (refBytes s p).size ≤ 1000000000 := by unfold refBytes; rw [ByteArray.size_extract]; omega
      obtain ⟨acc, hacc⟩ : ∃ acc, (l.take k).flatMap (foldPiece s) = acc := ⟨_, rfl⟩
      rw [hacc] at hnext hal ⊢
      generalize foldPiece s p = fp at *
      generalize refBytes s p = rb at *
      generalize refNumber s p = rn at *
      generalize (Utf8.decode s p).1 = dn at *
      have HN := Lib.hid hnext; have HST := Lib.hid hst; have HLE := Lib.hid hle
      cases hbr : brokenAt s p with
      | true =>
        rw [hbr] at q2
        have he := hfb hbr
        have HE := Lib.hid he
        have hcat : acc.length + rb.size ≤ 9223372036854775807 := by omega
        clear hno hok hrl hfb hfg hst hnext r0 r1 r2 hp hacc hle he hbr hzl
        go_wp2_with fail
        refine ⟨⟨k + 1, by go_num, by rw [HE.out, str_app, HN.out], by omega, St.alloc_ HST.out _⟩, ?_⟩
        simp [intOf]; omega
      | false =>
        rw [hbr] at q2
        have he := hno hbr
        have hf := hfg hbr
        obtain ⟨tl, htl⟩ : ∃ tl, toLowerU (dn : Int) = tl := ⟨_, rfl⟩
        have hta := fun (v : World) (hv : St W v J L) => Tryd.unicode_ToLower_laid (dn : Int) v (tc.below (hv.below T.out.le)).case
        rw [htl] at hta hok hf
        unfold ROk at hok
        obtain ⟨tn, rfl⟩ := Int.eq_ofNat_of_zero_le (by omega : 0 ≤ tl)
        rw [he] at q0
        have HF := Lib.hid hf; have HTA := Lib.hid hta
        have hdn : (dn : Int) ≤ 1114111 := by omega
        have htn : (tn : Int) ≤ 1114111 := by omega
        have hok' : tn < 55296 ∨ (57344 ≤ tn ∧ tn ≤ 1114111) := by omega
        have hel := Lib.encodeRuneZ_length (tn : Int)
        have hel2 : (encodeRune (tn : Int)).length ≤ 4 := by unfold encodeRune; rw [List.length_map]; exact hel.2
        have hcat : acc.length + (encodeRune (tn : Int)).length ≤ 9223372036854775807 := by omega
        clear hno hok hrl hfb hfg hst hnext r0 r1 r2 hp hacc hle he hbr hf hta htl hzl hel hel2
        go_wp2_with fail
        refine (HTA.out _ (St.alloc_ HST.out _)).mono ?_
        rintro e w2 ⟨rfl, q, rfl⟩
        have h3 := (St.alloc_ HST.out (.cells #[.int .i64 dn, .string rb, .bool false] 81)).drew q
        have cP := put_any tn hok' h3
        have CP := Lib.hid cP
        clear h3 cP
        go_wp2_with fail
        refine CP.out.mono ?_
        rintro e w3 ⟨rfl, h4⟩
        have H4 := Lib.hid h4
        clear h4 CP
        go_wp2_with fail
        refine ⟨⟨k + 1, by go_num, by rw [str_app, HN.out, HF.out], by omega, H4.out⟩, ?_⟩
        simp [intOf]; omega
    · obtain rfl : k = l.length := by omega
      rw [List.take_length]
      have HST := Lib.hid hst
      have hR' := HR.out
      have HR' := Lib.hid hR'
      have HLE := Lib.hid hle
      clear hst hR' hle
      go_wp2_with fail
      go_ret
      exact ⟨by rw [HR'.out]; rfl, HST.out.less HLE.out⟩
end Go.Proofs.YtpjfmgifddoppaaDoor
