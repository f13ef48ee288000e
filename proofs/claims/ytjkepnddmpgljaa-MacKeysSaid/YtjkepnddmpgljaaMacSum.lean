/- mac: Sum. -/
import Derived.Test.YtjkepnddmpgljaaPad
import Derived.Deep.RegionHeld3
namespace Go.Proofs.Ytjkepnddmpgljaa
set_option linter.unusedVariables false
set_option linter.unusedSimpArgs false
open Go.RowKit

theorem St.there {W w : World} {I : Nat → Option Obj} {F : List (Nat × Obj)} {g : Nat} {cs : Array Value} {t : TypeId} {X : Array Value} (h : St W w I ((g, .cells cs t (0, 0)) :: F)) (hf : 0 + X.size ≤ cs.size) : w.there g 0 X.toList.length := fun j hj => by
  have hj' : j < X.size := by simpa using hj
  refine ⟨?_, h.frozen (g := g) (cs := cs) (t := t) (by simp) _⟩
  rw [h.cell (g := g) (cs := cs) (t := t) (fr := (0, 0)) (by simp), Array.getElem?_eq_getElem (by omega)]
  rfl

theorem Part.In_mono {W : World} {I J : Nat → Option Obj} (hle : Le I J) {p : Part} (h : p.In W I) : p.In W J := fun w L hst => h w L (hst.less hle)

/-- What mac.Sum tells. -/
def macIn (key bs : List UInt8) : List UInt8 := padOf (keyOf key) 54 ++ bs
def macOut (key bs : List UInt8) : List UInt8 := padOf (keyOf key) 92 ++ hashOf (macIn key bs)

theorem ds_pad {W w : World} {I : Nat → Option Obj} {F : List (Nat × Obj)} {ds : List (Nat × List UInt8)} (p : Part) (b : UInt8) (hp : p.In W I) (hm : p.bs.length ≤ 549755813888) (h : Digs W w I ds F) :
    Calls Try.prog 33 #[.slice p.A p.bs.length p.c, .int .u8 (b.toNat : Int)] w fun e w' => ∃ g J, e = .returned (.slice (some ⟨g, 0, none⟩) 64 64) ∧ Le I J ∧ Part.In ⟨some ⟨g, 0, none⟩, 64, padOf (keyOf p.bs) b⟩ W J ∧ Digs W w' J ds F := by
  obtain ⟨G, hb, hst⟩ := h
  refine (padded_any p b hp hm hst).mono ?_
  rintro e w' ⟨g, he, h'⟩
  obtain ⟨J, hle, hJ, h''⟩ := h'.freeze
  exact ⟨g, J, he, hle, part_lit hJ (by intro j u hj; simpa [bcells] using hj), G, hb, h''⟩

/-- Sum's post. -/
def MacPost (W : World) (I : Nat → Option Obj) (key bs : List UInt8) (F : List (Nat × Obj)) (e : Ending) (w' : World) : Prop :=
  e = .returned (.agg (HV (macOut key bs))) ∧ St W w' I F

set_option maxRecDepth 100000 in
set_option maxHeartbeats 2000000 in
theorem msum {W w : World} {I : Nat → Option Obj} {F : List (Nat × Obj)} (key : Part) (ps : List Part) {gp op cp n : Nat} (hst : St W w I F) (hn : n = ps.length) (hkey : key.In W I) (hkl : key.bs.length ≤ 1000000)
    (hcell : ∀ i p, ps[i]? = some p → roCell I ⟨gp, op + i, none⟩ = some p.val) (hsrc : ∀ p ∈ ps, p.In W I) (hlen : (cat ps).length ≤ 1000000) (hpl : n ≤ 9223372036854775806) :
    Calls Try.prog 23 #[.slice key.A key.bs.length key.c, .slice (some ⟨gp, op, none⟩) n cp] w (MacPost W I key.bs (cat ps) F) := by
  subst hn
  obtain ⟨A, c, kb⟩ := key
  simp only at hkl ⊢
  have h0 := hst.alloc (.cells #[.int .u8 0, .int .u8 0, .int .u8 0, .int .u8 0, .int .u8 0, .int .u8 0, .int .u8 0, .int .u8 0, .int .u8 0, .int .u8 0, .int .u8 0, .int .u8 0, .int .u8 0, .int .u8 0, .int .u8 0, .int .u8 0, .int .u8 0, .int .u8 0, .int .u8 0, .int .u8 0, .int .u8 0, .int .u8 0, .int .u8 0, .int .u8 0, .int .u8 0, .int .u8 0, .int .u8 0, .int .u8 0, .int .u8 0, .int .u8 0, .int .u8 0, .int .u8 0] 26)
  have hd0 := Digs.nil h0
  have HC := Lib.hid hcell; have HSRC := Lib.hid hsrc; have HKEY := Lib.hid hkey; have HD0 := Lib.hid hd0
  clear hst h0 hcell hsrc hkey hd0
  go_enter Try.func23, Try.ntmps23
  go_wp2_with fail
  refine (ds_new HD0.out).mono ?_
  rintro e w1 ⟨g1, rfl, h1⟩
  clear HD0
  have kp := ds_pad ⟨A, c, kb⟩ 54 HKEY.out (by show kb.length ≤ _; omega) h1
  simp only at kp
  have KP := Lib.hid kp
  clear kp h1
  go_wp2_with fail
  refine KP.out.mono ?_
  rintro e w2 ⟨g2, J, rfl, hle, hpi, h2⟩
  clear KP
  have hpl64 : (padOf (keyOf kb) 54).length = 64 := padOf_len _ _ (keyOf_len _)
  have kw := ds_write _ hpi h2 (by simp only [List.length_nil, hpl64]; omega)
  simp only [List.nil_append, hpl64] at kw
  have hcJ : ∀ i p, ps[i]? = some p → roCell J ⟨gp, op + i, none⟩ = some p.val := fun i p hp => roCell_mono hle (HC.out i p hp)
  have hsJ : ∀ p ∈ ps, p.In W J := fun p hp => Part.In_mono hle (HSRC.out p hp)
  have hkJ : Part.In ⟨A, c, kb⟩ W J := Part.In_mono hle HKEY.out
  have KW := Lib.hid kw; have HCJ := Lib.hid hcJ; have HSJ := Lib.hid hsJ; have HKJ := Lib.hid hkJ; have HLE := Lib.hid hle; have HPL := Lib.hid hpl64
  clear kw hcJ hsJ hkJ hle hpi h2 HC HSRC HKEY hpl64
  go_wp2_with fail
  refine KW.out.mono ?_
  rintro e w3 ⟨rfl, h3⟩
  clear KW
  go_wp2_with fail
  go_loopw [16] (fun i wr => ∃ k : Nat, k ≤ ps.length ∧ i = .int .i64 k ∧ Digs W wr J [(g1, padOf (keyOf kb) 54 ++ cat (ps.take k))] ((w.heap.size, .cells #[.int .u8 0, .int .u8 0, .int .u8 0, .int .u8 0, .int .u8 0, .int .u8 0, .int .u8 0, .int .u8 0, .int .u8 0, .int .u8 0, .int .u8 0, .int .u8 0, .int .u8 0, .int .u8 0, .int .u8 0, .int .u8 0, .int .u8 0, .int .u8 0, .int .u8 0, .int .u8 0, .int .u8 0, .int .u8 0, .int .u8 0, .int .u8 0, .int .u8 0, .int .u8 0, .int .u8 0, .int .u8 0, .int .u8 0, .int .u8 0, .int .u8 0, .int .u8 0] 26 (0, 0)) :: F)) (fun i _ => ps.length - (intOf i).toNat)
  case atStart => exact ⟨0, by omega, rfl, by simpa [cat] using h3⟩
  case round =>
    obtain ⟨k, hk, rfl, hd⟩ := hrel
    clear h3
    by_cases hlt : k < ps.length
    · obtain ⟨p, hp⟩ : ∃ p, ps[k]? = some p := ⟨_, List.getElem?_eq_getElem hlt⟩
      have q : wr.cell? ⟨gp, op + k, none⟩ = some (.slice p.A p.bs.length p.c) := hd.frame.ro (HCJ.out k p hp)
      have hle' := cat_take_le ps (k + 1)
      rw [cat_take ps k p hp, List.length_append] at hle'
      have hw := ds_write p (HSJ.out p (List.mem_of_getElem? hp)) hd (by rw [List.length_append, HPL.out]; omega)
      rw [List.append_assoc, ← cat_take ps k p hp] at hw
      have HW := Lib.hid hw
      clear hle' hd hp hw
      generalize p.bs.length = np at *
      generalize p.A = Ap at *
      generalize p.c = cpp at *
      go_wp2_with fail
      refine HW.out.mono ?_
      rintro e w4 ⟨rfl, h4⟩
      clear HW
      go_wp2_with fail
      go_roundw
      case rel => exact ⟨k + 1, by omega, by go_num, h4⟩
      case measure => simp [intOf]; omega
    · obtain rfl : k = ps.length := by omega
      rw [List.take_length] at hd
      have ks := ds_sum hd (by rw [List.length_append, HPL.out]; omega)
      have KS := Lib.hid ks
      clear ks hd
      go_wp2_with fail
      refine KS.out.mono ?_
      rintro e w5 ⟨rfl, h5⟩
      clear KS
      have h6 := h5.frame
      have eHV : HV (padOf (keyOf kb) 54 ++ cat ps) = bcells (hashOf (macIn kb (cat ps))) := rfl
      rw [eHV]
      have hkl2 := hashOf_len (macIn kb (cat ps))
      obtain ⟨hh, hhe⟩ : ∃ hh, hh = hashOf (macIn kb (cat ps)) := ⟨_, rfl⟩
      rw [← hhe] at hkl2 ⊢
      have hout : macOut kb (cat ps) = padOf (keyOf kb) 92 ++ hh := by rw [hhe]; rfl
      have zk : (bcells hh).size = 32 := by rw [bcells_size, hkl2]
      have ik : (Try.prog.info? 26).map (·.size) = some (bcells hh).size := by rw [zk]; kernel_rfl
      have fk : 0 + (bcells hh).size ≤ (#[.int .u8 0, .int .u8 0, .int .u8 0, .int .u8 0, .int .u8 0, .int .u8 0, .int .u8 0, .int .u8 0, .int .u8 0, .int .u8 0, .int .u8 0, .int .u8 0, .int .u8 0, .int .u8 0, .int .u8 0, .int .u8 0, .int .u8 0, .int .u8 0, .int .u8 0, .int .u8 0, .int .u8 0, .int .u8 0, .int .u8 0, .int .u8 0, .int .u8 0, .int .u8 0, .int .u8 0, .int .u8 0, .int .u8 0, .int .u8 0, .int .u8 0, .int .u8 0] : Array Value).size := by rw [zk]; decide
      have ek : setMany #[.int .u8 0, .int .u8 0, .int .u8 0, .int .u8 0, .int .u8 0, .int .u8 0, .int .u8 0, .int .u8 0, .int .u8 0, .int .u8 0, .int .u8 0, .int .u8 0, .int .u8 0, .int .u8 0, .int .u8 0, .int .u8 0, .int .u8 0, .int .u8 0, .int .u8 0, .int .u8 0, .int .u8 0, .int .u8 0, .int .u8 0, .int .u8 0, .int .u8 0, .int .u8 0, .int .u8 0, .int .u8 0, .int .u8 0, .int .u8 0, .int .u8 0, .int .u8 0] 0 (bcells hh).toList = bcells hh := by rw [setMany_whole _ _ (by simp [zk])]
      have IK := Lib.hid ik; have FK := Lib.hid fk; have EK := Lib.hid ek; have OK := Lib.hid (bcells_one hh); have HOUT := Lib.hid hout; have HHL := Lib.hid hkl2
      have H7 := Lib.hid (h6.alloc (.cells #[.int .u8 0, .int .u8 0, .int .u8 0, .int .u8 0, .int .u8 0, .int .u8 0, .int .u8 0, .int .u8 0, .int .u8 0, .int .u8 0, .int .u8 0, .int .u8 0, .int .u8 0, .int .u8 0, .int .u8 0, .int .u8 0, .int .u8 0, .int .u8 0, .int .u8 0, .int .u8 0, .int .u8 0, .int .u8 0, .int .u8 0, .int .u8 0, .int .u8 0, .int .u8 0, .int .u8 0, .int .u8 0, .int .u8 0, .int .u8 0, .int .u8 0, .int .u8 0] 26))
      clear h5 h6 eHV hhe zk ik fk ek hout hkl2
      go_wp2_with (with_reducible refine wpList_store_st rfl 26 (.tmp 8) (.tmp 25) rfl (g := w5.heap.size) (off := 0) (bcells hh) rfl rfl H7.out FK.out IK.out OK.out ?_; intro w6 h8; refine Hid.out ?_)
      refine Lib.hid ?_
      rw [EK.out] at h8
      clear H7 EK FK IK OK
      generalize w5.heap.size = g8 at *
      obtain ⟨J2, hle2, hJ2, h9⟩ := h8.freeze
      have hp8 : Part.In ⟨some ⟨g8, 0, none⟩, 32, hh⟩ W J2 := part_lit hJ2 (by intro j u hj; simpa [bcells] using hj)
      have kq : ∀ w', St W w' J2 ((w.heap.size, .cells #[.int .u8 0, .int .u8 0, .int .u8 0, .int .u8 0, .int .u8 0, .int .u8 0, .int .u8 0, .int .u8 0, .int .u8 0, .int .u8 0, .int .u8 0, .int .u8 0, .int .u8 0, .int .u8 0, .int .u8 0, .int .u8 0, .int .u8 0, .int .u8 0, .int .u8 0, .int .u8 0, .int .u8 0, .int .u8 0, .int .u8 0, .int .u8 0, .int .u8 0, .int .u8 0, .int .u8 0, .int .u8 0, .int .u8 0, .int .u8 0, .int .u8 0, .int .u8 0] 26 (0, 0)) :: F) → Calls Try.prog 33 #[.slice A kb.length c, .int .u8 92] w' fun e w'' => ∃ g J, e = .returned (.slice (some ⟨g, 0, none⟩) 64 64) ∧ Le J2 J ∧ (∀ w3, w3 = w'' → Calls Try.prog 16 #[.slice (some ⟨w3.heap.size, 0, none⟩) 2 2] (w3.alloc (.cells #[.slice (some ⟨g, 0, none⟩) 64 64, .slice (some ⟨g8, 0, none⟩) 32 32] 22)) fun e w4 => e = .returned (.agg (HV (macOut kb (cat ps)))) ∧ St W w4 J ((w.heap.size, .cells #[.int .u8 0, .int .u8 0, .int .u8 0, .int .u8 0, .int .u8 0, .int .u8 0, .int .u8 0, .int .u8 0, .int .u8 0, .int .u8 0, .int .u8 0, .int .u8 0, .int .u8 0, .int .u8 0, .int .u8 0, .int .u8 0, .int .u8 0, .int .u8 0, .int .u8 0, .int .u8 0, .int .u8 0, .int .u8 0, .int .u8 0, .int .u8 0, .int .u8 0, .int .u8 0, .int .u8 0, .int .u8 0, .int .u8 0, .int .u8 0, .int .u8 0, .int .u8 0] 26 (0, 0)) :: F)) := by
        intro w' h'
        refine (ds_pad ⟨A, c, kb⟩ 92 (Part.In_mono hle2 HKJ.out) (by show kb.length ≤ _; omega) (Digs.nil h')).mono ?_
        rintro e w'' ⟨g, J3, he, hle3, hpi, hd⟩
        refine ⟨g, J3, he, hle3, ?_⟩
        rintro w3 rfl
        have hpo : (padOf (keyOf kb) 92).length = 64 := padOf_len _ _ (keyOf_len _)
        have k := ds_all [⟨some ⟨g, 0, none⟩, 64, padOf (keyOf kb) 92⟩, ⟨some ⟨g8, 0, none⟩, 32, hh⟩] (in_cons hpi (in_cons (Part.In_mono hle3 hp8) in_nil)) hd (n0 := w3.heap.size) (n := 2) rfl rfl (by simp [cat, hpo, HHL.out]) (by omega)
        rw [show cat [⟨some ⟨g, 0, none⟩, 64, padOf (keyOf kb) 92⟩, ⟨some ⟨g8, 0, none⟩, 32, hh⟩] = macOut kb (cat ps) by rw [HOUT.out]; simp [cat]] at k
        simp only [Part.val, List.map_cons, List.map_nil, hpo, HHL.out] at k
        exact k.mono fun e w4 ⟨h1, h2⟩ => ⟨h1, h2.frame⟩
      have sb := slice_arr32
      have H9 := Lib.hid h9
      have KQ := Lib.hid kq
      have HLE2 := Lib.hid hle2
      have zk : (HV (macOut kb (cat ps))).size = 32 := by unfold HV; rw [bcells_size, hashOf_len]
      have ik : (Try.prog.info? 26).map (·.size) = some (HV (macOut kb (cat ps))).size := by rw [zk]; kernel_rfl
      have fk : 0 + (HV (macOut kb (cat ps))).size ≤ (#[.int .u8 0, .int .u8 0, .int .u8 0, .int .u8 0, .int .u8 0, .int .u8 0, .int .u8 0, .int .u8 0, .int .u8 0, .int .u8 0, .int .u8 0, .int .u8 0, .int .u8 0, .int .u8 0, .int .u8 0, .int .u8 0, .int .u8 0, .int .u8 0, .int .u8 0, .int .u8 0, .int .u8 0, .int .u8 0, .int .u8 0, .int .u8 0, .int .u8 0, .int .u8 0, .int .u8 0, .int .u8 0, .int .u8 0, .int .u8 0, .int .u8 0, .int .u8 0] : Array Value).size := by rw [zk]; decide
      have ek : setMany #[.int .u8 0, .int .u8 0, .int .u8 0, .int .u8 0, .int .u8 0, .int .u8 0, .int .u8 0, .int .u8 0, .int .u8 0, .int .u8 0, .int .u8 0, .int .u8 0, .int .u8 0, .int .u8 0, .int .u8 0, .int .u8 0, .int .u8 0, .int .u8 0, .int .u8 0, .int .u8 0, .int .u8 0, .int .u8 0, .int .u8 0, .int .u8 0, .int .u8 0, .int .u8 0, .int .u8 0, .int .u8 0, .int .u8 0, .int .u8 0, .int .u8 0, .int .u8 0] 0 (HV (macOut kb (cat ps))).toList = HV (macOut kb (cat ps)) := by rw [setMany_whole _ _ (by simp [zk])]
      have IK := Lib.hid ik; have FK := Lib.hid fk; have EK := Lib.hid ek; have OK := Lib.hid (bcells_one (hashOf (macOut kb (cat ps))))
      clear h8 h9 kq hle2 hp8 hJ2 zk ik fk ek HOUT HHL
      generalize hX : HV (macOut kb (cat ps)) = X at *
      have oX : X.all (·.oneCell') = true := by rw [← hX]; exact OK.out
      have hone : ∀ v ∈ X.toList, v.oneCell' = true := fun v hv => (Array.all_eq_true_iff_forall_mem.1 oX) v (by simpa using hv)
      have HX := Lib.hid hX
      clear oX hX OK
      go_wp2_with fail
      go_region_held3 (fun _ => True) (exact trivial) (first
        | (go_at_call 33; (with_reducible refine (KQ.out _ ?_).mono ?_); (first | exact H9.out.drew1 | exact H9.out.drew _); rintro e w7 ⟨g3, J3, rfl, hle3, hk3⟩; have HK3 := Lib.hid hk3; have HLE3 := Lib.hid hle3; clear hk3 hle3; dsimp only)
        | (go_at_call 16; refine (HK3.out _ rfl).mono ?_; rintro e w8 ⟨rfl, h11⟩; have hth : w8.there w.heap.size 0 X.toList.length := St.there h11 FK.out; have H11 := Lib.hid h11; clear h11; dsimp only))
      have h12 := St.setCells X.toList 0 _ _ H11.out
      rw [EK.out] at h12
      generalize w8.setCells w.heap.size 0 X.toList = w9 at *
      go_wp2_with fail
      refine bodyPost_ret (results_cell_row rfl _ w9 w.heap.size 26 X (0, 0) _ rfl (h12.own (w.heap.size, .cells X 26 (0, 0)) (by simp)) Try.underlying26 (by kernel_rfl) IK.out) rfl ?_
      exact ⟨by rw [HX.out], (St.weaken (A := [_]) h12).less ((HLE.out.trans HLE2.out).trans HLE3.out)⟩
end Go.Proofs.Ytjkepnddmpgljaa
