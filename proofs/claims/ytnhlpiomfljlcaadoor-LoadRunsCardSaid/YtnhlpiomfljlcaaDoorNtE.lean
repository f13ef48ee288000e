/- net: New. net: the chapter's examples. -/
import Derived.Test.YtnhlpiomfljlcaaDoorNtC
import Derived.Test.YtnhlpiomfljlcaaDoorArgs
import Derived.Lib.SlBytesConst
namespace Go.Proofs.YtnhlpiomfljlcaaDoor
section
set_option linter.unusedVariables false
set_option linter.unusedSimpArgs false
open Go.RowKit

/-- Offers that stand in the memory that turns no more. -/
structure OffIn (A : Option Addr) (os : List (ByteArray × Part)) (W : World) (I : Nat → Option Obj) : Prop where
  at_ : ∀ k o, os[k]? = some o → ∃ b off, A = some (⟨b, off, none⟩ : Addr) ∧ roCell I ⟨b, off + k * 2, none⟩ = some (.string o.1) ∧ roCell I ⟨b, off + k * 2 + 1, none⟩ = some o.2.val
  name : ∀ o ∈ os, o.1.size ≤ 1000000
  ok : ∀ o ∈ os, POk o.2 W I
def eb (e : ByteArray × Part) : ByteArray × List UInt8 := (e.1, e.2.bs)
def lookB (l : List (ByteArray × List UInt8)) (k : ByteArray) : Option (List UInt8) :=
  match l with
  | [] => none
  | (k', v) :: l => if k = k' then some v else lookB l k
theorem lookB_eb (es : List (ByteArray × Part)) (k : ByteArray) : lookB (es.map eb) k = (lookP es k).map (·.bs) := by
  induction es with
  | nil => rfl
  | cons e es ih =>
    obtain ⟨k', p⟩ := e
    simp only [List.map_cons, eb, lookB, lookP]
    split
    · rfl
    · exact ih
def addOff (acc : List (ByteArray × List UInt8)) (o : ByteArray × Part) : List (ByteArray × List UInt8) :=
  if nameOk o.1 && (lookB acc ⟨(foldOf o.1).toArray⟩).isNone then acc ++ [(⟨(foldOf o.1).toArray⟩, o.2.bs)] else acc
def newOffs (os : List (ByteArray × Part)) : List (ByteArray × List UInt8) := os.foldl addOff []
theorem newOffs_take (os : List (ByteArray × Part)) (k : Nat) (o : ByteArray × Part) (h : os[k]? = some o) : newOffs (os.take (k + 1)) = addOff (newOffs (os.take k)) o := by
  unfold newOffs
  rw [List.take_add_one, h]
  simp

section
variable {W w : World} {J : Nat → Option Obj} {g m : Nat} {es : List (ByteArray × Part)} {fs : List Fault} {cnt : Nat} {F : List (Nat × Obj)}
theorem Part.In.mono {J' : Nat → Option Obj} {p : Part} (h : p.In W J) (hle : Le J J') : p.In W J' := fun w L hst => h w L (hst.less hle)
theorem POk.mono {J' : Nat → Option Obj} {p : Part} (h : POk p W J) (hle : Le J J') : POk p W J' := ⟨h.in_.mono hle, h.le, h.cap, h.len⟩
theorem Offs.mono {J' : Nat → Option Obj} (h : Offs W J es) (hle : Le J J') : Offs W J' es := fun e he => (h e he).mono hle

/-- Bytes of the call's own turn no more. -/
theorem row_freeze {A : Option Addr} {c : Nat} {bs : List UInt8} {Lr : List (Nat × Obj)} (hr : Row 5 1 (.slice A bs.length c) bs.length (bs.map bval) Lr) (hl : bs.length ≤ 1000000000) (h : St W w J (Lr ++ F)) :
    ∃ J', Le J J' ∧ St W w J' F ∧ POk ⟨A, c, bs⟩ W J' := by
  have hr0 := hr
  obtain ⟨_, ⟨hv, h0, hL⟩ | ⟨gb, off, cap, cur, hv, rfl, hnc, hcm, hsz, hxs⟩⟩ := hr
  · injection hv with h1 _ h2
    subst h1; subst h2; subst hL
    have hb := List.eq_nil_of_length_eq_zero h0
    subst hb
    exact ⟨J, Le.refl _, h, Part.In_nil _ _, by simp, Nat.zero_le _, by simp⟩
  · injection hv with h1 _ h2
    subst h1; subst h2
    obtain ⟨J', hle, hg, h'⟩ := St.freeze h
    refine ⟨J', hle, h', ?_, hnc, hcm, hl⟩
    intro v L hv
    exact Row.src hr0 (fun p hp => by
      simp at hp
      subst hp
      exact hv.imm _ _ hg)
end

set_option maxRecDepth 100000 in
set_option maxHeartbeats 4000000 in
theorem net_new {W w : World} {I : Nat → Option Obj} {F : List (Nat × Obj)} (t : TB W I) (A : Option Addr) (c : Nat) (os : List (ByteArray × Part)) (ho : OffIn A os W I) (hn : os.length ≤ 1000000) (FA : Option Addr) (fc : Nat) (fs : List Fault) (hf : FIn FA fs W I) (hfn : fs.length ≤ 1000000) (h : St W w I F) :
    Calls Tryd.prog 11 #[.slice A os.length c, .slice FA fs.length fc] w fun e w' => ∃ J g m es, Le I J ∧ e = .returned (.pointer (some ⟨g, 0, none⟩)) ∧ NetSt W w' J g m es fs 0 F ∧ Offs W J es ∧ es.map eb = newOffs os := by
  obtain ⟨m, hm⟩ : ∃ m, m = w.heap.size := ⟨_, rfl⟩
  have h1 := h.alloc (.map #[] 0)
  rw [← hm] at h1
  have cC := clone_faults FA fc fs hf hfn h1
  have hmm := @run_makeMap Tryd.prog
  have CC := Lib.hid cC
  clear cC h1 h
  go_enter Tryd.func11, Tryd.ntmps11
  go_wp2_with fail
  refine CC.out.mono ?_
  rintro e w1 ⟨A1, c1, L1, rfl, hr1, h2⟩
  rw [← hm]
  have HM := Lib.hid hm
  clear hm CC hmm
  obtain ⟨g, hg⟩ : ∃ g, g = w1.heap.size := ⟨_, rfl⟩
  have h3 := h2.alloc (.cells #[.map (some m), .slice A1 fs.length c1, .int .i64 0] 104)
  rw [← hg] at h3
  have h4 : NetSt W (w1.alloc (.cells #[.map (some m), .slice A1 fs.length c1, .int .i64 0] 104)) I g m [] fs 0 F :=
    ⟨⟨A1, c1, L1, hr1⟩, h3.perm (List.Perm.cons _ List.perm_middle)⟩
  have H4 := Lib.hid h4
  clear h4 h3 h2 hr1
  go_wp2_with fail
  rw [← hg]
  have HG := Lib.hid hg
  clear hg
  go_loopw [18] (fun i wr => ∃ (k : Nat) (J : Nat → Option Obj) (es : List (ByteArray × Part)), k ≤ os.length ∧ i = .int .i64 k ∧ Le I J ∧ NetSt W wr J g m es fs 0 F ∧ Offs W J es ∧ es.map eb = newOffs (os.take k))
    (fun i _ => os.length - (intOf i).toNat)
  case atStart => exact ⟨0, I, [], by omega, rfl, Le.refl _, H4.out, (fun e he => by cases he), rfl⟩
  case round =>
    obtain ⟨k, J, es, hk, rfl, hle, hN, hof, hes⟩ := hrel
    clear H4
    by_cases hlt : k < os.length
    · obtain ⟨o, hok⟩ : ∃ o, os[k]? = some o := ⟨_, List.getElem?_eq_getElem hlt⟩
      have hom : o ∈ os := List.mem_of_getElem? hok
      obtain ⟨b, off, rfl, r0, r1⟩ := ho.at_ k o hok
      have hnm := ho.name o hom
      have hpo := (ho.ok o hom).mono hle
      obtain ⟨φ, hst⟩ := hN
      have q0 := hst.ro (roCell_mono hle r0)
      have q1 := hst.ro (roCell_mono hle r1)
      have hnext := newOffs_take os k o hok
      obtain ⟨nm, p⟩ := o
      simp only [addOff] at hnext
      simp only at q0 q1 hnm hpo
      obtain ⟨b7, hb7⟩ : ∃ b7, b7 = wr.heap.size := ⟨_, rfl⟩
      have h5 := hst.alloc (.cells #[.string nm, p.val] 57)
      rw [← hb7] at h5
      have cF := fun (v : World) (hv : St W v J ((b7, .cells #[.string nm, p.val] 57 (0, 0)) :: (φ.L' g m es 0 ++ F))) => fold_any (t.more hle) nm (by omega) hv
      have cN := fun (v : World) (hv : St W v J ((b7, .cells #[.string nm, p.val] 57 (0, 0)) :: (φ.L' g m es 0 ++ F))) => name_any (t.more hle) nm (by omega) hv
      have cB := fun (v : World) (hv : St W v J ((b7, .cells #[.string nm, p.val] 57 (0, 0)) :: (φ.L' g m es 0 ++ F))) => clone_bytes p hpo.in_ (by have := hpo.len; omega) hv
      have facts : ∀ (v : World), St W v J ((b7, .cells #[.string nm, p.val] 57 (0, 0)) :: (φ.L' g m es 0 ++ F)) → v.cell? ⟨b7, 0, none⟩ = some (.string nm) ∧ v.cell? ⟨b7, 1, none⟩ = some (.slice p.A p.bs.length p.c) ∧ v.cell? ⟨g, 0, none⟩ = some (.map (some m)) ∧ v.heap[m]? = some (mapObj (es.map ev)) := fun v hv =>
        ⟨hv.cell (g := b7) (cs := #[.string nm, p.val]) (t := 57) (fr := (0, 0)) (by simp) 0, hv.cell (g := b7) (cs := #[.string nm, p.val]) (t := 57) (fr := (0, 0)) (by simp) 1, (net_cells φ (St.weaken (A := [_]) hv)).1, (net_cells φ (St.weaken (A := [_]) hv)).2.2.2.1⟩
      generalize hfo : foldOf nm = fo at *
      have HFO := Lib.hid hfo
      have CF := Lib.hid cF; have CN := Lib.hid cN; have CB := Lib.hid cB; have FACTS := Lib.hid facts; have H5 := Lib.hid h5; have HB7 := Lib.hid hb7; have HNX := Lib.hid hnext; have HES := Lib.hid hes; have HOF := Lib.hid hof; have HPO := Lib.hid hpo
      have HLE := Lib.hid hle; have HO := Lib.hid ho
      unfold Part.val at q1
      clear hfo cF cN cB facts h5 hnext hes hof hpo hst r0 r1 ho hom hok hle
      go_wp2_with fail
      rw [← hb7]
      clear hb7
      refine (CF.out _ H5.out).mono ?_
      rintro e w2 ⟨rfl, h6⟩
      obtain ⟨d0, d1, dg, dm⟩ := FACTS.out _ h6
      have hlk0 := run_lookup_map (P := Tryd.prog) Tryd.underlying99 Tryd.underlying9 dm (Tryd.zeroValue27 w2) ⟨fo.toArray⟩ true
      rw [look_ev] at hlk0
      have H6 := Lib.hid h6
      clear h6 H5 CF dm
      cases hlp : lookP es ⟨fo.toArray⟩ with
      | some p1 =>
        have hlk : (Instr.lookup 99 (.map (some m)) (.string ⟨fo.toArray⟩) true).run Tryd.prog w2 = .ok (.tuple #[.slice p1.A p1.bs.length p1.c, .bool true]) w2 := by rw [hlk0, hlp]; rfl
        have hsame : newOffs (os.take (k + 1)) = newOffs (os.take k) := by
          rw [HNX.out, ← HES.out, lookB_eb, hlp]
          simp
        have HS := Lib.hid hsame
        clear hlk0 hsame hlp
        go_wp2_with fail
        go_roundw
        case rel => exact ⟨k + 1, J, es, by omega, by go_num, HLE.out, ⟨φ, St.weaken (A := [_]) H6.out⟩, HOF.out, by rw [HS.out]; exact HES.out⟩
        case measure => simp [intOf]; omega
      | none =>
        have hlk : (Instr.lookup 99 (.map (some m)) (.string ⟨fo.toArray⟩) true).run Tryd.prog w2 = .ok (.tuple #[.slice none 0 0, .bool false]) w2 := by rw [hlk0, hlp]; rfl
        have hno : look (es.map ev) ⟨fo.toArray⟩ = none := by rw [look_ev, hlp]; rfl
        have HNO := Lib.hid hno; have HLP := Lib.hid hlp
        clear hlk0 hno hlp
        go_wp2_with fail
        refine (CN.out _ H6.out).mono ?_
        rintro e w3 ⟨rfl, h7⟩
        obtain ⟨d30, d31, d3g, d3m⟩ := FACTS.out _ h7
        have H7 := Lib.hid h7
        clear h7 H6 CN hlk d0 d1 dg
        cases hok : nameOk nm with
        | false =>
          have hsame : newOffs (os.take (k + 1)) = newOffs (os.take k) := by
            rw [HNX.out, hok]
            simp
          have HS := Lib.hid hsame
          clear hsame hok
          go_wp2_with fail
          go_roundw
          case rel => exact ⟨k + 1, J, es, by omega, by go_num, HLE.out, ⟨φ, St.weaken (A := [_]) H7.out⟩, HOF.out, by rw [HS.out]; exact HES.out⟩
          case measure => simp [intOf]; omega
        | true =>
          have hmore : newOffs (os.take (k + 1)) = es.map eb ++ [(⟨fo.toArray⟩, p.bs)] := by
            rw [HNX.out, ← HES.out, lookB_eb, HLP.out, hok]
            simp
          have HS := Lib.hid hmore
          clear hmore hok d3m
          have hput : ∀ (w4 : World) (Lr : List (Nat × Obj)) (o' : Obj), St W w4 J (Lr ++ ((b7, .cells #[.string nm, p.val] 57 (0, 0)) :: (φ.L' g m es 0 ++ F))) → St W (World.setB w4 m o') J ((m, o') :: (Lr ++ ((b7, .cells #[.string nm, p.val] 57 (0, 0)) :: (g, .cells #[.map (some m), .slice φ.A fs.length φ.c, .int .i64 ((0 : Nat) : Int)] 104 (0, 0)) :: (φ.L ++ F)))) := fun w4 Lr o' hh => by
            refine St.setB (o := mapObj (es.map ev)) (hh.perm ?_)
            refine (List.Perm.append_left Lr (List.Perm.cons _ (List.Perm.swap _ _ _))).trans ?_
            refine (List.Perm.append_left Lr (List.Perm.swap _ _ _)).trans ?_
            exact List.perm_middle
          have hpc : ∀ (w4 : World) (Lr : List (Nat × Obj)) (o' : Obj), St W w4 J (Lr ++ ((b7, .cells #[.string nm, p.val] 57 (0, 0)) :: (φ.L' g m es 0 ++ F))) → (World.setB w4 m o').cell? ⟨b7, 1, none⟩ = some (.slice p.A p.bs.length p.c) ∧ (World.setB w4 m o').cell? ⟨g, 0, none⟩ = some (.map (some m)) := fun w4 Lr o' hh =>
            ⟨(hput w4 Lr o' hh).cell (g := b7) (cs := #[.string nm, p.val]) (t := 57) (fr := (0, 0)) (by simp) 1, (hput w4 Lr o' hh).cell (g := g) (cs := #[.map (some m), .slice φ.A fs.length φ.c, .int .i64 ((0 : Nat) : Int)]) (t := 104) (fr := (0, 0)) (by simp) 0⟩
          have HPUT := Lib.hid hput; have HPC := Lib.hid hpc
          clear hput hpc
          go_wp2_with fail
          go_region_held3 (fun w' => w'.cell? ⟨b7, 1, none⟩ = some (.slice p.A p.bs.length p.c) ∧ w'.cell? ⟨g, 0, none⟩ = some (.map (some m))) (first | exact ⟨d31, d3g⟩ | assumption) (
            (go_at_call 33; refine (CB.out _ (by first | exact H7.out.drew _ | exact H7.out)).mono ?_; rintro e w4 ⟨v, rfl, A2, c2, Lr, rfl, hr4, h8⟩; have h8f := FACTS.out w4 (St.weaken h8); have S4 : w4.cell? ⟨b7, 1, none⟩ = some (.slice p.A p.bs.length p.c) ∧ w4.cell? ⟨g, 0, none⟩ = some (.map (some m)) := ⟨h8f.2.1, h8f.2.2.1⟩; have S5 := HPC.out w4 Lr (mapObj (es.map ev ++ [(⟨fo.toArray⟩, .slice A2 p.bs.length c2)])) h8; have hup := run_mapUpdate_new (P := Tryd.prog) Tryd.underlying99 Tryd.underlying9 h8f.2.2.2 ⟨fo.toArray⟩ (.slice A2 p.bs.length c2) HNO.out))
          have h9 := HPUT.out w4 Lr (mapObj (es.map ev ++ [(⟨fo.toArray⟩, .slice A2 p.bs.length c2)])) h8
          have h10 := St.mid (A := [(m, _)]) (B := Lr) h9 |> fun _ => h9.perm (List.perm_middle.symm : ((m, mapObj (es.map ev ++ [(⟨fo.toArray⟩, Value.slice A2 p.bs.length c2)])) :: (Lr ++ ((b7, .cells #[.string nm, p.val] 57 (0, 0)) :: (g, .cells #[.map (some m), .slice φ.A fs.length φ.c, .int .i64 ((0 : Nat) : Int)] 104 (0, 0)) :: (φ.L ++ F)))).Perm (Lr ++ ((m, mapObj (es.map ev ++ [(⟨fo.toArray⟩, Value.slice A2 p.bs.length c2)])) :: (b7, .cells #[.string nm, p.val] 57 (0, 0)) :: (g, .cells #[.map (some m), .slice φ.A fs.length φ.c, .int .i64 ((0 : Nat) : Int)] 104 (0, 0)) :: (φ.L ++ F))))
          obtain ⟨J', hle', h11, hpo'⟩ := row_freeze hr4 HPO.out.len h10
          have h12 : NetSt W (World.setB w4 m (mapObj (es.map ev ++ [(⟨fo.toArray⟩, .slice A2 p.bs.length c2)]))) J' g m (es ++ [(⟨fo.toArray⟩, ⟨A2, c2, p.bs⟩)]) fs 0 F := by
            refine ⟨⟨φ.A, φ.c, φ.L, φ.row⟩, ?_⟩
            have h13 := St.weaken (A := [_]) (h11.perm (List.Perm.swap _ _ _))
            refine (h13.perm (List.Perm.swap _ _ _)).perm ?_
            simp only [NetF.L', netL, List.map_append, List.map_cons, List.map_nil, ev, Part.val]
            exact List.Perm.refl _
          have hof2 : Offs W J' (es ++ [(⟨fo.toArray⟩, ⟨A2, c2, p.bs⟩)]) := fun e he => by
            rcases List.mem_append.1 he with he | he
            · exact (HOF.out e he).mono hle'
            · simp at he; subst he; exact hpo'
          have H12 := Lib.hid h12; have HOF2 := Lib.hid hof2; have HLE2 := Lib.hid (HLE.out.trans hle')
          clear h12 hof2 h11 h10 h9 h8 hr4 h8f S4 S5 hup
          go_wp2_with fail
          go_roundw
          case rel => exact ⟨k + 1, J', _, by omega, by go_num, HLE2.out, H12.out, HOF2.out, by rw [HS.out, List.map_append]; rfl⟩
          case measure => simp [intOf]; omega
    · obtain rfl : k = os.length := by omega
      rw [List.take_of_length_le (Nat.le_refl _)] at hes
      have HN := Lib.hid hN
      clear hN
      go_wp2_with fail
      go_ret
      exact ⟨J, g, m, es, hle, rfl, HN.out, hof, hes⟩
end

section
set_option linter.unusedVariables false
set_option linter.unusedSimpArgs false
open Go.RowKit

section
variable {W w : World} {J : Nat → Option Obj} {g m : Nat} {es : List (ByteArray × Part)} {fs : List Fault} {cnt : Nat} {F : List (Nat × Obj)}
theorem NetSt.out (h : NetSt W w J g m es fs cnt F) : St W w J F := by
  obtain ⟨φ, h⟩ := h
  exact h.weaken
theorem FreshN.net {bs : List UInt8} {v : Value} (h : FreshN W w J g m es fs cnt F bs v) : ∃ L, NetSt W w J g m es fs cnt (L ++ F) := by
  obtain ⟨A, c, L, rfl, hr, h⟩ := h
  exact ⟨L, h⟩
theorem NetSt.drop {L : List (Nat × Obj)} (h : NetSt W w J g m es fs cnt (L ++ F)) : NetSt W w J g m es fs cnt F := by
  obtain ⟨φ, h⟩ := h
  exact ⟨φ, St.mid h⟩
theorem NetSt.drew (h : NetSt W w J g m es fs cnt F) (n : Nat) : NetSt W (w.drewN n) J g m es fs cnt F := by
  obtain ⟨φ, h⟩ := h
  exact ⟨φ, h.drew n⟩
/-- The text that fresh bytes are. -/
theorem fresh_str {A : Option Addr} {c : Nat} {bs : List UInt8} {Lr L : List (Nat × Obj)} (hr : Row 5 1 (.slice A bs.length c) bs.length (bs.map bval) Lr) (h : St W w J L) (hs : ∀ p ∈ Lr, p ∈ L) :
    (convert 27 9 (.slice A bs.length c)).run Tryd.prog w = .ok (.string ⟨bs.toArray⟩) w :=
  conv_str Tryd.underlying27 Tryd.underlying5 Tryd.underlying9 (Row.src hr (fun p hp => h.own p (hs p hp)))
theorem roCell_of {b i : Nat} {cs : Array Value} {ty : TypeId} {fr : Nat × Nat} (hg : J b = some (.cells cs ty fr)) : roCell J ⟨b, i, none⟩ = cs[i]? := by
  simp [roCell, hg]
theorem lit_part {gb : Nat} {fr : Nat × Nat} {bs : List UInt8} (hl : bs.length ≤ 1000000000) (hg : J gb = some (.cells (bcells bs) 5 fr)) : POk ⟨some ⟨gb, 0, none⟩, bs.length, bs⟩ W J := by
  refine ⟨fun w L hst => ⟨by simp, fun j u hj => ⟨_, rfl, ?_⟩⟩, Nat.le_refl _, by show bs.length ≤ _; unfold maxLen; omega, hl⟩
  rw [show (⟨gb, 0, none⟩ : Addr).add j = ⟨gb, j, none⟩ by unfold Addr.add; split <;> simp_all]
  rw [cell_of_row w gb j _ _ _ (hst.imm _ _ hg)]
  simpa [bcells] using hj
theorem lit_faults {gb : Nat} {fr : Nat × Nat} {fs : List Fault} (hg : J gb = some (.cells (fall fs).toArray 102 fr)) : FIn (some ⟨gb, 0, none⟩) fs W J := by
  intro w L hst
  refine ⟨fall_len fs, fun j u hj => ⟨_, rfl, ?_⟩⟩
  rw [show (⟨gb, 0, none⟩ : Addr).add j = ⟨gb, j, none⟩ by unfold Addr.add; split <;> simp_all]
  rw [cell_of_row w gb j _ _ _ (hst.imm _ _ hg)]
  simpa using hj
theorem one_offer {k : ByteArray} {b : List UInt8} (h : es.map eb = [(k, b)]) : ∃ p, es = [(k, p)] ∧ p.bs = b := by
  match es, h with
  | [(k', p)], h =>
    simp [eb] at h
    exact ⟨p, by rw [h.1], h.2⟩
end

theorem fold_a : foldOf ⟨#[97]⟩ = [97] := by kernel_rfl
theorem fold_A : foldOf ⟨#[65]⟩ = [97] := by kernel_rfl
theorem name_a : nameOk ⟨#[97]⟩ = true := by kernel_rfl
end
end Go.Proofs.YtnhlpiomfljlcaaDoor
