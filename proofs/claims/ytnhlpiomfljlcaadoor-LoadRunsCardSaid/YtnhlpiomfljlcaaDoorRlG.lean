/- The document's loader: its step whole; new ones; side by side with the loader. -/
import Derived.Test.YtnhlpiomfljlcaaDoorRlF
import Derived.Test.YtnhlpiomfljlcaaDoorLdT
namespace Go.Proofs.YtnhlpiomfljlcaaDoor
set_option linter.unusedVariables false
set_option linter.unusedSimpArgs false
open Go.RowKit Go.Lib Go.Deep

def key (o : ByteArray × Part) : ByteArray × List UInt8 := (⟨(foldOf o.1).toArray⟩, o.2.bs)
theorem key_eq (a b : List UInt8) : ((⟨a.toArray⟩ : ByteArray) = ⟨b.toArray⟩) ↔ a = b := by
  constructor
  · intro h
    have h1 : a.toArray = b.toArray := by injection h
    exact Array.toList_inj.2 h1 |> fun h2 => by simpa using h2
  · rintro rfl; rfl
theorem lookB_find (nm : ByteArray) : ∀ (ros : List (ByteArray × Part)) (k : Nat), (findFrom nm ros k = -1 ∧ lookB (ros.map key) ⟨(foldOf nm).toArray⟩ = none) ∨ ∃ j o, findFrom nm ros k = ((k + j : Nat) : Int) ∧ ros[j]? = some o ∧ lookB (ros.map key) ⟨(foldOf nm).toArray⟩ = some o.2.bs
  | [], k => .inl ⟨rfl, rfl⟩
  | o :: ros, k => by
    simp only [findFrom, List.map_cons, key, lookB]
    by_cases h : foldOf o.1 = foldOf nm
    · rw [if_pos h, if_pos ((key_eq _ _).2 h.symm)]
      exact .inr ⟨0, o, rfl, rfl, rfl⟩
    · rw [if_neg h, if_neg (fun h2 => h ((key_eq _ _).1 h2).symm)]
      rcases lookB_find nm ros (k + 1) with ⟨h1, h2⟩ | ⟨j, o', h1, h2, h3⟩
      · exact .inl ⟨h1, h2⟩
      · exact .inr ⟨j + 1, o', by rw [h1]; congr 1; omega, by simpa using h2, h3⟩
theorem addOff_key (acc : List (ByteArray × Part)) (o : ByteArray × Part) : addOff (acc.map key) o = (addR acc o).map key := by
  unfold addOff addR findIx
  rcases lookB_find o.1 acc 0 with ⟨h1, h2⟩ | ⟨j, o', h1, h2, h3⟩
  · rw [h1, h2]
    cases nameOk o.1 with
    | true => simp [key]
    | false => simp
  · rw [h1, h3]
    have h4 : ¬ ((j : Int) < 0) := by omega
    rw [Nat.zero_add]
    simp [h4]
theorem newOffs_key (os : List (ByteArray × Part)) : newOffs os = (rOffs os).map key := by
  have : ∀ (l acc : List (ByteArray × Part)), l.foldl addOff (acc.map key) = (l.foldl addR acc).map key := by
    intro l
    induction l with
    | nil => intro acc; rfl
    | cons o l ih => intro acc; simp only [List.foldl_cons]; rw [addOff_key, ih]
  exact this os []
/-- What both find. -/
theorem find_both {es : List (ByteArray × Part)} {os : List (ByteArray × Part)} (h : es.map eb = newOffs os) (nm : ByteArray) :
    (findIx (rOffs os) nm = -1 ∧ lookP es ⟨(foldOf nm).toArray⟩ = none) ∨ ∃ (j : Nat) (onm : ByteArray) (q p : Part), findIx (rOffs os) nm = (j : Int) ∧ (rOffs os)[j]? = some (onm, q) ∧ lookP es ⟨(foldOf nm).toArray⟩ = some p ∧ q.bs = p.bs := by
  rw [newOffs_key] at h
  have hl := lookB_eb es ⟨(foldOf nm).toArray⟩
  rw [h] at hl
  rcases lookB_find nm (rOffs os) 0 with ⟨h1, h2⟩ | ⟨j, o', h1, h2, h3⟩
  · rw [h2] at hl
    refine .inl ⟨h1, ?_⟩
    cases hp : lookP es ⟨(foldOf nm).toArray⟩ with
    | none => rfl
    | some p => rw [hp] at hl; cases hl
  · rw [h3] at hl
    cases hp : lookP es ⟨(foldOf nm).toArray⟩ with
    | none => rw [hp] at hl; cases hl
    | some p =>
      rw [hp] at hl
      injection hl with hl
      exact .inr ⟨j, o'.1, o'.2, p, by unfold findIx; rw [h1, Nat.zero_add], h2, rfl, hl⟩

theorem offers_freeze {W w : World} {I : Nat → Option Obj} {F Lr : List (Nat × Obj)} {A : Option Addr} {c : Nat} {l : List (ByteArray × Part)} (hr : Row 57 2 (.slice A l.length c) l.length (oall l) Lr) (hn : ∀ o ∈ l, o.1.size ≤ 1000000) (hp : ∀ o ∈ l, POk o.2 W I) (h : St W w I (Lr ++ F)) : ∃ J, Le I J ∧ St W w J F ∧ OffIn A l W J := by
  obtain ⟨_, ⟨hv, h0, hL⟩ | ⟨gb, off, cap, cur, hv, rfl, hnc, hcm, hsz, hxs⟩⟩ := hr
  · subst hL
    have hb := List.eq_nil_of_length_eq_zero h0
    subst hb
    exact ⟨I, Le.refl _, h, fun k p hk => by simp at hk, hn, hp⟩
  · injection hv with h1 _ h2
    subst h1; subst h2
    obtain ⟨J, hle, hg, h'⟩ := St.freeze h
    refine ⟨J, hle, h', fun k o hk => ⟨gb, off, rfl, ?_⟩, hn, fun o ho => (hp o ho).mono hle⟩
    have hkl := (List.getElem?_eq_some_iff.1 hk).1
    have key : ∀ j, j < 2 → roCell J ⟨gb, off + (k * 2 + j), none⟩ = (ocell o)[j]? := fun j hj => by
      have h1 := oall_get l k j o hk hj
      rw [← hxs, List.getElem?_take_of_lt (by omega), List.getElem?_drop] at h1
      unfold roCell
      simp only [hg]
      simpa using h1
    exact ⟨key 0 (by omega), key 1 (by omega)⟩


section
variable {W w : World} {J : Nat → Option Obj} {b r : Nat} {A0 : Option Addr} {nr c0 : Nat} {name : ByteArray} {n : Nat} {q : LQ} {d : Dc} {F X Y : List (Nat × Obj)} {fs : List Fault} {cnt : Nat}
theorem fetched_plainX (bs : List UInt8) (a m : Int) : fetched bs (first []) a m = (piece bs a m, 0) := by simp [fetched, first]
theorem rl_step (tb : TB W J) (h : DocSt W w J b r A0 nr c0 name n q F) {o : Option (List UInt8)} (hF : FetAll W J r A0 nr c0 name o) (hfs : q.fs.length ≤ 1000000) (hcnt : q.cnt ≤ 1000000000) (hin : q.inn.length ≤ 1000) (hout : q.out.length ≤ 1000) (hbl : ∀ bs, o = some bs → bs.length ≤ 1000000000) :
    Calls Tryd.prog 28 #[.pointer (some ⟨b, 0, none⟩)] w (DsPost W J b r A0 nr c0 name n F (q.stepQ o n).1 (q.stepQ o n).2) := by
  by_cases he : q.err = 0
  · cases hq : q.inn with
    | cons t rest => rw [stepQ_told o he hq]; exact rs_told tb h he hq (by omega)
    | nil =>
      by_cases hc : q.wants = -2 ∨ n ≤ q.out.length
      · rw [stepQ_rest o he hq hc]; exact rs_rest h he hq hc
      · cases o with
        | none => rw [stepQ_none he hq hc]; exact rs_none tb h hF he hq hc hfs hcnt
        | some bs =>
          by_cases hx : (fetched bs (first q.fs) q.askQ.1 q.askQ.2).2 = 0
          · rw [stepQ_sent bs he hq hc hx]; exact rs_sent tb h hF he hq hc hfs hcnt hout (hbl bs rfl) hx
          · rw [stepQ_lost bs he hq hc hx]; exact rs_lost tb h hF he hq hc hfs hcnt hx
  · rw [stepQ_err o he]; exact rs_err h he
theorem fet_of (t : TB W J) {es os : List (ByteArray × Part)} (hes : es.map eb = newOffs os) (ho : OffIn A0 (rOffs os) W J) (hl : (rOffs os).length ≤ 100000) (hm : name.size ≤ 1000000) : FetAll W J r A0 (rOffs os).length c0 name ((offOf es name).map (·.bs)) := by
  intro J' hle v F fs cnt a n hfs hcnt hv
  have ho' : OffIn A0 (rOffs os) W J' := ⟨fun k o hk => by
    obtain ⟨b, off, e1, e2, e3⟩ := ho.at_ k o hk
    exact ⟨b, off, e1, roCell_mono hle e2, roCell_mono hle e3⟩, ho.name, fun o hx => (ho.ok o hx).mono hle⟩
  rcases find_both hes name with ⟨h1, h2⟩ | ⟨j, onm, q, p, h1, h2, h3, h4⟩
  · have e : offOf es name = none := h2
    rw [e]
    exact rfetch_none (t.more hle) ho' hl name hm a n (by omega) hv
  · have e : offOf es name = some p := h3
    rw [e]
    cases fs with
    | nil =>
      have hk := rfetch_no (t.more hle) ho' hl name hm a n j q onm h1 h2 hcnt hv
      rw [h4] at hk
      simp only [Option.map_some, fetched_plainX, List.tail_nil]
      exact hk
    | cons f rest =>
      have hk := rfetch_yes (t.more hle) ho' hl name hm a n j q onm h1 h2 hcnt f rest (by simp at hfs; omega) hv
      rw [h4] at hk
      exact hk
def dc0 (r : Nat) (name : ByteArray) (tries : Int) (room : Nat) : Dc := ⟨r, name, triesOf tries, none, 0, [], room, none, 0, [], false, 0, zman, -1, 0⟩
set_option maxRecDepth 100000 in
theorem run_build_dc (r : Nat) (name : ByteArray) (left : Nat) (room : Nat) (w : World) : (Instr.build 87 #[(0, .pointer (some ⟨r, 0, none⟩)), (1, .string name), (2, .int .i64 left), (4, .int .i64 room), (9, .int .i64 (-1))]).run Tryd.prog w = .ok (.agg (⟨r, name, left, none, 0, [], room, none, 0, [], false, 0, zman, -1, 0⟩ : Dc).cells) w := run_build w _ _ _ (by kernel_rfl)
set_option maxRecDepth 100000 in
set_option maxHeartbeats 4000000 in
theorem rl_new (name : ByteArray) (tries : Int) (room : Nat) (h : St W w J X) : Calls Tryd.prog 25 #[.pointer (some ⟨r, 0, none⟩), .string name, .int .i64 tries, .int .i64 room] w fun e w' => ∃ b, e = .returned (.pointer (some ⟨b, 0, none⟩)) ∧ St W w' J (dcB b (dc0 r name tries room) :: X) := by
  have hb := run_build_dc r name (triesOf tries) room
  have h1 := h.alloc (.cells (dc0 r name tries room).cells 87)
  have hcells : (⟨r, name, triesOf tries, none, 0, [], room, none, 0, [], false, 0, zman, -1, 0⟩ : Dc).cells = (dc0 r name tries room).cells := rfl
  rw [hcells] at hb
  obtain ⟨C, hC⟩ : ∃ C, (dc0 r name tries room).cells = C := ⟨_, rfl⟩
  rw [hC] at hb h1
  have H1 := Lib.hid h1; have HC := Lib.hid hC
  have hend : ∀ v b', St W v J ((b', .cells C 87 (0, 0)) :: X) → ∃ b, Ending.returned (.pointer (some ⟨b', 0, none⟩)) = .returned (.pointer (some ⟨b, 0, none⟩)) ∧ St W v J (dcB b (dc0 r name tries room) :: X) := fun v b' hv => ⟨b', rfl, by rw [← HC.out] at hv; exact hv⟩
  have HEND := Lib.hid hend
  by_cases t0 : tries < 0
  · have e : ((triesOf tries : Nat) : Int) = 0 := by unfold triesOf; omega
    rw [e] at hb
    have HB := Lib.hid hb
    clear h h1 hcells hb hC hend e
    go_enter Tryd.func25, Tryd.ntmps25
    go_wp2_with (with_reducible refine wpList_build_go rfl 87 _ rfl _ ?_ (HB.out _) ?_; · go_simp)
    go_ret
    exact HEND.out _ _ H1.out
  · by_cases t1 : 100 < tries
    · have e : ((triesOf tries : Nat) : Int) = 100 := by unfold triesOf; omega
      rw [e] at hb
      have HB := Lib.hid hb
      clear h h1 hcells hb hC hend e
      go_enter Tryd.func25, Tryd.ntmps25
      go_wp2_with (with_reducible refine wpList_build_go rfl 87 _ rfl _ ?_ (HB.out _) ?_; · go_simp)
      go_ret
      exact HEND.out _ _ H1.out
    · have e : ((triesOf tries : Nat) : Int) = tries := by unfold triesOf; omega
      rw [e] at hb
      have HB := Lib.hid hb
      clear h h1 hcells hb hC hend e
      go_enter Tryd.func25, Tryd.ntmps25
      go_wp2_with (with_reducible refine wpList_build_go rfl 87 _ rfl _ ?_ (HB.out _) ?_; · go_simp)
      go_ret
      exact HEND.out _ _ H1.out
set_option maxRecDepth 100000 in
set_option maxHeartbeats 2000000 in
theorem new17 (room : Int) (h : St W w J X) : Calls Tryd.prog 26 #[.int .i64 room] w fun e w' => ∃ b, e = .returned (.pointer (some ⟨b, 0, none⟩)) ∧ St W w' J ((b, .cells #[.int .i64 (roomOf room), .slice none 0 0, .bool false] 81 (0, 0)) :: X) := by
  have h1 := h.alloc (.cells #[.int .i64 (roomOf room), .slice none 0 0, .bool false] 81)
  by_cases t0 : room < 1
  · have e : ((roomOf room : Nat) : Int) = 1 := by unfold roomOf; omega
    rw [e] at h1 ⊢
    have H1 := Lib.hid h1
    clear h h1 e
    go_enter Tryd.func26, Tryd.ntmps26
    go_wp2_with fail
    go_ret
    exact ⟨_, rfl, H1.out⟩
  · by_cases t1 : 16 < room
    · have e : ((roomOf room : Nat) : Int) = 16 := by unfold roomOf; omega
      rw [e] at h1 ⊢
      have H1 := Lib.hid h1
      clear h h1 e
      go_enter Tryd.func26, Tryd.ntmps26
      go_wp2_with fail
      go_ret
      exact ⟨_, rfl, H1.out⟩
    · have e : ((roomOf room : Nat) : Int) = room := by unfold roomOf; omega
      rw [e] at h1 ⊢
      have H1 := Lib.hid h1
      clear h h1 e
      go_enter Tryd.func26, Tryd.ntmps26
      go_wp2_with fail
      go_ret
      exact ⟨_, rfl, H1.out⟩
end
/-- The loader's own blocks, by themselves. -/
def LdL (W : World) (J : Nat → Option Obj) (g gn m : Nat) (es : List (ByteArray × Part)) (name : ByteArray) (ro ri n ni : Nat) (q : LQ) (LL : List (Nat × Obj)) : Prop :=
  ∃ (l : Lder) (ρo : Qing) (ρi : Ring), LdIs W J gn es name ro ri n q l ρo ρi ∧ ρi.n = ni ∧ ∃ φ : NetF q.fs, LL = φ.L' gn m es q.cnt ++ (ldG g l :: (ldO ρo ++ ldI ρi))
/-- The document's blocks, by themselves. -/
def DocL (W : World) (J : Nat → Option Obj) (b r : Nat) (A0 : Option Addr) (nr c0 : Nat) (name : ByteArray) (n : Nat) (q : LQ) (DL : List (Nat × Obj)) : Prop :=
  ∃ (d : Dc) (LO LI : List (Nat × Obj)) (A1 : Option Addr) (c1 : Nat) (L1 : List (Nat × Obj)), DcIs W J r name n q d ∧ Row 37 2 (.slice d.OA d.ps.length d.oc) d.ps.length (pall d.ps) LO ∧ Row 71 41 (.slice d.IA d.ts.length d.ic) d.ts.length (tall d.ts) LI ∧ Row 102 3 (.slice A1 q.fs.length c1) q.fs.length (fall q.fs) L1 ∧
    DL = (r, .cells (rcells A0 nr c0 A1 q.fs.length c1 q.cnt) 90 (0, 0)) :: (L1 ++ (dcB b d :: (LO ++ LI)))
section
variable {W w : World} {J J' : Nat → Option Obj} {g gn m : Nat} {es : List (ByteArray × Part)} {name : ByteArray} {ro ri n ni : Nat} {q : LQ} {b r : Nat} {A0 : Option Addr} {nr c0 : Nat} {F LL DL G : List (Nat × Obj)}
theorem LdSt.opens (h : LdSt W w J g gn m es name ro ri n ni q F) : ∃ LL, LdL W J g gn m es name ro ri n ni q LL ∧ St W w J (LL ++ F) := by
  obtain ⟨l, ρo, ρi, hi, hni, φ, hs⟩ := h
  exact ⟨_, ⟨l, ρo, ρi, hi, hni, φ, rfl⟩, by simpa [List.append_assoc] using hs⟩
theorem LdL.st (h : LdL W J g gn m es name ro ri n ni q LL) (hs : St W w J (LL ++ F)) : LdSt W w J g gn m es name ro ri n ni q F := by
  obtain ⟨l, ρo, ρi, hi, hni, φ, rfl⟩ := h
  exact ⟨l, ρo, ρi, hi, hni, φ, by simpa [List.append_assoc] using hs⟩
theorem Lder.Ok.more {l : Lder} (h : l.Ok J) (hle : Le J J') : l.Ok J' := ⟨h.left, fun k hk => (h.known k hk).mono hle, h.wants⟩
theorem OutIs.more {xs : List Pc} {out : List (Int × List UInt8)} (h : OutIs W J xs out) (hle : Le J J') : OutIs W J' xs out := by
  obtain ⟨ps, h1, h2, h3⟩ := h
  exact ⟨ps, h1, h2, fun x hx => (h3 x hx).mono hle⟩
theorem LdL.more (h : LdL W J g gn m es name ro ri n ni q LL) (hle : Le J J') : LdL W J' g gn m es name ro ri n ni q LL := by
  obtain ⟨l, ρo, ρi, hi, hni, φ, rfl⟩ := h
  exact ⟨l, ρo, ρi, { hi with ok := hi.ok.more hle, out := hi.out.more hle, offs := hi.offs.mono hle, tb := hi.tb.more hle }, hni, φ, rfl⟩
theorem DocSt.opens (h : DocSt W w J b r A0 nr c0 name n q F) : ∃ DL, DocL W J b r A0 nr c0 name n q DL ∧ St W w J (DL ++ F) := by
  obtain ⟨d, LO, LI, hi, h1, h2, A1, c1, L1, h3, hs⟩ := h
  exact ⟨_, ⟨d, LO, LI, A1, c1, L1, hi, h1, h2, h3, rfl⟩, by simpa [List.append_assoc] using hs⟩
theorem DocL.st (h : DocL W J b r A0 nr c0 name n q DL) (hs : St W w J (DL ++ F)) : DocSt W w J b r A0 nr c0 name n q F := by
  obtain ⟨d, LO, LI, A1, c1, L1, hi, h1, h2, h3, rfl⟩ := h
  exact ⟨d, LO, LI, hi, h1, h2, A1, c1, L1, h3, by simpa [List.append_assoc] using hs⟩
theorem DocL.more (h : DocL W J b r A0 nr c0 name n q DL) (hle : Le J J') : DocL W J' b r A0 nr c0 name n q DL := by
  obtain ⟨d, LO, LI, A1, c1, L1, hi, h1, h2, h3, rfl⟩ := h
  exact ⟨d, LO, LI, A1, c1, L1, hi.more hle, h1, h2, h3, rfl⟩
theorem lq_faults (h : LdSt W w J g gn m es name ro ri n ni q F) : Calls Tryd.prog 29 #[.pointer (some ⟨gn, 0, none⟩)] w fun e w' => e = .returned (.int .i64 q.fs.length) ∧ w = w' := by
  obtain ⟨l, ρo, ρi, hi, hni, hs⟩ := h
  exact net_faults hs
theorem lq_more (h : LdSt W w J g gn m es name ro ri n ni q F) (A : Option Addr) (c : Nat) (l : List Fault) (hp : FIn A l W J) (hlen : q.fs.length + l.length ≤ 1000000) : Calls Tryd.prog 27 #[.pointer (some ⟨gn, 0, none⟩), .slice A l.length c] w fun e w' => e = .returned (.tuple #[]) ∧ LdSt W w' J g gn m es name ro ri n ni { q with fs := q.fs ++ l } F := by
  obtain ⟨l', ρo, ρi, hi, hni, hs⟩ := h
  exact (net_more A c l hp hlen hs).mono fun e w' ⟨he, h2⟩ => ⟨he, l', ρo, ρi, { hi with }, hni, h2⟩
theorem step_bounds (q : LQ) (o : Option (List UInt8)) (n : Nat) : (q.stepQ o n).2.fs.length ≤ q.fs.length ∧ (q.stepQ o n).2.cnt ≤ q.cnt + 1 := by
  by_cases he : q.err = 0
  · cases hd : (q.stepQ o n).1 with
    | true => have h := step_out q o n he hd; exact ⟨h.fs, h.c1⟩
    | false => rw [step_same q o n hd]; exact ⟨Nat.le_refl _, Nat.le_succ _⟩
  · rw [stepQ_err o he]; exact ⟨Nat.le_refl _, Nat.le_succ _⟩
theorem fold_set' : ∀ (xs : List Value) (k : Nat) (Z : Array Value), List.foldl (fun cs (x : Value × Nat) => cs.setIfInBounds x.snd x.fst) Z (xs.zipIdx k) = setMany Z k xs
  | [], _, _ => rfl
  | x :: xs, k, Z => by
    rw [List.zipIdx_cons, List.foldl_cons, fold_set' xs (k + 1)]
    rfl
theorem fold_fill' (X Z : Array Value) (n : Nat) (h : X.size = n) (hz : Z.size = n) : Array.foldl (fun cs (x : Value × Nat) => cs.setIfInBounds x.snd x.fst) Z X.zipIdx 0 n = X := by
  have e : Array.foldl (fun cs (x : Value × Nat) => cs.setIfInBounds x.snd x.fst) Z X.zipIdx 0 n = Array.foldl (fun cs (x : Value × Nat) => cs.setIfInBounds x.snd x.fst) Z X.zipIdx 0 X.zipIdx.size := by rw [Array.size_zipIdx, h]
  rw [e, ← Array.foldl_toList, Array.toList_zipIdx, fold_set', setMany_whole _ _ (by rw [Array.length_toList, h, hz]), Array.toArray_toList]
theorem St.srcT {W w : World} {I : Nat → Option Obj} {LL : List (Nat × Obj)} {b : Nat} {X : Array Value} (hX : X.size = 41) (h : St W w I LL) (hm : (b, Obj.cells X 71 (0, 0)) ∈ LL) : Src w 41 (some ⟨b, 0, none⟩) 1 X.toList :=
  (Row.whole 71 41 b 1 X (by rw [hX]) (by unfold maxLen; omega)).src (fun p hp => by
    simp only [List.mem_singleton] at hp
    subst hp
    exact h.own _ hm)
end
end Go.Proofs.YtnhlpiomfljlcaaDoor
