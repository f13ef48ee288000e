/- The document's loader and the loader as data: what belongs together. The document's loader: a step that is told something. -/
import Derived.Test.YtnhlpiomfljlcaaDoorRlAB
import Derived.OwnWalk
namespace Go.Proofs.YtnhlpiomfljlcaaDoor
section
set_option linter.unusedVariables false
set_option linter.unusedSimpArgs false
open Go.RowKit Go.Lib

structure DcIs (W : World) (J : Nat → Option Obj) (r : Nat) (name : ByteArray) (n : Nat) (q : LQ) (d : Dc) : Prop where
  r : d.r = r
  nm : d.name = name
  room : d.room = n
  left : d.left = q.left
  l100 : d.left ≤ 100
  wants : d.wants = q.wants
  err : d.err = q.err
  known : q.known = if d.known = true then some (d.head, d.m) else none
  mok : d.m.Ok
  mp : d.m.prod.size ≤ 1000000
  h0 : 0 ≤ d.head
  h1 : d.head ≤ 2304
  right : d.known = true → rightM d.m = true
  wi : q.wants = -2 ∨ (d.known = false ∧ q.wants = -1) ∨ (d.known = true ∧ 0 ≤ q.wants ∧ q.wants < d.m.n)
  out : q.out = d.ps.map fun x => (x.1, x.2.bs)
  pok : ∀ x ∈ d.ps, POk x.2 W J
  inn : q.inn = d.ts.map noteOf
  tok : ∀ t ∈ d.ts, t.m.Ok ∧ t.m.prod.size ≤ 1000000
theorem DcIs.more {W : World} {J J' : Nat → Option Obj} {r : Nat} {name : ByteArray} {n : Nat} {q : LQ} {d : Dc} (h : DcIs W J r name n q d) (hle : Le J J') : DcIs W J' r name n q d := { h with pok := fun x hx => (h.pok x hx).mono hle }
section
variable {W : World} {J : Nat → Option Obj} {r : Nat} {name : ByteArray} {n : Nat} {q : LQ} {d : Dc}
theorem DcIs.canq (h : DcIs W J r name n q d) {t : Tl} (k1 : t.kind = 1) : q.canQ t.at_ = d.againD t := by
  unfold LQ.canQ Dc.againD
  rw [h.known]
  cases d.known <;> simp [k1]
theorem follow_is (h : DcIs W J r name n q d) (t : Tl) (tok : t.m.Ok) (tp : t.m.prod.size ≤ 1000000) : DcIs W J r name n (q.followQ (noteOf t)) (d.followD t) := by
  unfold Dc.followD
  by_cases k1 : t.kind = 1
  · have hn : noteOf t = .again t.at_ := if_pos k1
    have hc := h.canq k1
    rw [hn]
    simp only [LQ.followQ]
    rw [hc]
    have hg : d.goD t = false := by simp [Dc.goD, k1]
    cases ha : d.againD t with
    | false => rw [if_neg (by decide), if_neg (by decide), hg, if_neg (by decide)]; exact { h with err := rfl }
    | true =>
      rw [if_pos rfl, if_pos rfl]
      by_cases hz : d.left = 0
      · rw [if_pos (h.left.symm.trans hz), if_pos hz]; exact { h with err := rfl }
      · rw [if_neg (fun x => hz (h.left.trans x)), if_neg hz]
        refine { h with left := by show d.left - 1 = q.left - 1; rw [h.left], l100 := by show d.left - 1 ≤ 100; have := h.l100; omega, wants := rfl, wi := ?_ }
        unfold Dc.againD at ha
        have hk := h.known
        cases hd : d.known with
        | false =>
          rw [hd] at ha
          simp [k1] at ha
          exact .inr (.inl ⟨rfl, ha⟩)
        | true =>
          rw [hd] at ha
          simp [k1] at ha
          exact .inr (.inr ⟨rfl, ha.1, ha.2⟩)
  · have ha : d.againD t = false := by simp [Dc.againD, k1]
    rw [ha, if_neg (by decide)]
    by_cases k2 : t.kind = 2
    · have hn : noteOf t = .go t.head t.m := by unfold noteOf; rw [if_neg k1, if_pos k2]
      rw [hn]
      simp only [LQ.followQ]
      by_cases hg : d.goD t = true
      · rw [if_pos hg]
        unfold Dc.goD at hg
        simp [k2] at hg
        obtain ⟨⟨⟨g1, g2⟩, g3⟩, g4⟩ := hg
        have hk : q.known = none := by rw [h.known, g1]; rfl
        rw [if_pos ⟨hk, g2, g3, g4⟩]
        obtain ⟨_, _, _, s1, _, c1, _, _, hn, _⟩ := (rightM_iff _).1 g2
        have hn1 := (cntM_span t.m.size t.m.chunk s1 (by omega)).1
        exact { h with known := rfl, mok := tok, mp := tp, h0 := g3, h1 := g4, right := fun _ => g2, wants := rfl, wi := .inr (.inr ⟨rfl, Int.le_refl 0, by show (0 : Int) < (t.m.n : Int); omega⟩) }
      · rw [if_neg hg]
        have hno : ¬ (q.known = none ∧ rightM t.m = true ∧ 0 ≤ t.head ∧ t.head ≤ 2304) := fun ⟨a1, a2, a3, a4⟩ => hg (by
          have hk : d.known = false := by
            cases hk : d.known with
            | false => rfl
            | true => rw [h.known, hk, if_pos rfl] at a1; cases a1
          simp [Dc.goD, k2, hk, a2, a3, a4])
        rw [if_neg hno]
        exact { h with err := rfl }
    · have hg : d.goD t = false := by simp [Dc.goD, k2]
      rw [hg, if_neg (by decide)]
      have hn : q.followQ (noteOf t) = { q with err := 192 } := by
        unfold noteOf; rw [if_neg k1, if_neg k2]; split <;> rfl
      rw [hn]
      exact { h with err := rfl }
end
/-- What the document's net brings. -/
def Fet (W : World) (J : Nat → Option Obj) (r : Nat) (A0 : Option Addr) (nr c0 : Nat) (name : ByteArray) (o : Option (List UInt8)) : Prop :=
  ∀ (v : World) (F : List (Nat × Obj)) (fs : List Fault) (cnt : Nat) (a n : Int), fs.length ≤ 1000000 → cnt ≤ 1000000000 → RNet W v J r A0 nr c0 fs cnt F →
    Calls Tryd.prog 53 #[.pointer (some ⟨r, 0, none⟩), .string name, .int .i64 a, .int .i64 n] v fun e w' => match o with
      | none => e = .returned (.tuple #[.slice none 0 0, .int .i64 182]) ∧ RNet W w' J r A0 nr c0 fs cnt F
      | some bs => ∃ u, e = .returned (.tuple #[u, .int .i64 (fetched bs (first fs) a n).2]) ∧ FreshR W w' J r A0 nr c0 fs.tail (cnt + 1) F (fetched bs (first fs) a n).1 u
def FetAll (W : World) (J : Nat → Option Obj) (r : Nat) (A0 : Option Addr) (nr c0 : Nat) (name : ByteArray) (o : Option (List UInt8)) : Prop := ∀ J', Le J J' → Fet W J' r A0 nr c0 name o
theorem FetAll.more {W : World} {J J' : Nat → Option Obj} {r : Nat} {A0 : Option Addr} {nr c0 : Nat} {name : ByteArray} {o : Option (List UInt8)} (h : FetAll W J r A0 nr c0 name o) (hle : Le J J') : FetAll W J' r A0 nr c0 name o := fun K hK => h K (hle.trans hK)
/-- The document's loader, its lists and its net in memory. -/
def DocSt (W w : World) (J : Nat → Option Obj) (b r : Nat) (A0 : Option Addr) (nr c0 : Nat) (name : ByteArray) (n : Nat) (q : LQ) (F : List (Nat × Obj)) : Prop :=
  ∃ (d : Dc) (LO LI : List (Nat × Obj)), DcIs W J r name n q d ∧ Row 37 2 (.slice d.OA d.ps.length d.oc) d.ps.length (pall d.ps) LO ∧ Row 71 41 (.slice d.IA d.ts.length d.ic) d.ts.length (tall d.ts) LI ∧ RNet W w J r A0 nr c0 q.fs q.cnt (dcB b d :: (LO ++ (LI ++ F)))
def DsPost (W : World) (J : Nat → Option Obj) (b r : Nat) (A0 : Option Addr) (nr c0 : Nat) (name : ByteArray) (n : Nat) (F : List (Nat × Obj)) (bo : Bool) (q' : LQ) (e : Ending) (w' : World) : Prop :=
  ∃ J', Le J J' ∧ e = .returned (.bool bo) ∧ DocSt W w' J' b r A0 nr c0 name n q' F
section
variable {W w : World} {J : Nat → Option Obj} {b r : Nat} {A0 : Option Addr} {nr c0 : Nat} {name : ByteArray} {n : Nat} {q : LQ} {d : Dc} {F X : List (Nat × Obj)} {fs : List Fault} {cnt : Nat}
theorem RNet.mem (h : RNet W w J r A0 nr c0 fs cnt X) : ∃ Y, St W w J Y ∧ ∀ p ∈ X, p ∈ Y := by
  obtain ⟨A1, c1, L1, _, hs⟩ := h
  exact ⟨_, hs, fun p hp => by simp [hp]⟩
/-- To the head, and back. -/
theorem RNet.head {P : Nat × Obj} (h : RNet W w J r A0 nr c0 fs cnt (P :: X)) : ∃ Y, St W w J (P :: Y) ∧ ∀ w' P', St W w' J (P' :: Y) → RNet W w' J r A0 nr c0 fs cnt (P' :: X) := by
  obtain ⟨A1, c1, L1, hr, hs⟩ := h
  refine ⟨(r, .cells (rcells A0 nr c0 A1 fs.length c1 cnt) 90 (0, 0)) :: (L1 ++ X), ?_, fun w' P' hw => ⟨A1, c1, L1, hr, ?_⟩⟩
  · have e := List.perm_middle (l₁ := (r, Obj.cells (rcells A0 nr c0 A1 fs.length c1 cnt) 90 (0, 0)) :: L1) (a := P) (l₂ := X)
    exact hs.perm e
  · have e := (List.perm_middle (l₁ := (r, Obj.cells (rcells A0 nr c0 A1 fs.length c1 cnt) 90 (0, 0)) :: L1) (a := P') (l₂ := X)).symm
    exact hw.perm e
set_option maxRecDepth 100000 in
set_option maxHeartbeats 2000000 in
/-- An error stays. -/
theorem rs_err (h : DocSt W w J b r A0 nr c0 name n q F) (he : q.err ≠ 0) : Calls Tryd.prog 28 #[.pointer (some ⟨b, 0, none⟩)] w (DsPost W J b r A0 nr c0 name n F false q) := by
  have hfin : DsPost W J b r A0 nr c0 name n F false q (.returned (.bool false)) w := ⟨J, Le.refl _, rfl, h⟩
  obtain ⟨d, LO, LI, hi, _, _, hn⟩ := h
  obtain ⟨Y, hY, hm⟩ := hn.mem
  obtain ⟨_, _, _, _, _, _, _, _, _, _, p46⟩ := dc_cells hi.mok hY (hm _ (List.mem_cons_self ..))
  rw [hi.err] at p46
  have hz : (q.err != 0) = true := by simpa using he
  have H := Lib.hid hfin
  clear hfin hn hY hi hm he
  go_enter Tryd.func28, Tryd.ntmps28
  go_wp2_with fail
  go_ret
  exact H.out
set_option maxRecDepth 100000 in
set_option maxHeartbeats 2000000 in
/-- Nothing to do. -/
theorem rs_rest (h : DocSt W w J b r A0 nr c0 name n q F) (he : q.err = 0) (hq : q.inn = []) (hc : q.wants = -2 ∨ n ≤ q.out.length) : Calls Tryd.prog 28 #[.pointer (some ⟨b, 0, none⟩)] w (DsPost W J b r A0 nr c0 name n F false q) := by
  have hfin : ∀ k, DsPost W J b r A0 nr c0 name n F false q (.returned (.bool false)) (w.drewN k) := fun k => by
    obtain ⟨d, LO, LI, h1, h2, h3, h4⟩ := h
    exact ⟨J, Le.refl _, rfl, d, LO, LI, h1, h2, h3, h4.drew k⟩
  obtain ⟨d, LO, LI, hi, _, _, hn⟩ := h
  obtain ⟨Y, hY, hm⟩ := hn.mem
  obtain ⟨_, _, _, p3, p4, p5, _, _, _, p45, p46⟩ := dc_cells hi.mok hY (hm _ (List.mem_cons_self ..))
  rw [hi.err, he] at p46
  rw [hi.wants] at p45
  rw [hi.room] at p4
  have ht : d.ts = [] := by have := hi.inn; rw [hq] at this; exact List.map_eq_nil_iff.1 this.symm
  rw [ht, List.length_nil] at p5
  have ho : q.out.length = d.ps.length := by rw [hi.out, List.length_map]
  rw [ho] at hc
  have H := Lib.hid hfin
  generalize d.ps.length = m at *
  clear hfin hn hY hi hm he ht ho
  by_cases hw : q.wants = -2
  · have b1 : (q.wants == -2) = true := by simpa using hw
    clear hc hw
    go_enter Tryd.func28, Tryd.ntmps28
    go_wp2_with fail
    go_quiet (fail)
    go_wp2_with fail
    go_ret
    exact H.out _
  · have b1 : (q.wants == -2) = false := by simpa using hw
    have b2 : decide ((n : Int) ≤ (m : Int)) = true := decide_eq_true (by have := hc.resolve_left hw; omega)
    have b3 : ¬ (m : Int) < (n : Int) := by have := hc.resolve_left hw; omega
    clear hc hw
    go_enter Tryd.func28, Tryd.ntmps28
    go_wp2_with fail
    go_quiet (fail)
    go_wp2_with fail
    go_ret
    exact H.out _
end
end

section
set_option linter.unusedVariables false
set_option linter.unusedSimpArgs false
open Go.RowKit Go.Lib Go.Deep

def subS (A : Option Addr) (c k s : Nat) : Option Addr := if c = k then A else A.map (·.add (k * s))
theorem run_slice_fromS {P : Program} {t e : TypeId} {s : Nat} (ht : P.underlying t = some (.slice e)) (hs : ∀ w, (sizeOf e).run P w = .ok s w) (A : Option Addr) (n c k : Nat) (hk : k ≤ n) (hc : n ≤ c) (w : World) :
    (Instr.slice t (.slice A n c) (some (.int .i64 (k : Int))) none none).run P w = .ok (.slice (subS A c k s) (n - k) (c - k)) w := by
  have h1 : (0 : Int) ≤ k ∧ (k : Int) ≤ n := by omega
  simp [Instr.slice, run_underlying ht, Instr.sliceBounds, Instr.sliceBound, asIntOf, h1, hs, subS]
  intro h2
  omega
theorem Src.dropS {w : World} {size : Nat} {A : Option Addr} {m : Nat} {news : List Value} (h : Src w size A m news) (c k : Nat) (hk : k ≤ m) (hc : m ≤ c) : Src w size (subS A c k size) (m - k) (news.drop (k * size)) := by
  refine ⟨by rw [List.length_drop, h.1, Nat.sub_mul], fun j u hj => ?_⟩
  rw [List.getElem?_drop] at hj
  obtain ⟨ad, h1, h2⟩ := h.2 _ u hj
  have hne : c ≠ k := by
    rintro rfl
    have h3 := (List.getElem?_eq_some_iff.1 hj).1
    have hm : m = c := by omega
    rw [h.1, hm] at h3
    omega
  refine ⟨ad.add (k * size), by unfold subS; rw [if_neg hne, h1]; rfl, ?_⟩
  rw [add_add]
  exact h2
theorem perm_count {α : Type} {l m : List α} (h : ∀ (_ : DecidableEq α) (a : α), l.count a = m.count a) : l.Perm m := by
  haveI : DecidableEq α := fun a b => Classical.propDecidable (a = b)
  exact List.perm_iff_count.2 fun a => h _ a
section
variable {W w : World} {J : Nat → Option Obj} {L M F X : List (Nat × Obj)} {b r : Nat} {A0 : Option Addr} {nr c0 : Nat} {name : ByteArray} {n : Nat} {q : LQ} {d : Dc}
/-- Some of the blocks, in whichever order. -/
theorem St.keep (D : List (Nat × Obj)) (h : St W w J L) (hc : ∀ (_ : DecidableEq (Nat × Obj)) (a : Nat × Obj), L.count a = D.count a + M.count a) : St W w J M :=
  St.weaken (A := D) (h.perm (perm_count fun i a => by rw [List.count_append]; exact hc i a))
theorem row_range {E : TypeId} {size m c g o : Nat} {xs : List Value} {LL : List (Nat × Obj)} (hr : Row E size (.slice (some ⟨g, o, none⟩) m c) m xs LL) (h : St W w J L) (hm : ∀ p ∈ LL, p ∈ L) (ys : Array Value) (hy : ∀ (j : Nat) (u : Value), ys.toList[j]? = some u → xs[j]? = some u) : w.rangeAt g o ys.toList := by
  intro j u hj
  obtain ⟨a, ha, hc⟩ := (hr.src (fun p hp => h.own p (hm p hp))).2 j u (hy j u hj)
  injection ha with ha
  subst ha
  rwa [show (⟨g, o, none⟩ : Addr).add j = ⟨g, o + j, none⟩ by unfold Addr.add; split <;> simp_all] at hc
theorem followD_keep (d : Dc) (t : Tl) : (d.followD t).OA = d.OA ∧ (d.followD t).oc = d.oc ∧ (d.followD t).ps = d.ps ∧ (d.followD t).IA = d.IA ∧ (d.followD t).ic = d.ic ∧ (d.followD t).ts = d.ts := by
  unfold Dc.followD
  split
  · split <;> exact ⟨rfl, rfl, rfl, rfl, rfl, rfl⟩
  · split <;> exact ⟨rfl, rfl, rfl, rfl, rfl, rfl⟩
def ztl : Tl := ⟨0, 0, 0, zman, ⟨none, 0, []⟩⟩
theorem ztl_lit : ztl.arr = (Value.int .i64 0 :: .int .i64 0 :: .int .i64 0 :: .string ⟨#[]⟩ :: .int .u64 0 :: .int .i64 0 :: .int .i64 0 :: .int .u8 0 :: .int .u8 0 :: .int .u8 0 :: .int .u8 0 :: .int .u8 0 :: .int .u8 0 :: .int .u8 0 :: .int .u8 0 :: .int .u8 0 :: .int .u8 0 :: .int .u8 0 :: .int .u8 0 :: .int .u8 0 :: .int .u8 0 :: .int .u8 0 :: .int .u8 0 :: .int .u8 0 :: .int .u8 0 :: .int .u8 0 :: .int .u8 0 :: .int .u8 0 :: .int .u8 0 :: .int .u8 0 :: .int .u8 0 :: .int .u8 0 :: .int .u8 0 :: .int .u8 0 :: .int .u8 0 :: .int .u8 0 :: .int .u8 0 :: .int .u8 0 :: .int .u8 0 :: .slice none 0 0 :: .slice none 0 0 :: []).toArray := rfl
theorem tl_one (t : Tl) : t.arr.all (·.oneCell') = true := by
  have h := Man.one t.m
  have h2 : t.m.cells.toList.all (·.oneCell') = true := by rw [← h]; simp
  unfold Tl.arr tcells
  rw [List.all_toArray, List.all_append, List.all_append, h2]
  rfl
theorem tl_info {t : Tl} (ok : t.m.Ok) : (Tryd.prog.info? 71).map (·.size) = some t.arr.size := by rw [tl_size ok]; kernel_rfl
theorem tl_many {t : Tl} (ok : t.m.Ok) : setMany ztl.arr 0 t.arr.toList = t.arr := by rw [setMany_whole _ _ (by rw [Array.length_toList, tl_size ok, tl_size (show ztl.m.Ok from zman_ok)]), Array.toArray_toList]
theorem told_sized : (Tryd.prog.info? 71).map (fun i => (i.zero, i.size, i.bytes)) = some (some (.agg ztl.arr), 41, 144) := by rw [ztl_lit]; kernel_rfl
theorem tall_one (l : List Tl) : ∀ u ∈ tall l, u.oneCell' = true := fun u hu => by
  obtain ⟨t, _, h⟩ := List.mem_flatMap.1 hu
  have := tl_one t
  unfold Tl.arr at this
  rw [List.all_toArray] at this
  exact List.all_eq_true.1 this u h
set_option maxRecDepth 100000 in
set_option maxHeartbeats 8000000 in
theorem rs_told (tb : TB W J) (h : DocSt W w J b r A0 nr c0 name n q F) (he : q.err = 0) {t : Nt} {rest : List Nt} (hq : q.inn = t :: rest) (hl : q.inn.length ≤ 1000) : Calls Tryd.prog 28 #[.pointer (some ⟨b, 0, none⟩)] w (DsPost W J b r A0 nr c0 name n F true (({ q with inn := rest } : LQ).followQ t)) := by
  obtain ⟨d, LO, LI, hi, hro, hri, A1, c1, L1, hrf, hs⟩ := h
  obtain ⟨t0, ts, hts, rfl, hrest⟩ : ∃ t0 ts, d.ts = t0 :: ts ∧ noteOf t0 = t ∧ ts.map noteOf = rest := by
    have h := hi.inn
    rw [hq] at h
    cases hd : d.ts with
    | nil => rw [hd] at h; cases h
    | cons t0 ts => rw [hd] at h; simp only [List.map_cons, List.cons.injEq] at h; exact ⟨t0, ts, rfl, h.1.symm, h.2.symm⟩
  have htok := hi.tok t0 (by rw [hts]; exact List.mem_cons_self ..)
  have htl : ts.length ≤ 1000 := by have := hi.inn; rw [hts] at this; rw [this] at hl; simp at hl; omega
  -- where the first note lies
  rw [hts] at hri
  obtain ⟨gI, oI, icap, icur, hv, hLI, _⟩ := hri.cells (j := 0) (u := .int .i64 t0.kind) rfl
  injection hv with hIA _ hic
  subst hic
  have hnc : ts.length + 1 ≤ d.ic := by
    obtain ⟨_, ⟨hv3, h0, _⟩ | ⟨_, _, _, _, hv3, _, hnc, _⟩⟩ := id hri
    · simp at h0
    · injection hv3 with _ _ h3; rw [h3]; simpa using hnc
  rw [hIA] at hri
  obtain ⟨L, hL⟩ : ∃ L, ((r, Obj.cells (rcells A0 nr c0 A1 q.fs.length c1 q.cnt) 90 (0, 0)) :: (L1 ++ (LO ++ (LI ++ F)))) = L := ⟨_, rfl⟩
  have h1 : St W w J (dcB b d :: L) := by rw [← hL]; exact hs.keep [] fun _ a => by simp only [List.count_append, List.count_cons, List.count_nil]; omega
  have hmI : ∀ p ∈ LI, p ∈ L := fun p hp => by rw [← hL]; simp [hp]
  obtain ⟨_, _, _, _, _, p5, _, _, _, _, p46⟩ := dc_cells hi.mok h1 (List.mem_cons_self ..)
  rw [hi.err, he] at p46
  rw [hts, hIA] at p5
  have hrg : w.rangeAt gI oI t0.arr.toList := row_range hri h1 (fun p hp => List.mem_cons_of_mem _ (hmI p hp)) t0.arr (fun j u hj => by
    unfold tall
    rw [List.flatMap_cons, List.getElem?_append_left (by have := (List.getElem?_eq_some_iff.1 hj).1; simpa [Tl.arr] using this)]
    simpa [Tl.arr] using hj)
  have h2 := h1.alloc (.cells ztl.arr 71)
  rw [ztl_lit] at h2
  have hfit : 0 + t0.arr.size ≤ (Value.int .i64 0 :: .int .i64 0 :: .int .i64 0 :: .string ⟨#[]⟩ :: .int .u64 0 :: .int .i64 0 :: .int .i64 0 :: .int .u8 0 :: .int .u8 0 :: .int .u8 0 :: .int .u8 0 :: .int .u8 0 :: .int .u8 0 :: .int .u8 0 :: .int .u8 0 :: .int .u8 0 :: .int .u8 0 :: .int .u8 0 :: .int .u8 0 :: .int .u8 0 :: .int .u8 0 :: .int .u8 0 :: .int .u8 0 :: .int .u8 0 :: .int .u8 0 :: .int .u8 0 :: .int .u8 0 :: .int .u8 0 :: .int .u8 0 :: .int .u8 0 :: .int .u8 0 :: .int .u8 0 :: .int .u8 0 :: .int .u8 0 :: .int .u8 0 :: .int .u8 0 :: .int .u8 0 :: .int .u8 0 :: .int .u8 0 :: .slice none 0 0 :: .slice none 0 0 :: []).toArray.size := by rw [tl_size htok.1]; decide
  have hmany := tl_many htok.1
  rw [ztl_lit] at hmany
  have hsl := fun w => run_slice_fromS (P := Tryd.prog) (s := 41) Tryd.underlying84 (fun w => by simp [Tryd.sizeOf71 w]) (some ⟨gI, oI, none⟩) (ts.length + 1) d.ic 1 (by omega) hnc w
  simp only [Nat.add_sub_cancel] at hsl
  have hsrc : ∀ (v : World) (Y : List (Nat × Obj)), St W v J Y → (∀ p ∈ LI, p ∈ Y) → Src v 41 (subS (some ⟨gI, oI, none⟩) d.ic 1 41) ts.length (tall ts) := fun v Y hv hm => by
    have h := (Row.src hri (fun p hp => hv.own p (hm p hp))).dropS d.ic 1 (by simp) (by simpa using hnc)
    have e : (tall (t0 :: ts)).drop (1 * 41) = tall ts := by
      unfold tall
      rw [List.flatMap_cons, List.drop_append, List.drop_of_length_le (by rw [tcells_len t0 htok.1]; omega), tcells_len t0 htok.1]
      simp
    rw [e] at h
    simpa using h
  obtain ⟨AX, hAX⟩ : ∃ AX, AX = some (⟨gI, oI, none⟩ : Addr) := ⟨_, rfl⟩
  rw [← hAX] at hsl hsrc
  have HAX := Lib.hid hAX
  obtain ⟨SB, hSB⟩ : ∃ SB, subS AX d.ic 1 41 = SB := ⟨_, rfl⟩
  rw [hSB] at hsl hsrc
  have hsl1 : ∀ w, (Instr.slice 84 (.slice AX (ts.length + 1) d.ic) (some (.int .i64 1)) none none).run Tryd.prog w = .ok (.slice SB ts.length (d.ic - 1)) w := hsl
  clear hsl
  have hfin : ∀ (v : World) (A5 : Option Addr) (c5 : Nat) (L5 : List (Nat × Obj)) (tb' : Nat × Obj), Row 71 41 (.slice A5 ts.length c5) ts.length (tall ts) L5 → St W v J (dcB b (({ d with IA := A5, ic := c5, ts := ts } : Dc).followD t0) :: (L5 ++ (tb' :: L))) → DsPost W J b r A0 nr c0 name n F true (({ q with inn := rest } : LQ).followQ (noteOf t0)) (.returned (.bool true)) v := fun v A5 c5 L5 tb' hr5 hv => by
    have hd1 : DcIs W J r name n { q with inn := rest } { d with IA := A5, ic := c5, ts := ts } := { hi with inn := hrest.symm, tok := fun t ht => hi.tok t (by rw [hts]; exact List.mem_cons_of_mem _ ht) }
    have hd2 := follow_is hd1 t0 htok.1 htok.2
    obtain ⟨k1, k2, k3, k4, k5, k6⟩ := followD_keep ({ d with IA := A5, ic := c5, ts := ts } : Dc) t0
    have f1 : (({ q with inn := rest } : LQ).followQ (noteOf t0)).fs = q.fs ∧ (({ q with inn := rest } : LQ).followQ (noteOf t0)).cnt = q.cnt := by
      unfold LQ.followQ
      split
      · split
        · split <;> exact ⟨rfl, rfl⟩
        · exact ⟨rfl, rfl⟩
      · split <;> exact ⟨rfl, rfl⟩
      · exact ⟨rfl, rfl⟩
    refine ⟨J, Le.refl _, rfl, _, LO, L5, hd2, by rw [k1, k2, k3]; exact hro, by rw [k4, k5, k6]; exact hr5, ?_⟩
    rw [f1.1, f1.2]
    refine ⟨A1, c1, L1, hrf, ?_⟩
    rw [← hL] at hv
    exact hv.keep (tb' :: LI) fun _ a => by simp only [List.count_append, List.count_cons, List.count_nil]; omega
  have HRG := Lib.hid hrg; have H2 := Lib.hid h2; have HFIT := Lib.hid hfit; have HMANY := Lib.hid hmany; have HSRC := Lib.hid hsrc; have HFIN := Lib.hid hfin; have HIN := Lib.hid (tl_info htok.1); have HONE := Lib.hid (tl_one t0); have HMI := Lib.hid hmI
  have hok := hi.mok; have hl100 := hi.l100; have herr : d.err = 0 := hi.err.trans he
  have HTS := Lib.hid hts; have HIAX := Lib.hid hIA; have HI := Lib.hid hi; have HTOK := Lib.hid htok
  clear hrg h1 h2 hfit hmany hsrc hfin hi hro hri hrf hs hLI hL hSB hmI hq hts hrest hAX htok he
  obtain ⟨TA, hTA⟩ : ∃ TA, t0.arr = TA := ⟨_, rfl⟩
  rw [hTA] at HRG HFIT HMANY HIN HONE
  have HTA := Lib.hid hTA
  clear hTA
  have hlenI : (0 : Int) < (ts.length : Int) + 1 := by omega
  go_enter Tryd.func28, Tryd.ntmps28
  go_wp2_with (first | (with_reducible refine wpList_load_mid rfl 71 (.tmp 23) rfl gI oI rfl TA.toList _ HRG.out Tryd.underlying71 rfl (by rw [Array.length_toList]; exact HIN.out) ?_) | (with_reducible refine wpList_store_st rfl 71 (.tmp 3) (.tmp 24) rfl (g := w.heap.size) (off := 0) TA rfl rfl H2.out HFIT.out HIN.out HONE.out ?_; intro w2 h3; refine Hid.out ?_))
  refine Lib.hid ?_
  rw [HMANY.out] at h3
  obtain ⟨tb0, htb0⟩ : ∃ x, w.heap.size = x := ⟨_, rfl⟩
  rw [htb0] at h3 ⊢
  clear p5 p46
  obtain ⟨_, _, _, _, _, p5, _, _, _, _, _⟩ := dc_cells hok h3 (List.mem_cons_of_mem _ (List.mem_cons_self ..))
  rw [HTS.out, HIAX.out] at p5
  simp only [List.length_cons] at p5
  have p5a : ∀ o, (w2.alloc o).cell? ⟨b, 5, none⟩ = some (.slice AX (ts.length + 1) d.ic) := fun o => by rw [HAX.out]; exact cell_old p5
  clear p5
  have h4 := h3.alloc (.cells #[] 71)
  have hsrc4 := HSRC.out _ _ h4 (fun p hp => by simp [HMI.out p hp])
  have H4 := Lib.hid h4; have HSRC4 := Lib.hid hsrc4; have TBH := Lib.hid tb
  clear h3 h4 hsrc4 H2 HRG HFIT HMANY tb
  go_wp2_with (at_builtin; refine Hid.out ?_)
  refine Lib.hid ?_
  refine wpList_append_row (F := (tb0, Obj.cells TA 71 (0, 0)) :: dcB b d :: L) (L := [(w2.heap.size, .cells #[] 71 (0, 0))]) rfl (.tmp 26) (.tmp 31) 84 rfl 71 (.agg ztl.arr) 41 144 Tryd.underlying84 told_sized (by kernel_rfl) (by omega) rfl (Row.empty 71 41 w2.heap.size) H4.out rfl HSRC4.out (tall_one ts) ts.length (by omega) (tall ts) rfl (by unfold maxLen; omega) (by omega) ?_
  intro A5 c5 w5 L5 hr5 h5
  have h6 : St W w5 J (dcB b d :: (L5 ++ ((tb0, Obj.cells TA 71 (0, 0)) :: L))) := h5.keep [] fun _ a => by simp only [List.count_append, List.count_cons, List.count_nil]; omega
  clear p5a
  obtain ⟨_, _, _, _, _, p5, _, _, _, _, _⟩ := dc_cells hok h6 (List.mem_cons_self ..)
  have f5 := dc_frozen h6 (List.mem_cons_self ..) 5
  have h7 := St.set (A := []) h6 5 (.slice A5 ts.length c5)
  rw [Dc.s5] at h7
  have hrg : (w5.setCell ⟨b, 5, none⟩ (.slice A5 ts.length c5)).rangeAt tb0 0 TA.toList := fun j u hj => by
    rw [Nat.zero_add, h7.cell (g := tb0) (cs := TA) (t := 71) (fr := (0, 0)) (by simp) j]
    simpa using hj
  have kF := rl_follow TBH.out (d := { d with IA := A5, ic := c5, ts := ts }) hok hl100 herr (t := t0) HTOK.out.1 (by have := HTOK.out.2; omega) h7
  rw [HTA.out] at kF
  have KF := Lib.hid kF; have HR5 := Lib.hid hr5; have HRG := Lib.hid hrg
  clear kF hr5 h5 h6 h7 hrg H4 HSRC4
  go_wp2_with (with_reducible refine wpList_load_mid rfl 71 (.tmp 3) rfl tb0 0 rfl TA.toList _ HRG.out Tryd.underlying71 rfl (by rw [Array.length_toList]; exact HIN.out) ?_)
  refine KF.out.mono ?_
  rintro e w8 ⟨rfl, h8⟩
  have H8 := Lib.hid h8
  clear h8 KF HRG p5 f5
  go_wp2_with fail
  go_ret
  exact HFIN.out _ _ _ _ _ HR5.out H8.out
end
end
end Go.Proofs.YtnhlpiomfljlcaaDoor
