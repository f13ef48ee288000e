/- NetRuns: the walk of the law. -/
import Derived.Test.YtjmdhljhlcbneaaDoorRLaw
import Derived.Test.YtjmdhljhlcbneaaDoorNetL
import Derived.Deep.RegionHeld3
namespace Go.Proofs.YtjmdhljhlcbneaaDoor
set_option linter.unusedVariables false
set_option linter.unusedSimpArgs false
open Go.RowKit

/-- Both nets. -/
def Both (W w : World) (J : Nat → Option Obj) (g m : Nat) (es : List (ByteArray × Part)) (r : Nat) (A0 : Option Addr) (n0 c0 : Nat) (fs : List Fault) (cnt : Nat) (F : List (Nat × Obj)) : Prop :=
  ∃ (φ : NetF fs) (A1 : Option Addr) (c1 : Nat) (L1 : List (Nat × Obj)), Row 36 3 (.slice A1 fs.length c1) fs.length (fall fs) L1 ∧ St W w J (φ.L' g m es cnt ++ ((r, .cells (rcells A0 n0 c0 A1 fs.length c1 cnt) 53 (0, 0)) :: (L1 ++ F)))

theorem offers_freeze {W w : World} {I : Nat → Option Obj} {F Lr : List (Nat × Obj)} {A : Option Addr} {c : Nat} {l : List (ByteArray × Part)} (hr : Row 27 2 (.slice A l.length c) l.length (oall l) Lr) (hn : ∀ o ∈ l, o.1.size ≤ 1000000) (hp : ∀ o ∈ l, POk o.2 W I) (h : St W w I (Lr ++ F)) : ∃ J, Le I J ∧ St W w J F ∧ OffIn A l W J := by
  obtain ⟨_, ⟨hv, h0, hL⟩ | ⟨gb, off, cap, cur, hv, rfl, hnc, hcm, hsz, hxs⟩⟩ := hr
  · subst hL
    have hb := List.eq_nil_of_length_eq_zero h0
    subst hb
    exact ⟨I, Le.refl _, h, fun k p hk => by simp at hk, hn, hp⟩
  · injection hv with h1 _ h2
    subst h1; subst h2
    obtain ⟨J, hle, hg, h'⟩ := St.freeze h
    refine ⟨J, hle, h', fun k o hk => ⟨gb, off, rfl, ?_⟩, hn, fun o ho => (hp o ho).mono hle⟩
    have hkl := (List.getElem?_eq_some_iff.1 hk).1
    have key : ∀ j, j < 2 → roCell J ⟨gb, off + (k * 2 + j), none⟩ = (ocell o)[j]? := fun j hj => by
      have h1 := oall_get l k j o hk hj
      rw [← hxs, List.getElem?_take_of_lt (by omega), List.getElem?_drop] at h1
      unfold roCell
      simp only [hg]
      simpa using h1
    exact ⟨key 0 (by omega), key 1 (by omega)⟩

theorem both_R {W w : World} {J : Nat → Option Obj} {X L' L1 F : List (Nat × Obj)} {p : Nat × Obj} (h : St W w J (X ++ (L' ++ (p :: (L1 ++ F))))) : St W w J (p :: (L1 ++ (X ++ (L' ++ F)))) := by
  have h1 : St W w J ((X ++ L') ++ ((p :: L1) ++ F)) := by simpa using h
  have h2 := St.swap h1
  simpa using h2
theorem R_both {W w : World} {J : Nat → Option Obj} {X L' L'' L1 F : List (Nat × Obj)} {p : Nat × Obj} (h : St W w J (p :: (L1 ++ (L'' ++ (X ++ (L' ++ F)))))) : St W w J (X ++ (p :: (L1 ++ (L'' ++ (L' ++ F))))) := by
  have h1 : St W w J (((p :: L1) ++ L'') ++ (X ++ (L' ++ F))) := by simpa using h
  have h2 := St.swap h1
  simpa using h2

theorem to_end {W w : World} {J : Nat → Option Obj} {X L1 : List (Nat × Obj)} {p q : Nat × Obj} (h : St W w J (p :: (X ++ (q :: (L1 ++ []))))) : St W w J (X ++ (q :: (L1 ++ [p]))) := by
  have h3 : St W w J (X ++ (q :: (L1 ++ [])) ++ [p]) := h.perm (List.perm_append_comm (l₁ := [p]) (l₂ := X ++ (q :: (L1 ++ []))))
  simpa using h3

theorem drop_end {W w : World} {J : Nat → Option Obj} {A G : List (Nat × Obj)} (h : St W w J (A ++ G)) : St W w J A := St.weaken (A := G) (h.perm List.perm_append_comm)
theorem set_end {W w : World} {J : Nat → Option Obj} {X L5 G : List (Nat × Obj)} {r : Nat} {A0 : Option Addr} {n0 c0 : Nat} {A2 : Option Addr} {n2 c2 cnt : Nat} (u : Option Addr × Nat × Nat) (h : St W w J (L5 ++ ((X ++ [(r, .cells (rcells A0 n0 c0 A2 n2 c2 cnt) 53 (0, 0))]) ++ G))) :
    St W (w.setCell ⟨r, 1, none⟩ (.slice u.1 u.2.1 u.2.2)) J (X ++ ((r, .cells (rcells A0 n0 c0 u.1 u.2.1 u.2.2 cnt) 53 (0, 0)) :: (L5 ++ []))) := by
  have h1 : St W w J ((L5 ++ X) ++ (r, .cells (rcells A0 n0 c0 A2 n2 c2 cnt) 53 (0, 0)) :: G) := by simpa using h
  have h2 := St.set h1 1 (.slice u.1 u.2.1 u.2.2)
  have h3 : St W (w.setCell ⟨r, 1, none⟩ (.slice u.1 u.2.1 u.2.2)) J ((L5 ++ (X ++ [(r, .cells (rcells A0 n0 c0 u.1 u.2.1 u.2.2 cnt) 53 (0, 0))])) ++ G) := by simpa [rcells] using h2
  have h4 := drop_end h3
  have h5 : St W (w.setCell ⟨r, 1, none⟩ (.slice u.1 u.2.1 u.2.2)) J (L5 ++ ((X ++ [(r, .cells (rcells A0 n0 c0 u.1 u.2.1 u.2.2 cnt) 53 (0, 0))]) ++ [])) := by simpa using h4
  have h6 := St.swap h5
  simpa using h6

/-- What one fetch does, of both. -/
theorem one_fetch {W : World} {J : Nat → Option Obj} {g m : Nat} {es os : List (ByteArray × Part)} {r : Nat} {A0 : Option Addr} {c0 : Nat} {fs : List Fault} {cnt : Nat} (t : TB W J) (hof : Offs W J es) (hes : es.map eb = newOffs os) (ho : OffIn A0 (rOffs os) W J) (hl : (rOffs os).length ≤ 100000)
    (nm : ByteArray) (hm : nm.size ≤ 1000000) (a n : Int) (hfs : fs.length ≤ 1000000) (hcnt : cnt ≤ 1000000000) :
    ∃ (B : List UInt8) (E : Int) (fs' : List Fault) (cnt' : Nat) (ix : Int) (sz : Nat) (hs : Bool), fs'.length ≤ fs.length ∧ cnt' ≤ cnt + 1 ∧
      (∀ v F, NetSt W v J g m es fs cnt F → Calls Tryd.prog 9 #[.pointer (some ⟨g, 0, none⟩), .string nm, .int .i64 a, .int .i64 n] v fun e w' => ∃ u, e = .returned (.tuple #[u, .int .i64 E]) ∧ FreshN W w' J g m es fs' cnt' F B u) ∧
      (∀ v F, RNet W v J r A0 (rOffs os).length c0 fs cnt F → Calls Tryd.prog 17 #[.pointer (some ⟨r, 0, none⟩), .string nm, .int .i64 a, .int .i64 n] v fun e w' => ∃ u, e = .returned (.tuple #[u, .int .i64 E]) ∧ FreshR W w' J r A0 (rOffs os).length c0 fs' cnt' F B u) ∧
      findIx (rOffs os) nm = ix ∧ (lookP es ⟨(foldOf nm).toArray⟩).isSome = hs ∧ (((lookP es ⟨(foldOf nm).toArray⟩).map fun p => p.bs.length).getD 0) = sz ∧
      ((ix = -1 ∧ hs = false ∧ sz = 0) ∨ ∃ (j : Nat) (q : Part) (b off : Nat), ix = (j : Int) ∧ hs = true ∧ j < (rOffs os).length ∧ A0 = some ⟨b, off, none⟩ ∧ roCell J ⟨b, off + j * 2 + 1, none⟩ = some (.slice q.A sz q.c)) := by
  rcases find_both hes nm with ⟨h1, h2⟩ | ⟨j, onm, q, p, h1, h2, h3, h4⟩
  · refine ⟨[], 182, fs, cnt, -1, 0, false, by omega, by omega, fun v F hv => ?_, fun v F hv => ?_, h1, by rw [h2]; rfl, by rw [h2]; rfl, .inl ⟨rfl, rfl, rfl⟩⟩
    · exact (net_fetch_none t nm (by omega) a n h2 hv).mono fun e w' ⟨he, hn⟩ => ⟨_, he, FreshN.nil hn⟩
    · exact (rfetch_none t ho hl nm hm a n (by omega) hv).mono fun e w' ⟨he, hn⟩ => ⟨_, he, FreshR.nil hn⟩
  · obtain ⟨b, off, hA, r0, r1⟩ := ho.at_ j _ h2
    refine ⟨(fetched p.bs (first fs) a n).1, (fetched p.bs (first fs) a n).2, fs.tail, cnt + 1, (j : Int), p.bs.length, true, by simp, by omega, fun v F hv => net_fetch t hof nm (by omega) a n hfs hcnt p h3 hv, fun v F hv => ?_, h1, by rw [h3]; rfl, by rw [h3]; rfl, .inr ⟨j, q, b, off, rfl, rfl, (List.getElem?_eq_some_iff.1 h2).1, hA, by rw [r1, ← h4]; rfl⟩⟩
    cases fs with
    | nil =>
      have hk := rfetch_no t ho hl nm hm a n j q onm h1 h2 hcnt hv
      rw [h4] at hk
      exact hk
    | cons f rest =>
      have hk := rfetch_yes t ho hl nm hm a n j q onm h1 h2 hcnt f rest (by simp at hfs; omega) hv
      rw [h4] at hk
      exact hk

set_option maxRecDepth 100000 in
set_option maxHeartbeats 8000000 in
theorem walk_netRuns (W : World) (tabs : Tabs W) {H : Type} {enc : TypeId × Value → H} {v0 : Value} (a0 : Arg enc Tryd.prog W 43 v0) :
    Calls Tryd.prog 6 #[v0] W fun e w' => e = .returned (.bool true) ∧ Below W.heap.size W w' := by
  obtain ⟨x, rfl⟩ := a0.world
  have t := TB.start tabs
  have h0 := (St.start W).alloc (.cells #[.slice x.OA x.os.length x.oc, .slice x.FA x.fs.length x.fc, .slice x.AA x.asks.length x.ac] 43)
  obtain ⟨J0, le0, gg0, s0⟩ := St.freeze h0
  have gt := fun (v : World) (hv : St W v J0 []) => great_any x le0 hv
  unfold WArg.val at gt ⊢
  have c0 : roCell J0 ⟨W.heap.size, 0, none⟩ = some (.slice x.OA x.os.length x.oc) := by rw [roCell_of gg0]; rfl
  have c1 : roCell J0 ⟨W.heap.size, 1, none⟩ = some (.slice x.FA x.fs.length x.fc) := by rw [roCell_of gg0]; rfl
  have c2 : roCell J0 ⟨W.heap.size, 2, none⟩ = some (.slice x.AA x.asks.length x.ac) := by rw [roCell_of gg0]; rfl
  have TT := Lib.hid (t.more le0); have S0 := Lib.hid s0; have GT := Lib.hid gt; have LE0 := Lib.hid le0; have C0 := Lib.hid c0; have C1 := Lib.hid c1; have C2 := Lib.hid c2
  clear t s0 gt le0 gg0 h0 tabs a0 c0 c1 c2
  go_enter Tryd.func6, Tryd.ntmps6
  go_wp2_with fail
  refine (net_alive TT.out S0.out).mono ?_
  rintro e w ⟨rfl, h⟩
  have d0 := h.ro C0.out
  have d1 := h.ro C1.out
  have d2 := h.ro C2.out
  have hfin := h.below LE0.out
  have HS := Lib.hid h; have HFIN := Lib.hid hfin
  clear h hfin S0
  go_wp2_with fail
  refine (GT.out _ HS.out).mono ?_
  rintro e w1 hgp
  obtain ⟨b, rfl, h1, hb⟩ := hgp
  have HS1 := Lib.hid h1; have HB := Lib.hid hb
  clear h1 hb d0 d1 d2 HS HFIN GT
  cases b with
  | true =>
    have hfin := HS1.out.below LE0.out
    go_wp2_with fail
    go_ret
    exact ⟨rfl, hfin⟩
  | false =>
    obtain ⟨b1, b2, b3, b4, b5⟩ := HB.out rfl
    clear HB
    have hoff : OffIn x.OA x.os W J0 := ⟨fun k o hk => by
        obtain ⟨b, off, e1, e2, e3⟩ := x.off k o hk
        exact ⟨b, off, e1, roCell_mono LE0.out e2, by rw [roCell_mono LE0.out e3]; rfl⟩, fun o ho => by have := (b4 o ho).1; omega, fun o ho => ⟨(x.oin o ho).2.1.mono LE0.out, (x.oin o ho).2.2.1, (x.oin o ho).2.2.2, by have := (b4 o ho).2; omega⟩⟩
    have hfi : FIn x.FA x.fs W J0 := fun v L hv => x.fin v L (hv.less LE0.out)
    have hN := fun (v : World) (hv : St W v J0 []) => net_new TT.out x.OA x.oc x.os hoff (by omega) x.FA x.fc x.fs hfi (by omega) hv
    have hR := fun (J : Nat → Option Obj) (hJ : Le J0 J) (F : List (Nat × Obj)) (v : World) (hv : St W v J F) => rnew (TT.out.more hJ) x.OA x.oc x.os ⟨fun k o hk => by
        obtain ⟨b, off, e1, e2, e3⟩ := hoff.at_ k o hk
        exact ⟨b, off, e1, roCell_mono hJ e2, roCell_mono hJ e3⟩, hoff.name, fun o ho => (hoff.ok o ho).mono hJ⟩ (by omega) x.FA x.fc x.fs (fun v L hv => hfi v L (hv.less hJ)) (by omega) hv
    have d0 := HS1.out.ro C0.out
    have d1 := HS1.out.ro C1.out
    have d2 := HS1.out.ro C2.out
    have HN := Lib.hid hN; have HR := Lib.hid hR; have HOFF := Lib.hid hoff
    have HB4 := Lib.hid b4; have HB5 := Lib.hid b5
    have FACTS := Lib.hid (fun (v : World) (I : Nat → Option Obj) (L : List (Nat × Obj)) (hv : St W v I L) (hI : Le J0 I) => (⟨hv.ro (roCell_mono hI C0.out), hv.ro (roCell_mono hI C1.out)⟩ : v.cell? ⟨W.heap.size, 0, none⟩ = some (.slice x.OA x.os.length x.oc) ∧ v.cell? ⟨W.heap.size, 1, none⟩ = some (.slice x.FA x.fs.length x.fc)))
    clear hN hR hoff hfi b4 b5
    go_wp2_with fail
    go_region_held3 (fun w' => w'.cell? ⟨W.heap.size, 0, none⟩ = some (.slice x.OA x.os.length x.oc) ∧ w'.cell? ⟨W.heap.size, 1, none⟩ = some (.slice x.FA x.fs.length x.fc)) (first | exact ⟨d0, d1⟩ | exact S3 | exact S4 | assumption) (first
      | (go_at_call 8; refine (HN.out _ (by first | exact HS1.out.drew _ | exact HS1.out.drew1 | exact HS1.out)).mono ?_; rintro e w3 ⟨J, g, m, es, hleJ, rfl, ⟨φ, hN3⟩, hof, hes⟩; have S3 := FACTS.out _ _ _ hN3 hleJ)
      | (go_at_call 16; refine (HR.out J hleJ _ _ hN3).mono ?_; rintro e w4 ⟨r, A0, c0, L0, A1, c1, L1, rfl, hr0, hr1, hN4⟩; have S4 := FACTS.out _ _ _ hN4 hleJ))
    have hpo4 : ∀ o ∈ rOffs x.os, POk o.2 W J := fun o ho => (HOFF.out.ok o (rOffs_sub _ o ho)).mono hleJ
    have hnm4 : ∀ o ∈ rOffs x.os, o.1.size ≤ 1000000 := fun o ho => HOFF.out.name o (rOffs_sub _ o ho)
    have hrl4 := rOffs_len x.os
    obtain ⟨J2, hle2, h5, hoi⟩ := offers_freeze hr0 hnm4 hpo4 (St.swap (A := [(r, _)]) hN4)
    have hB0 : Both W w4 J2 g m es r A0 (rOffs x.os).length c0 x.fs 0 [] := ⟨φ, A1, c1, L1, hr1, by
      have h6 : St W w4 J2 (((r, Obj.cells (rcells A0 (rOffs x.os).length c0 A1 x.fs.length c1 0) 53 (0, 0)) :: L1) ++ (φ.L' g m es 0 ++ [])) := by simpa using h5
      have h7 := St.swap h6
      simpa using h7⟩
    have HB0 := Lib.hid hB0; have T2 := Lib.hid (TT.out.more (hleJ.trans hle2)); have HOF := Lib.hid (hof.mono hle2); have HES := Lib.hid hes; have HOI := Lib.hid hoi
    have HLE := Lib.hid (LE0.out.trans (hleJ.trans hle2))
    have d2' := (h5.ro (roCell_mono (hleJ.trans hle2) C2.out))
    clear hB0 h5 hN4 hN3 hr0 hr1 hof hes hoi S3 S4 hpo4 hnm4 d0 d1 d2 HN HR hle2 hleJ φ TT LE0 FACTS C0 C1 C2 HS1 HOFF
    go_wp2_with fail
    have HFI := Lib.hid (fun a (ha : a ∈ x.asks) => (fun v L hv => (x.ain a ha).2 v L (St.less HLE.out hv) : FIn a.A a.more W J2))
    have HASK := Lib.hid (fun k a (hk : x.asks[k]? = some a) => (by
      obtain ⟨b, off, e0, e1, e2, e3, e4⟩ := x.ask k a hk
      exact ⟨b, off, e0, roCell_mono HLE.out e1, roCell_mono HLE.out e2, roCell_mono HLE.out e3, roCell_mono HLE.out e4⟩ : ∃ b off, x.AA = some (⟨b, off, none⟩ : Addr) ∧ roCell J2 ⟨b, off + k * 4, none⟩ = some (.string a.name) ∧ roCell J2 ⟨b, off + k * 4 + 1, none⟩ = some (.int .i64 a.at_) ∧ roCell J2 ⟨b, off + k * 4 + 2, none⟩ = some (.int .i64 a.many) ∧ roCell J2 ⟨b, off + k * 4 + 3, none⟩ = some (.slice a.A a.more.length a.c)))
    generalize x.asks = asks at *
    generalize x.AA = AA at *
    generalize x.fs = fs0 at *
    go_loopw [30] (fun i wr => ∃ (k : Nat) (fs : List Fault) (cnt : Nat), i = .int .i64 k ∧ k ≤ asks.length ∧ fs.length ≤ 60 + 20 * k ∧ cnt ≤ k ∧ Both W wr J2 g m es r A0 (rOffs x.os).length c0 fs cnt []) (fun i _ => asks.length - (intOf i).toNat)
    case atStart => exact ⟨0, fs0, 0, rfl, by omega, by omega, by omega, HB0.out⟩
    case round =>
      obtain ⟨k, fs, cnt, rfl, hk, hfl, hct, hB⟩ := hrel
      clear HB0 d2'
      by_cases hkl : k < asks.length
      · obtain ⟨a, hok⟩ : ∃ a, asks[k]? = some a := ⟨_, List.getElem?_eq_getElem hkl⟩
        have ham := List.mem_of_getElem? hok
        obtain ⟨b, off, rfl, r0, r1, r2, r3⟩ := HASK.out k a hok
        have hfi := HFI.out a ham
        have hab := HB5.out a ham
        obtain ⟨anm, aat, amany, aA, ac, amore⟩ := a
        simp only at r0 r1 r2 r3 hfi hab
        obtain ⟨φ, A1, c1, L1, hr1, hst⟩ := hB
        have q0 := hst.ro r0
        have q1 := hst.ro r1
        have q2 := hst.ro r2
        have q3 := hst.ro r3
        obtain ⟨b6, hb6⟩ : ∃ b6, b6 = wr.heap.size := ⟨_, rfl⟩
        have h1 := hst.alloc (.cells #[.string anm, .int .i64 aat, .int .i64 amany, .slice aA amore.length ac] 48)
        rw [← hb6] at h1
        have h2 : St W (wr.alloc (.cells #[.string anm, .int .i64 aat, .int .i64 amany, .slice aA amore.length ac] 48)) J2 (φ.L' g m es cnt ++ ((r, .cells (rcells A0 (rOffs x.os).length c0 A1 fs.length c1 cnt) 53 (0, 0)) :: (L1 ++ [(b6, .cells #[.string anm, .int .i64 aat, .int .i64 amany, .slice aA amore.length ac] 48 (0, 0))]))) := to_end h1
        have facts : ∀ (v : World) (L : List (Nat × Obj)), St W v J2 L → (b6, Obj.cells #[.string anm, .int .i64 aat, .int .i64 amany, .slice aA amore.length ac] 48 (0, 0)) ∈ L → v.cell? ⟨b6, 0, none⟩ = some (.string anm) ∧ v.cell? ⟨b6, 1, none⟩ = some (.int .i64 aat) ∧ v.cell? ⟨b6, 2, none⟩ = some (.int .i64 amany) ∧ v.cell? ⟨b6, 3, none⟩ = some (.slice aA amore.length ac) := fun v L hv hm => ⟨hv.cell hm 0, hv.cell hm 1, hv.cell hm 2, hv.cell hm 3⟩
        obtain ⟨B, E, fs', cnt', ix, sz, hs, hfl', hct', hown, href, hfx, hhs, hsz, hcase⟩ := one_fetch (W := W) (J := J2) (g := g) (m := m) (r := r) (A0 := A0) (c0 := c0) (fs := fs) (cnt := cnt) T2.out HOF.out HES.out HOI.out (by omega) anm (by omega) aat amany (by omega) (by omega)
        have cO := hown _ _ ⟨φ, h2⟩
        have CO := Lib.hid cO; have FACTS := Lib.hid facts; have HREF := Lib.hid href; have HR1 := Lib.hid hr1; have HFX := Lib.hid hfx; have HHS := Lib.hid hhs; have HSZ := Lib.hid hsz; have HCASE := Lib.hid hcase; have HFIA := Lib.hid hfi; have HAB := Lib.hid hab
        clear cO hown href facts h2 h1 hst r0 r1 r2 r3 hfi hab hok ham hr1 hfx hhs hsz hcase
        go_wp2_with fail
        rw [← hb6]
        clear hb6 q0 q1 q2 q3
        refine CO.out.mono ?_
        rintro e w5 ⟨u, rfl, Aa, ca, La, rfl, hra, ψ, h3⟩
        obtain ⟨s0, s1, s2, s3⟩ := FACTS.out _ _ h3 (by simp)
        have cR := HREF.out _ (ψ.L' g m es cnt' ++ (La ++ [(b6, .cells #[.string anm, .int .i64 aat, .int .i64 amany, .slice aA amore.length ac] 48 (0, 0))])) ⟨A1, c1, L1, HR1.out, both_R h3⟩
        have CR := Lib.hid cR; have HRA := Lib.hid hra
        clear cR h3 HREF CO HR1 hra
        go_wp2_with fail
        clear s0 s1 s2 s3
        refine CR.out.mono ?_
        rintro e w6 ⟨u, rfl, Ab, cb, Lb, rfl, hrb, A2, c2, L2, hr2, h4⟩
        have h5 := R_both h4
        obtain ⟨s0, s1, s2, s3⟩ := FACTS.out _ _ h5 (by simp)
        have cF := rfind T2.out r A0 c0 (rOffs x.os) HOI.out.name (by omega) (offsAt_of_in (A1 := A2) (n1 := fs'.length) (c1 := c2) (cnt := cnt') HOI.out (by simp)) anm (by have h : anm.size ≤ 200 := HAB.out.1; omega) h5
        rw [HFX.out] at cF
        have CF := Lib.hid cF; have HRB := Lib.hid hrb; have HR2 := Lib.hid hr2
        clear cF h5 h4 CR hrb hr2 HFX
        go_wp2_with fail
        clear s0 s1 s2 s3
        refine CF.out.mono ?_
        rintro e w7 ⟨rfl, h6⟩
        clear CF
        -- all that is compared
        obtain ⟨LT, hLT⟩ : ∃ LT, LT = ψ.L' g m es cnt' ++ ((r, .cells (rcells A0 (rOffs x.os).length c0 A2 fs'.length c2 cnt') 53 (0, 0)) :: (L2 ++ (Lb ++ (La ++ [(b6, Obj.cells #[.string anm, .int .i64 aat, .int .i64 amany, .slice aA amore.length ac] 48 (0, 0))])))) := ⟨_, rfl⟩
        have hmr : (r, Obj.cells (rcells A0 (rOffs x.os).length c0 A2 fs'.length c2 cnt') 53 (0, 0)) ∈ LT := by rw [hLT]; simp
        have hm6 : (b6, Obj.cells #[.string anm, .int .i64 aat, .int .i64 amany, .slice aA amore.length ac] 48 (0, 0)) ∈ LT := by rw [hLT]; simp
        have hma : ∀ q ∈ La, q ∈ LT := fun q hq => by rw [hLT]; simp [hq]
        have hmb : ∀ q ∈ Lb, q ∈ LT := fun q hq => by rw [hLT]; simp [hq]
        have HLT := Lib.hid hLT
        have h7 : St W w7 J2 LT := by rw [hLT]; exact h6
        have y0 : ∀ z : SW W J2 LT, z.w.cell? ⟨b6, 0, none⟩ = some (.string anm) := fun z => (FACTS.out _ _ z.ok hm6).1
        have y1 : ∀ z : SW W J2 LT, z.w.cell? ⟨r, 1, none⟩ = some (.slice A2 fs'.length c2) := fun z => z.ok.cell hmr 1
        have y2 : ∀ z : SW W J2 LT, z.w.cell? ⟨r, 2, none⟩ = some (.int .i64 cnt') := fun z => z.ok.cell hmr 2
        have ya : ∀ z : SW W J2 LT, (convert 22 9 (.slice Aa B.length ca)).run Tryd.prog z.w = .ok (.string ⟨B.toArray⟩) z.w := fun z => conv_str Tryd.underlying22 Tryd.underlying5 Tryd.underlying9 (Row.src HRA.out (fun q hq => z.ok.own q (hma q hq)))
        have yb : ∀ z : SW W J2 LT, (convert 22 9 (.slice Ab B.length cb)).run Tryd.prog z.w = .ok (.string ⟨B.toArray⟩) z.w := fun z => conv_str Tryd.underlying22 Tryd.underlying5 Tryd.underlying9 (Row.src HRB.out (fun q hq => z.ok.own q (hmb q hq)))
        have cHas0 : ∀ v, St W v J2 LT → Calls Tryd.prog 13 #[.pointer (some ⟨g, 0, none⟩), .string anm] v fun e w' => e = .returned (.bool hs) ∧ St W w' J2 LT := fun v hv => by
          rw [hLT] at hv ⊢
          have h := net_has_x ψ T2.out anm (by have h : anm.size ≤ 200 := HAB.out.1; omega) hv
          rw [HHS.out] at h
          exact h
        have cSize0 : ∀ v, St W v J2 LT → Calls Tryd.prog 14 #[.pointer (some ⟨g, 0, none⟩), .string anm] v fun e w' => e = .returned (.int .i64 sz) ∧ St W w' J2 LT := fun v hv => by
          rw [hLT] at hv ⊢
          have h := net_size_x ψ T2.out HOF.out anm (by have h : anm.size ≤ 200 := HAB.out.1; omega) hv
          rw [HSZ.out] at h
          exact h
        have cFau0 : ∀ v, St W v J2 LT → Calls Tryd.prog 10 #[.pointer (some ⟨g, 0, none⟩)] v fun e w' => e = .returned (.int .i64 fs'.length) ∧ v = w' := fun v hv => by
          rw [hLT] at hv
          exact net_faults ⟨ψ, hv⟩
        have cFet0 : ∀ v, St W v J2 LT → Calls Tryd.prog 11 #[.pointer (some ⟨g, 0, none⟩)] v fun e w' => e = .returned (.int .i64 cnt') ∧ v = w' := fun v hv => by
          rw [hLT] at hv
          exact net_fetches ⟨ψ, hv⟩
        have cHas := fun (z : SW W J2 LT) => cHas0 z.w z.ok
        have cSize := fun (z : SW W J2 LT) => cSize0 z.w z.ok
        have cFau := fun (z : SW W J2 LT) => cFau0 z.w z.ok
        have cFet := fun (z : SW W J2 LT) => cFet0 z.w z.ok
        clear cHas0 cSize0 cFau0 cFet0
        have CHAS := Lib.hid cHas; have CSIZE := Lib.hid cSize; have CFAU := Lib.hid cFau; have CFET := Lib.hid cFet
        have H7 := Lib.hid h7
        have hne : Nonempty (SW W J2 LT) := ⟨⟨_, h7⟩⟩
        have x0 := (y1 ⟨_, h7⟩)
        have x00 : w7.cell? ⟨r, 0, none⟩ = some (.slice A0 (rOffs x.os).length c0) := h7.cell hmr 0
        have HMR := Lib.hid hmr; have HM6 := Lib.hid hm6
        have hbo := (show True from trivial)
        have hgo : (∃ wz, wz = w7) := ⟨_, rfl⟩
        have q9 : ∀ (j bb oo qc : Nat) (qA : Option Addr), roCell J2 ⟨bb, oo + j * 2 + 1, none⟩ = some (.slice qA sz qc) → w7.cell? ⟨bb, oo + j * 2 + 1, none⟩ = some (.slice qA sz qc) := fun j bb oo qc qA hq => h7.ro hq
        have Q9 := Lib.hid q9
        clear cHas cSize cFau cFet h7 h6 hma hmb hmr hm6 hbo hgo x0 hLT q9
        rcases HCASE.out with ⟨rfl, rfl, rfl⟩ | ⟨j, q, bb, oo, rfl, rfl, hjl, rfl, hro⟩
        all_goals clear HCASE
        · clear Q9
          go_wp2_with fail
          clear x00
          refine wp_region_sw _ H7.out (by kernel_rfl) (by kernel_rfl) ?_
          repeat (go_big_quiet_step (first
            | (go_at_call 13; (with_reducible refine (CHAS.out _).mono ?_); exact fun e w'' ⟨h1, h2⟩ => ⟨h1, ⟨_, h2⟩, rfl⟩)
            | (go_at_call 14; (with_reducible refine (CSIZE.out _).mono ?_); exact fun e w'' ⟨h1, h2⟩ => ⟨h1, ⟨_, h2⟩, rfl⟩)
            | (go_at_call 10; (with_reducible refine (CFAU.out _).mono ?_); exact fun e w'' ⟨h1, h2⟩ => ⟨h1, _, h2.symm⟩)
            | (go_at_call 11; (with_reducible refine (CFET.out _).mono ?_); exact fun e w'' ⟨h1, h2⟩ => ⟨h1, _, h2.symm⟩)))
          refine wpQuiet_nil ?_
          rintro _ ⟨z, rfl⟩
          have hz := z.ok
          obtain ⟨wz, hwz⟩ : ∃ wz, z.w = wz := ⟨_, rfl⟩
          rw [hwz] at hz ⊢
          have s3 := (FACTS.out _ _ hz HM6.out).2.2.2
          rw [HLT.out] at hz
          have cM := net_more aA ac amore HFIA.out (by have h : amore.length ≤ 20 := HAB.out.2; omega) ⟨ψ, hz⟩
          have CM := Lib.hid cM
          clear cM hz hwz z y0 y1 y2 ya yb CHAS CSIZE CFAU CFET H7 hne HM6 HMR
          go_wp2_with fail
          refine CM.out.mono ?_
          rintro e w8 ⟨rfl, χ, h8⟩
          have m6 : w8.cell? ⟨b6, 3, none⟩ = some (.slice aA amore.length ac) := (FACTS.out _ _ h8 (by simp)).2.2.2
          have m6d : w8.drew.cell? ⟨b6, 3, none⟩ = some (.slice aA amore.length ac) := m6
          have mr : w8.cell? ⟨r, 1, none⟩ = some (.slice A2 fs'.length c2) := h8.cell (g := r) (cs := rcells A0 (rOffs x.os).length c0 A2 fs'.length c2 cnt') (t := 53) (fr := (0, 0)) (by simp) 1
          have mrd : w8.drew.cell? ⟨r, 1, none⟩ = some (.slice A2 fs'.length c2) := mr
          have h9 := St.swap (A := χ.L' g m es cnt' ++ [(r, .cells (rcells A0 (rOffs x.os).length c0 A2 fs'.length c2 cnt') 53 (0, 0))]) (B := L2) (F := Lb ++ (La ++ [(b6, .cells #[.string anm, .int .i64 aat, .int .i64 amany, .slice aA amore.length ac] 48 (0, 0))])) (by simpa using h8)
          have hone := fall_one amore
          have hsrc := HFIA.out _ _ h9.drew1
          have H9 := Lib.hid h9; have HSRC := Lib.hid hsrc; have HONE := Lib.hid hone
          clear h9 h8 hsrc hone s3 CM
          go_wp2_with fail
          go_region_law (first
            | (refine step_append_row (F := (χ.L' g m es cnt' ++ [(r, .cells (rcells A0 (rOffs x.os).length c0 A2 fs'.length c2 cnt') 53 (0, 0))]) ++ (Lb ++ (La ++ [(b6, .cells #[.string anm, .int .i64 aat, .int .i64 amany, .slice aA amore.length ac] 48 (0, 0))]))) rfl (.tmp 125) (.tmp 127) _ rfl 36 (.agg #[.int .i64 0, .int .i64 0, .int .u8 0]) 3 24 Tryd.underlying33 (by kernel_rfl) rfl (by omega) rfl HR2.out (by exact H9.out.drew1) rfl (by exact HSRC.out) HONE.out (fs'.length + amore.length) rfl (fall fs' ++ fall amore) rfl (by have h : amore.length ≤ 20 := HAB.out.2; unfold maxLen; omega) (by have h : amore.length ≤ 20 := HAB.out.2; omega) ?_; intro A5 c5 w9 L5 hr5 h10; have g0 : w9.cell? ⟨r, 1, none⟩ = some (.slice A2 fs'.length c2) := h10.cell (g := r) (cs := rcells A0 (rOffs x.os).length c0 A2 fs'.length c2 cnt') (t := 53) (fr := (0, 0)) (by simp) 1; have g1 : w9.frozen? ⟨r, 1, none⟩ = false := h10.frozen (g := r) (cs := rcells A0 (rOffs x.os).length c0 A2 fs'.length c2 cnt') (t := 53) (by simp) 1))
          all_goals
            have h11 := set_end (A5, fs'.length + amore.length, c5) h10
            have hB2 : Both W (w9.setCell ⟨r, 1, none⟩ (.slice A5 (fs'.length + amore.length) c5)) J2 g m es r A0 (rOffs x.os).length c0 (fs' ++ amore) cnt' [] := by
              have hle : fs'.length + amore.length = (fs' ++ amore).length := by simp
              have hfa : fall fs' ++ fall amore = fall (fs' ++ amore) := by simp [fall]
              rw [hle] at hr5 h11 ⊢
              rw [hfa] at hr5
              exact ⟨χ, A5, c5, L5, hr5, h11⟩
            have HB2 := Lib.hid hB2
            clear h11 hB2 hr5 h10 g0 g1
            go_wp2_with fail
            refine ⟨⟨k + 1, fs' ++ amore, cnt', by go_num, by omega, by have h : amore.length ≤ 20 := HAB.out.2; rw [List.length_append]; omega, by omega, HB2.out⟩, ?_⟩
            simp [intOf]; omega
        · have x1 := Q9.out j bb oo q.c q.A hro
          have hjl' : (j : Int) < (rOffs x.os).length := by omega
          clear hro Q9
          go_wp2_with fail
          clear x1 x00
          refine wp_region_sw _ H7.out (by kernel_rfl) (by kernel_rfl) ?_
          repeat (go_big_quiet_step (first
            | (go_at_call 13; (with_reducible refine (CHAS.out _).mono ?_); exact fun e w'' ⟨h1, h2⟩ => ⟨h1, ⟨_, h2⟩, rfl⟩)
            | (go_at_call 14; (with_reducible refine (CSIZE.out _).mono ?_); exact fun e w'' ⟨h1, h2⟩ => ⟨h1, ⟨_, h2⟩, rfl⟩)
            | (go_at_call 10; (with_reducible refine (CFAU.out _).mono ?_); exact fun e w'' ⟨h1, h2⟩ => ⟨h1, _, h2.symm⟩)
            | (go_at_call 11; (with_reducible refine (CFET.out _).mono ?_); exact fun e w'' ⟨h1, h2⟩ => ⟨h1, _, h2.symm⟩)))
          refine wpQuiet_nil ?_
          rintro _ ⟨z, rfl⟩
          have hz := z.ok
          obtain ⟨wz, hwz⟩ : ∃ wz, z.w = wz := ⟨_, rfl⟩
          rw [hwz] at hz ⊢
          have s3 := (FACTS.out _ _ hz HM6.out).2.2.2
          rw [HLT.out] at hz
          have cM := net_more aA ac amore HFIA.out (by have h : amore.length ≤ 20 := HAB.out.2; omega) ⟨ψ, hz⟩
          have CM := Lib.hid cM
          clear cM hz hwz z y0 y1 y2 ya yb CHAS CSIZE CFAU CFET H7 hne HM6 HMR
          go_wp2_with fail
          refine CM.out.mono ?_
          rintro e w8 ⟨rfl, χ, h8⟩
          have m6 : w8.cell? ⟨b6, 3, none⟩ = some (.slice aA amore.length ac) := (FACTS.out _ _ h8 (by simp)).2.2.2
          have m6d : w8.drew.cell? ⟨b6, 3, none⟩ = some (.slice aA amore.length ac) := m6
          have mr : w8.cell? ⟨r, 1, none⟩ = some (.slice A2 fs'.length c2) := h8.cell (g := r) (cs := rcells (some ⟨bb, oo, none⟩) (rOffs x.os).length c0 A2 fs'.length c2 cnt') (t := 53) (fr := (0, 0)) (by simp) 1
          have mrd : w8.drew.cell? ⟨r, 1, none⟩ = some (.slice A2 fs'.length c2) := mr
          have h9 := St.swap (A := χ.L' g m es cnt' ++ [(r, .cells (rcells (some ⟨bb, oo, none⟩) (rOffs x.os).length c0 A2 fs'.length c2 cnt') 53 (0, 0))]) (B := L2) (F := Lb ++ (La ++ [(b6, .cells #[.string anm, .int .i64 aat, .int .i64 amany, .slice aA amore.length ac] 48 (0, 0))])) (by simpa using h8)
          have hone := fall_one amore
          have hsrc := HFIA.out _ _ h9.drew1
          have H9 := Lib.hid h9; have HSRC := Lib.hid hsrc; have HONE := Lib.hid hone
          clear h9 h8 hsrc hone s3 CM
          go_wp2_with fail
          go_region_law (first
            | (refine step_append_row (F := (χ.L' g m es cnt' ++ [(r, .cells (rcells (some ⟨bb, oo, none⟩) (rOffs x.os).length c0 A2 fs'.length c2 cnt') 53 (0, 0))]) ++ (Lb ++ (La ++ [(b6, .cells #[.string anm, .int .i64 aat, .int .i64 amany, .slice aA amore.length ac] 48 (0, 0))]))) rfl (.tmp 125) (.tmp 127) _ rfl 36 (.agg #[.int .i64 0, .int .i64 0, .int .u8 0]) 3 24 Tryd.underlying33 (by kernel_rfl) rfl (by omega) rfl HR2.out (by exact H9.out.drew1) rfl (by exact HSRC.out) HONE.out (fs'.length + amore.length) rfl (fall fs' ++ fall amore) rfl (by have h : amore.length ≤ 20 := HAB.out.2; unfold maxLen; omega) (by have h : amore.length ≤ 20 := HAB.out.2; omega) ?_; intro A5 c5 w9 L5 hr5 h10; have g0 : w9.cell? ⟨r, 1, none⟩ = some (.slice A2 fs'.length c2) := h10.cell (g := r) (cs := rcells (some ⟨bb, oo, none⟩) (rOffs x.os).length c0 A2 fs'.length c2 cnt') (t := 53) (fr := (0, 0)) (by simp) 1; have g1 : w9.frozen? ⟨r, 1, none⟩ = false := h10.frozen (g := r) (cs := rcells (some ⟨bb, oo, none⟩) (rOffs x.os).length c0 A2 fs'.length c2 cnt') (t := 53) (by simp) 1))
          all_goals
            have h11 := set_end (A5, fs'.length + amore.length, c5) h10
            have hB2 : Both W (w9.setCell ⟨r, 1, none⟩ (.slice A5 (fs'.length + amore.length) c5)) J2 g m es r (some ⟨bb, oo, none⟩) (rOffs x.os).length c0 (fs' ++ amore) cnt' [] := by
              have hle : fs'.length + amore.length = (fs' ++ amore).length := by simp
              have hfa : fall fs' ++ fall amore = fall (fs' ++ amore) := by simp [fall]
              rw [hle] at hr5 h11 ⊢
              rw [hfa] at hr5
              exact ⟨χ, A5, c5, L5, hr5, h11⟩
            have HB2 := Lib.hid hB2
            clear h11 hB2 hr5 h10 g0 g1
            go_wp2_with fail
            refine ⟨⟨k + 1, fs' ++ amore, cnt', by go_num, by omega, by have h : amore.length ≤ 20 := HAB.out.2; rw [List.length_append]; omega, by omega, HB2.out⟩, ?_⟩
            simp [intOf]; omega
      · obtain rfl : k = asks.length := by omega
        obtain ⟨φ, A1, c1, L1, hr1, hst⟩ := hB
        have hfin := hst.below HLE.out
        clear hr1 hst
        go_wp2_with fail
        go_ret
        exact ⟨rfl, hfin⟩
end Go.Proofs.YtjmdhljhlcbneaaDoor
