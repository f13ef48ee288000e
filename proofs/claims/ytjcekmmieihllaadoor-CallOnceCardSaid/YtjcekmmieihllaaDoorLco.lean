/- CallOnce: the walk of the law. -/
import Derived.Test.YtjcekmmieihllaaDoorDqA
import Derived.Test.YtjcekmmieihllaaDoorCaV
import Derived.Test.YtjcekmmieihllaaDoorDkC
namespace Go.Proofs.YtjcekmmieihllaaDoor
set_option linter.unusedVariables false
set_option linter.unusedSimpArgs false
set_option linter.unnecessarySimpa false
open Go.RowKit Go.Lib

section
variable {W w : World} {I : Nat → Option Obj}
def MapsL (ow sg : Nat) (own stg : List (Int × Int)) (G : List (Nat × Obj)) : List (Nat × Obj) := (ow, mapObjI own) :: (sg, mapObjI stg) :: G
/-- The desk and both maps in memory. -/
def OnceL (gd gc ow sg : Nat) (ps : List Pn) (last : Int) (own stg : List (Int × Int)) (G : List (Nat × Obj)) : List (Nat × Obj) := DeskL gd gc ps last ++ MapsL ow sg own stg G
theorem perm4d {α : Type} (a b c d : α) : (a :: b :: [c, d]).Perm ([c, d] ++ (b :: [a])) := by
  have e1 : ([a, b] ++ [c, d]).Perm ([c, d] ++ [a, b]) := List.perm_append_comm
  exact e1.trans (((List.Perm.swap b a []).cons d).cons c)
theorem zero_int (w : World) : (zeroValue 3).run Tryd.prog w = .ok (.int .i64 0) w := by kernel_rfl
theorem St.lookI {LL : List (Nat × Obj)} (h : St W w I LL) {b : Nat} {l : List (Int × Int)} (hm : (b, mapObjI l) ∈ LL) (k : Int) : (Instr.lookup 34 (.map (some b)) (.int .i64 k) false).run Tryd.prog w = .ok (.int .i64 (lk l k)) w :=
  run_lookupI Tryd.underlying34 Tryd.underlying3 (h.own _ hm) (zero_int w) k
theorem St.putOwn {gd gc ow sg : Nat} {ps : List Pn} {last : Int} {own stg : List (Int × Int)} {G : List (Nat × Obj)} (h : St W w I (OnceL gd gc ow sg ps last own stg G)) (k v : Int) :
    ∃ w', (Instr.mapUpdate 34 (.map (some ow)) (.int .i64 k) (.int .i64 v)).run Tryd.prog w = .ok () w' ∧ St W w' I (OnceL gd gc ow sg ps last (putI own k v) stg G) := by
  have h1 := h.perm (List.perm_middle (l₁ := DeskL gd gc ps last) (a := (ow, mapObjI own)) (l₂ := (sg, mapObjI stg) :: G))
  exact ⟨_, run_mapUpdateI Tryd.underlying34 Tryd.underlying3 (h1.own _ (List.mem_cons_self ..)) k v, (St.setB h1).perm List.perm_middle.symm⟩
theorem St.putStg {gd gc ow sg : Nat} {ps : List Pn} {last : Int} {own stg : List (Int × Int)} {G : List (Nat × Obj)} (h : St W w I (OnceL gd gc ow sg ps last own stg G)) (k v : Int) :
    ∃ w', (Instr.mapUpdate 34 (.map (some sg)) (.int .i64 k) (.int .i64 v)).run Tryd.prog w = .ok () w' ∧ St W w' I (OnceL gd gc ow sg ps last own (putI stg k v) G) := by
  have e : (OnceL gd gc ow sg ps last own stg G).Perm ((sg, mapObjI stg) :: ((DeskL gd gc ps last ++ [(ow, mapObjI own)]) ++ G)) := by
    have : OnceL gd gc ow sg ps last own stg G = (DeskL gd gc ps last ++ [(ow, mapObjI own)]) ++ ((sg, mapObjI stg) :: G) := by simp [OnceL, MapsL]
    rw [this]
    exact List.perm_middle
  have h1 := h.perm e
  refine ⟨_, run_mapUpdateI Tryd.underlying34 Tryd.underlying3 (h1.own _ (List.mem_cons_self ..)) k v, ?_⟩
  have h2 := (St.setB (o' := mapObjI (putI stg k v)) h1).perm List.perm_middle.symm
  have : OnceL gd gc ow sg ps last own (putI stg k v) G = (DeskL gd gc ps last ++ [(ow, mapObjI own)]) ++ ((sg, mapObjI (putI stg k v)) :: G) := by simp [OnceL, MapsL]
  rw [this]
  exact h2
theorem startOnce {gd gc ow sg n : Nat} (h : St W w I ((sg, mapObjI []) :: (ow, mapObjI []) :: [(gd, .cells #[.slice (some ⟨gc, 0, none⟩) n n, .int .i64 0] 86 (0, 0)), (gc, .cells (dcells (List.replicate n zP)) 90 (0, 0))])) : St W w I (OnceL gd gc ow sg (List.replicate n zP) 0 [] [] []) := by
  unfold OnceL DeskL MapsL
  rw [List.length_replicate]
  exact h.perm (perm4d _ _ _ _)
theorem once8 {x : Nat × Obj} {gd gc ow sg : Nat} {ps : List Pn} {last : Int} {own stg : List (Int × Int)} {G : List (Nat × Obj)} (h : St W w I (x :: OnceL gd gc ow sg ps last own stg G)) : St W w I (OnceL gd gc ow sg ps last own stg (x :: G)) := by
  have e : OnceL gd gc ow sg ps last own stg (x :: G) = (DeskL gd gc ps last ++ [(ow, mapObjI own), (sg, mapObjI stg)]) ++ (x :: G) := by simp [OnceL, MapsL]
  have e2 : x :: OnceL gd gc ow sg ps last own stg G = x :: ((DeskL gd gc ps last ++ [(ow, mapObjI own), (sg, mapObjI stg)]) ++ G) := by simp [OnceL, MapsL]
  rw [e2] at h
  rw [e]
  exact h.perm List.perm_middle.symm
theorem once9 {gd gc ow sg : Nat} {ps : List Pn} {last : Int} {own stg : List (Int × Int)} {G : List (Nat × Obj)} (h : St W w I (OnceL gd gc ow sg ps last own stg G)) : St W w I (OnceL gd gc ow sg ps last own stg []) := by
  have e : OnceL gd gc ow sg ps last own stg G = (DeskL gd gc ps last ++ [(ow, mapObjI own), (sg, mapObjI stg)]) ++ G := by simp [OnceL, MapsL]
  have e2 : OnceL gd gc ow sg ps last own stg [] = (DeskL gd gc ps last ++ [(ow, mapObjI own), (sg, mapObjI stg)]) := by simp [OnceL, MapsL]
  rw [e] at h
  rw [e2]
  exact St.weaken (A := G) (h.perm List.perm_append_comm)
end
set_option maxRecDepth 100000 in
set_option maxHeartbeats 16000000 in
theorem walk_callOnce (W : World) (cv : CV0 W) {H : Type} {enc : TypeId × Value → H} {v0 v1 : Value} (a0 : Arg enc Tryd.prog W 3 v0) (a1 : Arg enc Tryd.prog W 31 v1) :
    Calls Tryd.prog 4 #[v0, v1] W fun e w' => e = .returned (.bool true) ∧ Below W.heap.size W w' := by
  obtain ⟨m0, rfl, hm0⟩ := a0.int Tryd.underlying3
  obtain ⟨A1, pl, pc, xs, rfl, hsl⟩ := a1.slice (α := Ac) (Q := fun cs a => cs = a.cells.toList ∧ a.rep.Ok ∧ (-9223372036854775808 ≤ a.n ∧ a.n ≤ 9223372036854775807) ∧ (a.call.name.size ≤ 1000000000 → a.call.Ok) ∧ a.call.name.size ≤ 9223372036854775807) (size := 87) Tryd.underlying31 (by kernel_rfl) (by decide) (fun cs h => Cel.act h)
  have hxs : ∀ k, k < pl → ∃ (b off : Nat) (a : Ac), A1 = some ⟨b, off, none⟩ ∧ (∀ (v : World) (L : List (Nat × Obj)), St W v (fun b => W.heap[b]?) L → v.rangeAt b (off + k * 87) a.cells.toList) ∧ a.rep.Ok ∧ (-9223372036854775808 ≤ a.n ∧ a.n ≤ 9223372036854775807) ∧ (a.call.name.size ≤ 1000000000 → a.call.Ok) ∧ a.call.name.size ≤ 9223372036854775807 := fun k hk => by
    obtain ⟨b, off, cs, h1, h2, h3, h4, h5⟩ := hsl.at_ k _ (List.getElem?_eq_getElem (by rw [hsl.len]; exact hk))
    refine ⟨b, off, _, h1, fun v L hv j u hj => ?_, h5⟩
    have hj2 := (List.getElem?_eq_some_iff.1 hj).1
    rw [← h4] at hj hj2
    exact hv.ro ((h3 j (by omega)).trans hj)
  have hpc := hsl.cap
  have hpm := hsl.cap'
  unfold maxLen at hpm
  obtain ⟨n, hn⟩ : ∃ n : Nat, max 1 (min m0 8) = (n : Int) := ⟨(max 1 (min m0 8)).toNat, by omega⟩
  have n1 : 1 ≤ n := by omega
  have n8' : n ≤ 8 := by omega
  have h0 := St.start W
  have kA := call_alive cv (fun J k => cv.more k) h0
  have kN := fun (v : World) (F : List (Nat × Obj)) (hv : St W v (fun b => W.heap[b]?) F) => desk_new m0 n hn hv
  have KA := Lib.hid kA; have KN := Lib.hid kN; have HXS := Lib.hid hxs; have CVV := Lib.hid cv
  clear kA kN hxs h0 cv a0 a1 hsl hn
  have hmm := @run_makeMap Tryd.prog
  go_enter Tryd.func4, Tryd.ntmps4
  go_wp2_with fail
  refine KA.out.mono ?_
  rintro e w1 ⟨rfl, h1⟩
  have hf : Below W.heap.size W w1 := h1.below (Le.refl _)
  have H1 := Lib.hid h1; have HF := Lib.hid hf
  clear h1 hf KA
  by_cases g1 : 120 < pl
  · have g1' : (120 : Int) < (pl : Int) := by omega
    clear g1
    go_wp2_with fail
    go_ret
    exact ⟨rfl, HF.out⟩
  have g1' : ¬ ((120 : Int) < (pl : Int)) := by omega
  clear HF
  go_wp2_with fail
  refine (KN.out _ _ H1.out).mono ?_
  rintro e w2 ⟨gd, gc, rfl, h2⟩
  have h3 := (h2.alloc (mapObjI [])).alloc (mapObjI [])
  rw [World.size_alloc] at h3
  obtain ⟨ow, how⟩ : ∃ x, w2.heap.size = x := ⟨_, rfl⟩
  rw [how] at h3
  have h4 := startOnce h3
  obtain ⟨sg, hsg⟩ : ∃ x, ow + 1 = x := ⟨_, rfl⟩
  rw [hsg] at h4
  have H4 := Lib.hid h4
  clear h3 h4 H1 KN h2
  go_wp2_with fail
  go_loopw [8, 32] (fun la i wr => ∃ (k : Nat) (ps : List Pn) (last : Int) (own stg : List (Int × Int)), i = .int .i64 k ∧ la = .int .i64 last ∧ k ≤ pl ∧ ps.length = n ∧ AllOk ps ∧ Once ps last own stg ∧ last ≤ k ∧ St W wr (fun b => W.heap[b]?) (OnceL gd gc ow sg ps last own stg [])) (fun _ i _ => pl - (intOf i).toNat)
  case atStart => exact ⟨0, _, _, _, _, rfl, rfl, by omega, List.length_replicate, fun p hp => by rw [List.eq_of_mem_replicate hp]; exact zP_ok, Once.start n, by omega, H4.out⟩
  case round =>
    obtain ⟨k, ps, last, own, stg, rfl, rfl, hk, hpn, ok, once, l1, hst⟩ := hrel
    have l0 := once.l0
    clear H4 hmm
    by_cases hlt : k < pl
    · obtain ⟨b, off, a, rfl, hra, okr, hna, okc, hnm⟩ := HXS.out k hlt
      have hlI : (k : Int) < (pl : Int) := by omega
      have h2 := hst.alloc (.cells Tryd.zeroCells46 46)
      have hsz := a.size okr
      have hact := a.at_
      have hrep := a.rep_at
      have hrg := hra _ _ hst
      have HI := Lib.hid (act_info a okr)
      have HO := Lib.hid a.one
      have HFT := Lib.hid (show 0 + a.cells.size ≤ (Tryd.zeroCells46).size from by rw [hsz]; decide)
      have HM := Lib.hid (show setMany Tryd.zeroCells46 0 a.cells.toList = a.cells from setMany_whole _ _ (by rw [Array.length_toList, hsz]; rfl))
      obtain ⟨n8, hn8⟩ : ∃ x, wr.heap.size = x := ⟨_, rfl⟩
      rw [hn8] at h2
      have HZ := Lib.hid h2; have HRG := Lib.hid hrg
      generalize hCC : a.cells = C at *
      have fa : ∀ (v : World) (LL : List (Nat × Obj)), St W v (fun b => W.heap[b]?) LL → (n8, Obj.cells C 46 (0, 0)) ∈ LL → v.cell? ⟨n8, 0, none⟩ = some (.int .i64 a.kind) ∧ v.cell? ⟨n8, 1, none⟩ = some (.int .i64 a.n) ∧ v.cell? ⟨n8, 2, none⟩ = some (.int .i64 a.call.client) ∧ v.cell? ⟨n8, 3, none⟩ = some (.int .i64 a.call.kind) ∧ v.cell? ⟨n8, 4, none⟩ = some (.int .i64 a.call.slot) ∧ v.cell? ⟨n8, 5, none⟩ = some (.int .i64 a.call.job) ∧ v.cell? ⟨n8, 6, none⟩ = some (.string a.call.name) := fun v LL hv hm => by
        have e := hv.cell (g := n8) (cs := C) (t := 46) (fr := (0, 0)) hm
        exact ⟨(e 0).trans hact.1, (e 1).trans hact.2.1, (e 2).trans hact.2.2.1, (e 3).trans hact.2.2.2.1, (e 4).trans hact.2.2.2.2.1, (e 5).trans hact.2.2.2.2.2.1, (e 6).trans hact.2.2.2.2.2.2⟩
      have hfin : ∀ v : World, St W v (fun b => W.heap[b]?) (OnceL gd gc ow sg ps last own stg [(n8, Obj.cells C 46 (0, 0))]) → Below W.heap.size W v := fun v hv => hv.below (Le.refl _)
      have kP : ∀ (i : Int) (v : World) (G : List (Nat × Obj)), St W v (fun b => W.heap[b]?) (DeskL gd gc ps last ++ G) → Calls Tryd.prog 16 #[.pointer (some ⟨gd, 0, none⟩), .int .i64 i] v fun e w' => e = .returned (.int .i64 (pendD ps i)) ∧ St W w' (fun b => W.heap[b]?) (DeskL gd gc ps last ++ G) := fun i v G hv => desk_pending ok (by rw [hpn]; exact n8') i hv
      have FA := Lib.hid fa; have ONCE := Lib.hid once; have OK := Lib.hid ok; have OKR := Lib.hid okr; have HPN := Lib.hid hpn; have HNA := Lib.hid hna; have OKC := Lib.hid okc; have HFIN := Lib.hid hfin; have KP := Lib.hid kP
      clear fa hrep hact hra hrg once ok okr hpn hsz hst h2 hCC hna okc hfin kP
      by_cases g3 : 300 < a.call.name.size
      · have g3' : (300 : Int) < (a.call.name.size : Int) := by omega
        clear g3 OKC ONCE OK HPN KP
        go_wp2_with (first | (with_reducible refine wpList_load_rg rfl 46 (.tmp 34) rfl (g := b) (off := off + k * 87) rfl C HRG.out _ Tryd.underlying46 rfl HI.out ?_) | (with_reducible refine wpList_store_st rfl 46 (.tmp 10) (.tmp 35) rfl (off := 0) C rfl rfl HZ.out HFT.out HI.out HO.out ?_; intro w4 h4; rw [HM.out] at h4; obtain ⟨e0, e1, e2, e3, e4, e5, e6⟩ := FA.out _ _ h4 (by simp); have HX := Lib.hid (once8 h4); clear h4))
        go_ret
        exact ⟨rfl, HFIN.out _ HX.out⟩
      have g3' : ¬ ((300 : Int) < (a.call.name.size : Int)) := by omega
      have okc := OKC.out (by omega)
      have OKC2 := Lib.hid okc
      have hnm2 : a.call.name.size ≤ 1000000 := by omega
      clear OKC okc HFIN
      by_cases g0 : a.kind = 0
      · as_aux_lemma =>
        have hs := ONCE.out.ask a.call
        have hok := askD_ok (last := last) OK.out a.call OKC2.out hnm2
        have kA := fun (v : World) (F : List (Nat × Obj)) (hv : St W v (fun b => W.heap[b]?) (DeskL gd gc ps last ++ F)) => desk_ask CVV.out.t CVV.out.t4 OK.out (by rw [HPN.out]; exact n8') l0 (by omega) a.call OKC2.out hnm2 hv
        have kR := fun (v : World) (F : List (Nat × Obj)) (hv : St W v (fun b => W.heap[b]?) F) => call_right CVV.out.t CVV.out.t4 a.call OKC2.out hv
        obtain ⟨r1, hr1⟩ : ∃ x, askD ps last a.call = x := ⟨_, rfl⟩
        rw [hr1] at hs hok
        simp only [hr1] at kA
        clear hr1
        obtain ⟨⟨ps', last'⟩, an, ae⟩ := r1
        dsimp only at hs hok kA
        obtain ⟨hs, hlen⟩ := hs
        obtain ⟨o1, o2, o3⟩ := hok
        rw [HPN.out] at hlen
        have gk : a.kind = 0 := g0
        clear g0
        rw [gk] at FA
        have KP1 := Lib.hid (KP.out a.call.client)
        have OK2 := Lib.hid o1; have HPN2 := Lib.hid hlen
        have KP2 := Lib.hid (fun (v : World) (G : List (Nat × Obj)) (hv : St W v (fun b => W.heap[b]?) (DeskL gd gc ps' last' ++ G)) => desk_pending o1 (by rw [hlen]; exact n8') a.call.client hv)
        clear KP OK HPN o1 hlen
        rcases hs with ⟨s0, s1, s2, s3, s4, s5, s6⟩ | ⟨s0, s1, s2⟩
        · subst s0 s2 s3
          rw [s1] at KP1
          rw [s4] at KP2
          rw [s5] at kR
          have KA2 := Lib.hid kA; have KR := Lib.hid kR; have ONCE2 := Lib.hid s6
          have sl1 : IntKind.i64.wrap (last + 1) = last + 1 := IntWalk.i64_in _ (by omega)
          clear kA kR s1 s4 s5 s6 ONCE OKC2 CVV
          go_wp2_with (first | (with_reducible refine wpList_load_rg rfl 46 (.tmp 34) rfl (g := b) (off := off + k * 87) rfl C HRG.out _ Tryd.underlying46 rfl HI.out ?_) | (with_reducible refine wpList_store_st rfl 46 (.tmp 10) (.tmp 35) rfl (off := 0) C rfl rfl HZ.out HFT.out HI.out HO.out ?_; intro w4 h4; rw [HM.out] at h4; obtain ⟨e0, e1, e2, e3, e4, e5, e6⟩ := FA.out _ _ h4 (by simp); have HX := Lib.hid (once8 h4); clear h4))
          refine (KP1.out _ _ HX.out).mono ?_
          rintro e w5 ⟨rfl, h5⟩
          obtain ⟨e0, e1, e2, e3, e4, e5, e6⟩ := FA.out _ _ h5 (by simp [OnceL, MapsL])
          have H5 := Lib.hid h5
          clear h5 HX KP1
          go_wp2_with fail
          refine (KA2.out _ _ H5.out).mono ?_
          rintro e w6 ⟨rfl, h6⟩
          obtain ⟨e0, e1, e2, e3, e4, e5, e6⟩ := FA.out _ _ h6 (by simp [OnceL, MapsL])
          have H6 := Lib.hid h6
          clear h6 H5 KA2
          go_wp2_with fail
          refine (KP2.out _ _ H6.out).mono ?_
          rintro e w7 ⟨rfl, h7⟩
          obtain ⟨e0, e1, e2, e3, e4, e5, e6⟩ := FA.out _ _ h7 (by simp [OnceL, MapsL])
          have H7 := Lib.hid h7
          clear h7 H6 KP2
          go_wp2_with fail
          refine (KR.out _ _ H7.out).mono ?_
          rintro e w8 ⟨rfl, h8⟩
          obtain ⟨e0, e1, e2, e3, e4, e5, e6⟩ := FA.out _ _ h8 (by simp [OnceL, MapsL])
          have h8' : St W w8 (fun b => W.heap[b]?) (OnceL gd gc ow sg ps' (last + 1) own stg [(n8, Obj.cells C 46 (0, 0))]) := h8
          obtain ⟨w9, hu9, h9⟩ := St.putOwn h8' (last + 1) a.call.client
          obtain ⟨e0, e1, e2, e3, e4, e5, e6⟩ := FA.out _ _ h9 (by simp [OnceL, MapsL])
          obtain ⟨w10, hu10, h10⟩ := St.putStg h9 (last + 1) 1
          have H10 := Lib.hid h10
          clear h8 h8' h9 h10 H7 KR FA
          go_wp2_with fail
          go_roundw
          case rel => exact ⟨k + 1, ps', last + 1, _, _, rfl, rfl, by omega, HPN2.out, OK2.out, ONCE2.out, by omega, once9 H10.out⟩
          case measure => simp [intOf]; omega
        · obtain ⟨rfl, rfl⟩ : ps' = ps ∧ last' = last := by simpa using s2
          subst s1
          have heb : (ae == 0) = false := beq_eq_false_iff_ne.2 s0
          have KA2 := Lib.hid kA
          obtain ⟨pd, hpd⟩ : ∃ x, pendD ps' a.call.client = x := ⟨_, rfl⟩
          rw [hpd] at KP1 KP2
          clear kA kR s2 OKC2 CVV hpd s0
          go_wp2_with (first | (with_reducible refine wpList_load_rg rfl 46 (.tmp 34) rfl (g := b) (off := off + k * 87) rfl C HRG.out _ Tryd.underlying46 rfl HI.out ?_) | (with_reducible refine wpList_store_st rfl 46 (.tmp 10) (.tmp 35) rfl (off := 0) C rfl rfl HZ.out HFT.out HI.out HO.out ?_; intro w4 h4; rw [HM.out] at h4; obtain ⟨e0, e1, e2, e3, e4, e5, e6⟩ := FA.out _ _ h4 (by simp); have HX := Lib.hid (once8 h4); clear h4))
          refine (KP1.out _ _ HX.out).mono ?_
          rintro e w5 ⟨rfl, h5⟩
          obtain ⟨e0, e1, e2, e3, e4, e5, e6⟩ := FA.out _ _ h5 (by simp [OnceL, MapsL])
          have H5 := Lib.hid h5
          clear h5 HX KP1
          go_wp2_with fail
          refine (KA2.out _ _ H5.out).mono ?_
          rintro e w6 ⟨rfl, h6⟩
          obtain ⟨e0, e1, e2, e3, e4, e5, e6⟩ := FA.out _ _ h6 (by simp [OnceL, MapsL])
          have H6 := Lib.hid h6
          clear h6 H5 KA2
          go_wp2_with fail
          refine (KP2.out _ _ H6.out).mono ?_
          rintro e w7 ⟨rfl, h7⟩
          have H7 := Lib.hid h7
          clear h7 H6 KP2 FA
          go_wp2_with fail
          go_roundw
          case rel => exact ⟨k + 1, ps', last', own, stg, rfl, rfl, by omega, HPN2.out, OK2.out, ONCE.out, by omega, once9 H7.out⟩
          case measure => simp [intOf]; omega
      have g0b : (a.kind == 0) = false := beq_eq_false_iff_ne.2 g0
      by_cases g1 : a.kind = 1
      · as_aux_lemma =>
        have hs := ONCE.out.next a.n
        have hok := nextD_ok OK.out a.n
        have kA := fun (v : World) (F : List (Nat × Obj)) (hv : St W v (fun b => W.heap[b]?) (DeskL gd gc ps last ++ F)) => desk_next OK.out (by rw [HPN.out]; exact n8') a.n HNA.out.2 hv
        have kW := fun (v : World) (F : List (Nat × Obj)) (hv : St W v (fun b => W.heap[b]?) (DeskL gd gc ps last ++ F)) => desk_waiting OK.out (by rw [HPN.out]; exact n8') hv
        have hwl := waitD_le ps
        obtain ⟨r1, hr1⟩ : ∃ x, nextD ps a.n = x := ⟨_, rfl⟩
        rw [hr1] at hs hok
        simp only [hr1] at kA
        clear hr1
        obtain ⟨ps', an, av, ab⟩ := r1
        dsimp only at hs hok kA
        obtain ⟨o1, okv⟩ := hok
        have gk : a.kind = 1 := g1
        clear g1
        rw [gk] at FA
        have fz := call_fit zC av
        have iz := call_info av
        have oz := av.one
        have av0 := av.at0
        obtain ⟨V, hV⟩ : ∃ x, av.cells = x := ⟨_, rfl⟩
        rw [hV] at fz iz oz av0
        simp only [hV] at kA
        have FZ : Hid (0 + V.size ≤ (#[Value.int .i64 0, .int .i64 0, .int .i64 0, .int .i64 0, .string ⟨#[]⟩] : Array Value).size) := Lib.hid fz.1
        have MZ : Hid (setMany #[Value.int .i64 0, .int .i64 0, .int .i64 0, .int .i64 0, .string ⟨#[]⟩] 0 V.toList = V) := Lib.hid fz.2
        have IZ := Lib.hid iz; have OZ := Lib.hid oz; have AV0 := Lib.hid av0
        have HWL := Lib.hid hwl
        have KA2 := Lib.hid kA
        clear fz iz oz hV av0 KP kA okv hwl OKC2
        rcases hs with ⟨s0, s1⟩ | ⟨s0, s1, s2, s3, s4, s5, s6⟩
        · simp only [Prod.mk.injEq] at s1
          obtain ⟨rfl, rfl, rfl, rfl⟩ := s1
          simp only [s0] at kW
          have KW := Lib.hid kW
          clear kW s0 o1
          go_wp2_with (first | (with_reducible refine wpList_load_rg rfl 46 (.tmp 34) rfl (g := b) (off := off + k * 87) rfl C HRG.out _ Tryd.underlying46 rfl HI.out ?_) | (with_reducible refine wpList_store_st rfl 46 (.tmp 10) (.tmp 35) rfl (off := 0) C rfl rfl HZ.out HFT.out HI.out HO.out ?_; intro w4 h4; rw [HM.out] at h4; obtain ⟨e0, e1, e2, e3, e4, e5, e6⟩ := FA.out _ _ h4 (by simp); have HX := Lib.hid (once8 h4); clear h4))
          refine (KW.out _ _ HX.out).mono ?_
          rintro e w5 ⟨rfl, h5⟩
          obtain ⟨e0, e1, e2, e3, e4, e5, e6⟩ := FA.out _ _ h5 (by simp [OnceL, MapsL])
          have H5 := Lib.hid h5
          clear h5 HX KW
          go_wp2_with fail
          refine (KA2.out _ _ H5.out).mono ?_
          rintro e w6 ⟨rfl, h6⟩
          have h6z := h6.alloc (.cells #[Value.int .i64 0, .int .i64 0, .int .i64 0, .int .i64 0, .string ⟨#[]⟩] 23)
          obtain ⟨n16, hn16⟩ : ∃ x, w6.heap.size = x := ⟨_, rfl⟩
          rw [hn16] at h6z
          have H6Z := Lib.hid h6z
          clear h6 h6z H5 KA2 FA
          go_wp2_with (with_reducible refine wpList_store_st rfl 23 (.tmp 16) (.tmp 167) rfl (off := 0) V rfl rfl H6Z.out FZ.out IZ.out OZ.out ?_; intro w9 h9; rw [MZ.out] at h9; have H7 := Lib.hid (once8 h9); clear h9)
          go_roundw
          case rel => exact ⟨k + 1, _, last, own, stg, rfl, rfl, by omega, HPN.out, OK.out, ONCE.out, by omega, once9 H7.out⟩
          case measure => simp [intOf]; omega
        · subst s1
          rw [HPN.out] at s5
          have kW2 := fun (v : World) (F : List (Nat × Obj)) (hv : St W v (fun b => W.heap[b]?) (DeskL gd gc ps' last ++ F)) => desk_waiting o1 (by rw [s5]; exact n8') hv
          obtain ⟨m1, hm1⟩ : ∃ m1 : Int, ((waitD ps : Nat) : Int) = m1 := ⟨_, rfl⟩
          have hm2 : ((waitD ps' : Nat) : Int) = m1 - 1 := by omega
          have hm3 : 0 < m1 := by omega
          have hm4 : m1 ≤ 8 := by have := HWL.out; rw [HPN.out] at this; omega
          simp only [hm1] at kW
          simp only [hm2] at kW2
          have KW := Lib.hid kW; have KW2 := Lib.hid kW2; have ONCE2 := Lib.hid s6; have OK2 := Lib.hid o1; have HPN2 := Lib.hid s5
          have S2 := Lib.hid s2; have S3 := Lib.hid s3
          clear kW kW2 s0 s2 s3 s4 s5 s6 o1 hm1 hm2 OK HPN ONCE HWL
          go_wp2_with (first | (with_reducible refine wpList_load_rg rfl 46 (.tmp 34) rfl (g := b) (off := off + k * 87) rfl C HRG.out _ Tryd.underlying46 rfl HI.out ?_) | (with_reducible refine wpList_store_st rfl 46 (.tmp 10) (.tmp 35) rfl (off := 0) C rfl rfl HZ.out HFT.out HI.out HO.out ?_; intro w4 h4; rw [HM.out] at h4; obtain ⟨e0, e1, e2, e3, e4, e5, e6⟩ := FA.out _ _ h4 (by simp); have HX := Lib.hid (once8 h4); clear h4))
          refine (KW.out _ _ HX.out).mono ?_
          rintro e w5 ⟨rfl, h5⟩
          obtain ⟨e0, e1, e2, e3, e4, e5, e6⟩ := FA.out _ _ h5 (by simp [OnceL, MapsL])
          have H5 := Lib.hid h5
          clear h5 HX KW
          go_wp2_with fail
          refine (KA2.out _ _ H5.out).mono ?_
          rintro e w6 ⟨rfl, h6⟩
          have h6z := h6.alloc (.cells #[Value.int .i64 0, .int .i64 0, .int .i64 0, .int .i64 0, .string ⟨#[]⟩] 23)
          obtain ⟨n16, hn16⟩ : ∃ x, w6.heap.size = x := ⟨_, rfl⟩
          rw [hn16] at h6z
          have H6Z := Lib.hid h6z
          clear h6 h6z H5 KA2 FA
          go_wp2_with (with_reducible refine wpList_store_st rfl 23 (.tmp 16) (.tmp 167) rfl (off := 0) V rfl rfl H6Z.out FZ.out IZ.out OZ.out ?_; intro w9 h9; rw [MZ.out] at h9; have c16 := (h9.cell (g := n16) (cs := V) (t := 23) (fr := (0, 0)) (by simp) 0).trans AV0.out; have ls := St.lookI h9 (b := sg) (l := stg) (by simp [MapsL]) an; have lo := St.lookI h9 (b := ow) (l := own) (by simp [MapsL]) an; rw [S2.out] at ls; rw [S3.out] at lo; have H7 := Lib.hid (once8 h9); clear h9)
          refine (KW2.out _ _ H7.out).mono ?_
          rintro e w8 ⟨rfl, h8⟩
          have h8' : St W w8 (fun b => W.heap[b]?) (OnceL gd gc ow sg ps' last own stg [(n16, Obj.cells V 23 (0, 0)), (n8, Obj.cells C 46 (0, 0))]) := h8
          obtain ⟨w9, hu9, h9⟩ := St.putStg h8' an 2
          have H9 := Lib.hid h9
          clear h8 h8' h9 H7 KW2
          go_wp2_with fail
          go_roundw
          case rel => exact ⟨k + 1, ps', last, own, _, rfl, rfl, by omega, HPN2.out, OK2.out, ONCE2.out, by omega, once9 H9.out⟩
          case measure => simp [intOf]; omega
      have g1b : (a.kind == 1) = false := beq_eq_false_iff_ne.2 g1
      by_cases g2 : a.kind = 2
      · as_aux_lemma =>
        have hs := ONCE.out.ans a.n
        have okj : (jR a.n).Ok := ⟨zR_ok.e0, zR_ok.e1, HNA.out.1, HNA.out.2, zR_ok.t0, zR_ok.t1, zR_ok.l0, zR_ok.l1, zR_ok.f0, zR_ok.f1, zR_ok.s0, zR_ok.s1, zR_ok.a0, zR_ok.a1, zR_ok.b0, zR_ok.b1, zR_ok.o0, zR_ok.o1⟩
        have hok := ansD_ok OK.out a.n (jR a.n) okj
        have kA : ∀ (v : World) (F : List (Nat × Obj)), St W v (fun b => W.heap[b]?) (DeskL gd gc ps last ++ F) → Calls Tryd.prog 20 #[.pointer (some ⟨gd, 0, none⟩), .int .i64 a.n, .agg (Tryd.zeroCells44.setIfInBounds 1 (.int .i64 a.n))] v fun e w' => e = .returned (.bool (ansD ps a.n (jR a.n)).2) ∧ St W w' (fun b => W.heap[b]?) (DeskL gd gc (ansD ps a.n (jR a.n)).1 last ++ F) := fun v F hv => desk_answer OK.out (by rw [HPN.out]; exact n8') a.n (jR a.n) okj hv
        obtain ⟨X, hX⟩ : ∃ x, Tryd.zeroCells44.setIfInBounds 1 (Value.int .i64 a.n) = x := ⟨_, rfl⟩
        simp only [hX] at kA
        have HBX := Lib.hid hX
        obtain ⟨r1, hr1⟩ : ∃ x, ansD ps a.n (jR a.n) = x := ⟨_, rfl⟩
        rw [hr1] at hs hok
        simp only [hr1] at kA
        clear hr1 hX okj KP
        obtain ⟨ps', ab⟩ := r1
        dsimp only at hs hok kA
        have KA2 := Lib.hid kA
        clear kA
        have gk : a.kind = 2 := g2
        clear g2 OKC2
        rw [gk] at FA
        have sx : ∀ (v : World) (LL : List (Nat × Obj)), St W v (fun b => W.heap[b]?) LL → (n8, Obj.cells C 46 (0, 0)) ∈ LL → (v.cell? ⟨n8, 1, none⟩ = some (.int .i64 a.n)) := fun v LL hv hm => (FA.out v LL hv hm).2.1
        have SX := Lib.hid sx
        clear sx
        obtain ⟨z, hz⟩ : ∃ z, lk stg a.n = z := ⟨_, rfl⟩
        have LS := Lib.hid hz
        rcases hs with ⟨s0, s1, s2, s3⟩ | ⟨s0, s1⟩
        · rw [hz] at s0
          subst s0 s1
          rw [HPN.out] at s2
          have ONCE2 := Lib.hid s3; have OK2 := Lib.hid hok; have HPN2 := Lib.hid s2
          clear s2 s3 hok hz OK HPN ONCE
          go_wp2_with (first | (with_reducible refine wpList_load_rg rfl 46 (.tmp 34) rfl (g := b) (off := off + k * 87) rfl C HRG.out _ Tryd.underlying46 rfl HI.out ?_) | (with_reducible refine wpList_store_st rfl 46 (.tmp 10) (.tmp 35) rfl (off := 0) C rfl rfl HZ.out HFT.out HI.out HO.out ?_; intro w4 h4; rw [HM.out] at h4; obtain ⟨e0, e1, e2, e3, e4, e5, e6⟩ := FA.out _ _ h4 (by simp); have HX := Lib.hid (once8 h4); clear h4))
          have hx : St W _ (fun b => W.heap[b]?) (DeskL gd gc ps last ++ MapsL ow sg own stg [(n8, Obj.cells C 46 (0, 0))]) := HX.out.drew1
          have ls0 := St.lookI hx (b := sg) (l := stg) (by simp [MapsL]) a.n
          rw [LS.out] at ls0
          clear HX
          refine wp_region_held_drew (S := fun v => (v.cell? ⟨n8, 1, none⟩ = some (.int .i64 a.n))) (by kernel_rfl) (SX.out _ _ hx (by simp [MapsL])) (fun hHeld => ?_)
          refine wpAnyH_take (i := 0) (oi := ?_) (v := ?_) ?_ ?_ ?_ ?_ ?_ ?_ ?_ ?_
          rotate_left 2
          · (simp only [List.getElem?_toArray, List.getElem?_cons_succ, List.getElem?_cons_zero]; exact rfl)
          · kernel_rfl
          · kernel_rfl
          · kernel_rfl
          · exact fun _ _ _ h => h
          · first | (refine Or.inl ⟨by rfl, ?_⟩; intro w hSw; (try dsimp only at hSw); go_simp; try with_reducible rfl) | (refine Or.inr ⟨by rfl, ?_⟩; rfl)
          · assumption
          try simp only [Act.put, List.setIfInBounds_toArray, List.set_cons_zero, List.set_cons_succ]
          try simp only [HBX.out]
          refine wpAnyH_take (i := 1) (oi := ?_) (v := ?_) ?_ ?_ ?_ ?_ ?_ ?_ ?_ ?_
          rotate_left 2
          · (simp only [List.getElem?_toArray, List.getElem?_cons_succ, List.getElem?_cons_zero]; exact rfl)
          · kernel_rfl
          · kernel_rfl
          · kernel_rfl
          · exact fun _ _ _ h => h
          · first | (refine Or.inl ⟨by rfl, ?_⟩; intro w hSw; (try dsimp only at hSw); go_simp; try with_reducible rfl) | (refine Or.inr ⟨by rfl, ?_⟩; rfl)
          · assumption
          try simp only [Act.put, List.setIfInBounds_toArray, List.set_cons_zero, List.set_cons_succ]
          try simp only [HBX.out]
          refine wpAnyH_take (i := 2) (oi := ?_) (v := ?_) ?_ ?_ ?_ ?_ ?_ ?_ ?_ ?_
          rotate_left 2
          · (simp only [List.getElem?_toArray, List.getElem?_cons_succ, List.getElem?_cons_zero]; exact rfl)
          · kernel_rfl
          · kernel_rfl
          · kernel_rfl
          · exact fun _ _ _ h => h
          · first | ((refine Or.inl ⟨by rfl, ?_⟩; intro w hSw; have hS1 := hSw; clear hSw; go_simp; try with_reducible rfl)) | (refine Or.inr ⟨by rfl, ?_⟩; rfl)
          · assumption
          try simp only [Act.put, List.setIfInBounds_toArray, List.set_cons_zero, List.set_cons_succ]
          try simp only [HBX.out]
          refine wpAnyH_take (i := 3) (oi := ?_) (v := ?_) ?_ ?_ ?_ ?_ ?_ ?_ ?_ ?_
          rotate_left 2
          · (simp only [List.getElem?_toArray, List.getElem?_cons_succ, List.getElem?_cons_zero]; exact rfl)
          · kernel_rfl
          · kernel_rfl
          · kernel_rfl
          · exact fun _ _ _ h => h
          · first | (refine Or.inl ⟨by rfl, ?_⟩; intro w hSw; (try dsimp only at hSw); go_simp; try with_reducible rfl) | (refine Or.inr ⟨by rfl, ?_⟩; rfl)
          · assumption
          try simp only [Act.put, List.setIfInBounds_toArray, List.set_cons_zero, List.set_cons_succ]
          try simp only [HBX.out]
          refine wpAnyH_take (i := 4) (oi := ?_) (v := ?_) ?_ ?_ ?_ ?_ ?_ ?_ ?_ ?_
          rotate_left 2
          · (simp only [List.getElem?_toArray, List.getElem?_cons_succ, List.getElem?_cons_zero]; exact rfl)
          · kernel_rfl
          · kernel_rfl
          · kernel_rfl
          · exact fun _ _ _ h => h
          · first | ((refine Or.inl ⟨by rfl, ?_⟩; intro w hSw; have hS1 := hSw; clear hSw; go_simp; try with_reducible rfl)) | (refine Or.inr ⟨by rfl, ?_⟩; rfl)
          · assumption
          try simp only [Act.put, List.setIfInBounds_toArray, List.set_cons_zero, List.set_cons_succ]
          try simp only [HBX.out]
          refine wpAnyH_take (i := 5) (oi := ?_) (v := ?_) ?_ ?_ ?_ ?_ ?_ ?_ ?_ ?_
          rotate_left 2
          · (simp only [List.getElem?_toArray, List.getElem?_cons_succ, List.getElem?_cons_zero]; exact rfl)
          · kernel_rfl
          · kernel_rfl
          · kernel_rfl
          · exact fun _ _ _ h => h
          · first | (refine Or.inl ⟨by rfl, ?_⟩; intro w hSw; (try dsimp only at hSw); go_simp; try with_reducible rfl) | (refine Or.inr ⟨by rfl, ?_⟩; rfl)
          · assumption
          try simp only [Act.put, List.setIfInBounds_toArray, List.set_cons_zero, List.set_cons_succ]
          try simp only [HBX.out]
          refine wpAnyH_take (i := 7) (oi := ?_) (v := ?_) ?_ ?_ ?_ ?_ ?_ ?_ ?_ ?_
          rotate_left 2
          · (simp only [List.getElem?_toArray, List.getElem?_cons_succ, List.getElem?_cons_zero]; exact rfl)
          · kernel_rfl
          · kernel_rfl
          · kernel_rfl
          · exact fun _ _ _ h => h
          · first | (refine Or.inl ⟨by rfl, ?_⟩; intro w hSw; (try dsimp only at hSw); go_simp; try with_reducible rfl) | (refine Or.inr ⟨by rfl, ?_⟩; rfl)
          · assumption
          try simp only [Act.put, List.setIfInBounds_toArray, List.set_cons_zero, List.set_cons_succ]
          try simp only [HBX.out]
          refine wpAnyH_take (i := 8) (oi := ?_) (v := ?_) ?_ ?_ ?_ ?_ ?_ ?_ ?_ ?_
          rotate_left 2
          · (simp only [List.getElem?_toArray, List.getElem?_cons_succ, List.getElem?_cons_zero]; exact rfl)
          · kernel_rfl
          · kernel_rfl
          · kernel_rfl
          · exact fun _ _ _ h => h
          · first | (refine Or.inl ⟨by rfl, ?_⟩; intro w hSw; (try dsimp only at hSw); go_simp; try with_reducible rfl) | (refine Or.inr ⟨by rfl, ?_⟩; rfl)
          · assumption
          try simp only [Act.put, List.setIfInBounds_toArray, List.set_cons_zero, List.set_cons_succ]
          try simp only [HBX.out]
          refine wpAnyH_take (i := 9) (oi := ?_) (v := ?_) ?_ ?_ ?_ ?_ ?_ ?_ ?_ ?_
          rotate_left 2
          · (simp only [List.getElem?_toArray, List.getElem?_cons_succ, List.getElem?_cons_zero]; exact rfl)
          · kernel_rfl
          · kernel_rfl
          · kernel_rfl
          · exact fun _ _ _ h => h
          · first | ((refine Or.inl ⟨by rfl, ?_⟩; intro w hSw; have hS1 := hSw; clear hSw; go_simp; try with_reducible rfl)) | (refine Or.inr ⟨by rfl, ?_⟩; rfl)
          · assumption
          try simp only [Act.put, List.setIfInBounds_toArray, List.set_cons_zero, List.set_cons_succ]
          try simp only [HBX.out]
          refine wpAnyH_ready (rs := [6, 10]) (by kernel_rfl) (by simp) ?_
          refine AllReadyH.cons (o := ?_) ?_ (fun K hK => ?_) ?_
          rotate_left 1
          · (simp only [List.getElem?_toArray, List.getElem?_cons_succ, List.getElem?_cons_zero]; exact rfl)
          · go_simp
            ((go_at_call 20; (with_reducible refine (KA2.out _ _ (by first | exact hx | exact hx.drew1)).mono ?_); rintro e wx ⟨rfl, hx⟩; have ls1 := St.lookI hx (b := sg) (l := stg) (by simp [MapsL]) a.n; rw [LS.out] at ls1; have e1x := (FA.out _ _ hx (by simp [MapsL])).2.1; dsimp only))
            refine hK.out _ _ ?_ (fun hHeld => ?_)
            · (try dsimp only) <;> (exact SX.out _ _ hx (by simp [MapsL]))
            clear hK K
            try simp only [Act.put, List.setIfInBounds_toArray, List.set_cons_zero, List.set_cons_succ]
            try simp only [HBX.out]
            refine wpAnyH_ready (rs := [10]) (by kernel_rfl) (by simp) ?_
            refine AllReadyH.cons (o := ?_) ?_ (fun K hK => ?_) ?_
            rotate_left 1
            · (simp only [List.getElem?_toArray, List.getElem?_cons_succ, List.getElem?_cons_zero]; exact rfl)
            · go_simp
              refine hK.out _ _ ?_ (fun hHeld => ?_)
              · (try dsimp only) <;> (exact SX.out _ _ hx (by simp [MapsL]))
              clear hK K
              try simp only [Act.put, List.setIfInBounds_toArray, List.set_cons_zero, List.set_cons_succ]
              try simp only [HBX.out]
              refine wpAnyH_take (i := 11) (oi := ?_) (v := ?_) ?_ ?_ ?_ ?_ ?_ ?_ ?_ ?_
              rotate_left 2
              · (simp only [List.getElem?_toArray, List.getElem?_cons_succ, List.getElem?_cons_zero]; exact rfl)
              · kernel_rfl
              · kernel_rfl
              · kernel_rfl
              · exact fun _ _ _ h => h
              · first | (refine Or.inl ⟨by rfl, ?_⟩; intro w hSw; (try dsimp only at hSw); go_simp; try with_reducible rfl) | (refine Or.inr ⟨by rfl, ?_⟩; rfl)
              · assumption
              try simp only [Act.put, List.setIfInBounds_toArray, List.set_cons_zero, List.set_cons_succ]
              try simp only [HBX.out]
              refine wpAnyH_take (i := 12) (oi := ?_) (v := ?_) ?_ ?_ ?_ ?_ ?_ ?_ ?_ ?_
              rotate_left 2
              · (simp only [List.getElem?_toArray, List.getElem?_cons_succ, List.getElem?_cons_zero]; exact rfl)
              · kernel_rfl
              · kernel_rfl
              · kernel_rfl
              · exact fun _ _ _ h => h
              · first | (refine Or.inl ⟨by rfl, ?_⟩; intro w hSw; (try dsimp only at hSw); go_simp; try with_reducible rfl) | (refine Or.inr ⟨by rfl, ?_⟩; rfl)
              · assumption
              try simp only [Act.put, List.setIfInBounds_toArray, List.set_cons_zero, List.set_cons_succ]
              try simp only [HBX.out]
              refine wpAnyH_done (by kernel_rfl) ?_ _
              (have h8 : St W wx (fun b => W.heap[b]?) (OnceL gd gc ow sg ps' last own stg [(n8, Obj.cells C 46 (0, 0))]) := hx; obtain ⟨w9, hu9, h9⟩ := St.putStg h8 a.n 3; have H9 := Lib.hid h9; clear h8 h9 hx SX KA2 FA; go_wp2_with fail; go_roundw; (case rel => exact ⟨k + 1, ps', last, own, _, rfl, rfl, by omega, HPN2.out, OK2.out, ONCE2.out, by omega, once9 H9.out⟩); (case measure => (simp [intOf]; omega)))
            exact AllReadyH.nil
          refine AllReadyH.cons (o := ?_) ?_ (fun K hK => ?_) ?_
          rotate_left 1
          · (simp only [List.getElem?_toArray, List.getElem?_cons_succ, List.getElem?_cons_zero]; exact rfl)
          · go_simp
            refine hK.out _ _ ?_ (fun hHeld => ?_)
            · (try dsimp only) <;> (exact SX.out _ _ hx (by simp [MapsL]))
            clear hK K
            try simp only [Act.put, List.setIfInBounds_toArray, List.set_cons_zero, List.set_cons_succ]
            try simp only [HBX.out]
            refine wpAnyH_take (i := 11) (oi := ?_) (v := ?_) ?_ ?_ ?_ ?_ ?_ ?_ ?_ ?_
            rotate_left 2
            · (simp only [List.getElem?_toArray, List.getElem?_cons_succ, List.getElem?_cons_zero]; exact rfl)
            · kernel_rfl
            · kernel_rfl
            · kernel_rfl
            · exact fun _ _ _ h => h
            · first | (refine Or.inl ⟨by rfl, ?_⟩; intro w hSw; (try dsimp only at hSw); go_simp; try with_reducible rfl) | (refine Or.inr ⟨by rfl, ?_⟩; rfl)
            · assumption
            try simp only [Act.put, List.setIfInBounds_toArray, List.set_cons_zero, List.set_cons_succ]
            try simp only [HBX.out]
            refine wpAnyH_ready (rs := [6]) (by kernel_rfl) (by simp) ?_
            refine AllReadyH.cons (o := ?_) ?_ (fun K hK => ?_) ?_
            rotate_left 1
            · (simp only [List.getElem?_toArray, List.getElem?_cons_succ, List.getElem?_cons_zero]; exact rfl)
            · go_simp
              ((go_at_call 20; (with_reducible refine (KA2.out _ _ (by first | exact hx | exact hx.drew1)).mono ?_); rintro e wx ⟨rfl, hx⟩; have ls1 := St.lookI hx (b := sg) (l := stg) (by simp [MapsL]) a.n; rw [LS.out] at ls1; have e1x := (FA.out _ _ hx (by simp [MapsL])).2.1; dsimp only))
              refine hK.out _ _ ?_ (fun hHeld => ?_)
              · (try dsimp only) <;> (exact SX.out _ _ hx (by simp [MapsL]))
              clear hK K
              try simp only [Act.put, List.setIfInBounds_toArray, List.set_cons_zero, List.set_cons_succ]
              try simp only [HBX.out]
              refine wpAnyH_take (i := 12) (oi := ?_) (v := ?_) ?_ ?_ ?_ ?_ ?_ ?_ ?_ ?_
              rotate_left 2
              · (simp only [List.getElem?_toArray, List.getElem?_cons_succ, List.getElem?_cons_zero]; exact rfl)
              · kernel_rfl
              · kernel_rfl
              · kernel_rfl
              · exact fun _ _ _ h => h
              · first | (refine Or.inl ⟨by rfl, ?_⟩; intro w hSw; (try dsimp only at hSw); go_simp; try with_reducible rfl) | (refine Or.inr ⟨by rfl, ?_⟩; rfl)
              · assumption
              try simp only [Act.put, List.setIfInBounds_toArray, List.set_cons_zero, List.set_cons_succ]
              try simp only [HBX.out]
              refine wpAnyH_done (by kernel_rfl) ?_ _
              (have h8 : St W wx (fun b => W.heap[b]?) (OnceL gd gc ow sg ps' last own stg [(n8, Obj.cells C 46 (0, 0))]) := hx; obtain ⟨w9, hu9, h9⟩ := St.putStg h8 a.n 3; have H9 := Lib.hid h9; clear h8 h9 hx SX KA2 FA; go_wp2_with fail; go_roundw; (case rel => exact ⟨k + 1, ps', last, own, _, rfl, rfl, by omega, HPN2.out, OK2.out, ONCE2.out, by omega, once9 H9.out⟩); (case measure => (simp [intOf]; omega)))
            exact AllReadyH.nil
          exact AllReadyH.nil
        · rw [hz] at s0
          simp only [Prod.mk.injEq] at s1
          obtain ⟨rfl, rfl⟩ := s1
          have hzb : (z == 2) = false := beq_eq_false_iff_ne.2 s0
          clear s0 hok hz
          go_wp2_with (first | (with_reducible refine wpList_load_rg rfl 46 (.tmp 34) rfl (g := b) (off := off + k * 87) rfl C HRG.out _ Tryd.underlying46 rfl HI.out ?_) | (with_reducible refine wpList_store_st rfl 46 (.tmp 10) (.tmp 35) rfl (off := 0) C rfl rfl HZ.out HFT.out HI.out HO.out ?_; intro w4 h4; rw [HM.out] at h4; obtain ⟨e0, e1, e2, e3, e4, e5, e6⟩ := FA.out _ _ h4 (by simp); have HX := Lib.hid (once8 h4); clear h4))
          have hx : St W _ (fun b => W.heap[b]?) (DeskL gd gc ps' last ++ MapsL ow sg own stg [(n8, Obj.cells C 46 (0, 0))]) := HX.out.drew1
          have ls0 := St.lookI hx (b := sg) (l := stg) (by simp [MapsL]) a.n
          rw [LS.out] at ls0
          clear HX
          refine wp_region_held_drew (S := fun v => (v.cell? ⟨n8, 1, none⟩ = some (.int .i64 a.n))) (by kernel_rfl) (SX.out _ _ hx (by simp [MapsL])) (fun hHeld => ?_)
          refine wpAnyH_take (i := 0) (oi := ?_) (v := ?_) ?_ ?_ ?_ ?_ ?_ ?_ ?_ ?_
          rotate_left 2
          · (simp only [List.getElem?_toArray, List.getElem?_cons_succ, List.getElem?_cons_zero]; exact rfl)
          · kernel_rfl
          · kernel_rfl
          · kernel_rfl
          · exact fun _ _ _ h => h
          · first | (refine Or.inl ⟨by rfl, ?_⟩; intro w hSw; (try dsimp only at hSw); go_simp; try with_reducible rfl) | (refine Or.inr ⟨by rfl, ?_⟩; rfl)
          · assumption
          try simp only [Act.put, List.setIfInBounds_toArray, List.set_cons_zero, List.set_cons_succ]
          try simp only [HBX.out]
          refine wpAnyH_take (i := 1) (oi := ?_) (v := ?_) ?_ ?_ ?_ ?_ ?_ ?_ ?_ ?_
          rotate_left 2
          · (simp only [List.getElem?_toArray, List.getElem?_cons_succ, List.getElem?_cons_zero]; exact rfl)
          · kernel_rfl
          · kernel_rfl
          · kernel_rfl
          · exact fun _ _ _ h => h
          · first | (refine Or.inl ⟨by rfl, ?_⟩; intro w hSw; (try dsimp only at hSw); go_simp; try with_reducible rfl) | (refine Or.inr ⟨by rfl, ?_⟩; rfl)
          · assumption
          try simp only [Act.put, List.setIfInBounds_toArray, List.set_cons_zero, List.set_cons_succ]
          try simp only [HBX.out]
          refine wpAnyH_take (i := 2) (oi := ?_) (v := ?_) ?_ ?_ ?_ ?_ ?_ ?_ ?_ ?_
          rotate_left 2
          · (simp only [List.getElem?_toArray, List.getElem?_cons_succ, List.getElem?_cons_zero]; exact rfl)
          · kernel_rfl
          · kernel_rfl
          · kernel_rfl
          · exact fun _ _ _ h => h
          · first | ((refine Or.inl ⟨by rfl, ?_⟩; intro w hSw; have hS1 := hSw; clear hSw; go_simp; try with_reducible rfl)) | (refine Or.inr ⟨by rfl, ?_⟩; rfl)
          · assumption
          try simp only [Act.put, List.setIfInBounds_toArray, List.set_cons_zero, List.set_cons_succ]
          try simp only [HBX.out]
          refine wpAnyH_take (i := 3) (oi := ?_) (v := ?_) ?_ ?_ ?_ ?_ ?_ ?_ ?_ ?_
          rotate_left 2
          · (simp only [List.getElem?_toArray, List.getElem?_cons_succ, List.getElem?_cons_zero]; exact rfl)
          · kernel_rfl
          · kernel_rfl
          · kernel_rfl
          · exact fun _ _ _ h => h
          · first | (refine Or.inl ⟨by rfl, ?_⟩; intro w hSw; (try dsimp only at hSw); go_simp; try with_reducible rfl) | (refine Or.inr ⟨by rfl, ?_⟩; rfl)
          · assumption
          try simp only [Act.put, List.setIfInBounds_toArray, List.set_cons_zero, List.set_cons_succ]
          try simp only [HBX.out]
          refine wpAnyH_take (i := 4) (oi := ?_) (v := ?_) ?_ ?_ ?_ ?_ ?_ ?_ ?_ ?_
          rotate_left 2
          · (simp only [List.getElem?_toArray, List.getElem?_cons_succ, List.getElem?_cons_zero]; exact rfl)
          · kernel_rfl
          · kernel_rfl
          · kernel_rfl
          · exact fun _ _ _ h => h
          · first | ((refine Or.inl ⟨by rfl, ?_⟩; intro w hSw; have hS1 := hSw; clear hSw; go_simp; try with_reducible rfl)) | (refine Or.inr ⟨by rfl, ?_⟩; rfl)
          · assumption
          try simp only [Act.put, List.setIfInBounds_toArray, List.set_cons_zero, List.set_cons_succ]
          try simp only [HBX.out]
          refine wpAnyH_take (i := 5) (oi := ?_) (v := ?_) ?_ ?_ ?_ ?_ ?_ ?_ ?_ ?_
          rotate_left 2
          · (simp only [List.getElem?_toArray, List.getElem?_cons_succ, List.getElem?_cons_zero]; exact rfl)
          · kernel_rfl
          · kernel_rfl
          · kernel_rfl
          · exact fun _ _ _ h => h
          · first | (refine Or.inl ⟨by rfl, ?_⟩; intro w hSw; (try dsimp only at hSw); go_simp; try with_reducible rfl) | (refine Or.inr ⟨by rfl, ?_⟩; rfl)
          · assumption
          try simp only [Act.put, List.setIfInBounds_toArray, List.set_cons_zero, List.set_cons_succ]
          try simp only [HBX.out]
          refine wpAnyH_take (i := 7) (oi := ?_) (v := ?_) ?_ ?_ ?_ ?_ ?_ ?_ ?_ ?_
          rotate_left 2
          · (simp only [List.getElem?_toArray, List.getElem?_cons_succ, List.getElem?_cons_zero]; exact rfl)
          · kernel_rfl
          · kernel_rfl
          · kernel_rfl
          · exact fun _ _ _ h => h
          · first | (refine Or.inl ⟨by rfl, ?_⟩; intro w hSw; (try dsimp only at hSw); go_simp; try with_reducible rfl) | (refine Or.inr ⟨by rfl, ?_⟩; rfl)
          · assumption
          try simp only [Act.put, List.setIfInBounds_toArray, List.set_cons_zero, List.set_cons_succ]
          try simp only [HBX.out]
          refine wpAnyH_take (i := 8) (oi := ?_) (v := ?_) ?_ ?_ ?_ ?_ ?_ ?_ ?_ ?_
          rotate_left 2
          · (simp only [List.getElem?_toArray, List.getElem?_cons_succ, List.getElem?_cons_zero]; exact rfl)
          · kernel_rfl
          · kernel_rfl
          · kernel_rfl
          · exact fun _ _ _ h => h
          · first | (refine Or.inl ⟨by rfl, ?_⟩; intro w hSw; (try dsimp only at hSw); go_simp; try with_reducible rfl) | (refine Or.inr ⟨by rfl, ?_⟩; rfl)
          · assumption
          try simp only [Act.put, List.setIfInBounds_toArray, List.set_cons_zero, List.set_cons_succ]
          try simp only [HBX.out]
          refine wpAnyH_take (i := 9) (oi := ?_) (v := ?_) ?_ ?_ ?_ ?_ ?_ ?_ ?_ ?_
          rotate_left 2
          · (simp only [List.getElem?_toArray, List.getElem?_cons_succ, List.getElem?_cons_zero]; exact rfl)
          · kernel_rfl
          · kernel_rfl
          · kernel_rfl
          · exact fun _ _ _ h => h
          · first | ((refine Or.inl ⟨by rfl, ?_⟩; intro w hSw; have hS1 := hSw; clear hSw; go_simp; try with_reducible rfl)) | (refine Or.inr ⟨by rfl, ?_⟩; rfl)
          · assumption
          try simp only [Act.put, List.setIfInBounds_toArray, List.set_cons_zero, List.set_cons_succ]
          try simp only [HBX.out]
          refine wpAnyH_ready (rs := [6, 10]) (by kernel_rfl) (by simp) ?_
          refine AllReadyH.cons (o := ?_) ?_ (fun K hK => ?_) ?_
          rotate_left 1
          · (simp only [List.getElem?_toArray, List.getElem?_cons_succ, List.getElem?_cons_zero]; exact rfl)
          · go_simp
            ((go_at_call 20; (with_reducible refine (KA2.out _ _ (by first | exact hx | exact hx.drew1)).mono ?_); rintro e wx ⟨rfl, hx⟩; have ls1 := St.lookI hx (b := sg) (l := stg) (by simp [MapsL]) a.n; rw [LS.out] at ls1; have e1x := (FA.out _ _ hx (by simp [MapsL])).2.1; dsimp only))
            refine hK.out _ _ ?_ (fun hHeld => ?_)
            · (try dsimp only) <;> (exact SX.out _ _ hx (by simp [MapsL]))
            clear hK K
            try simp only [Act.put, List.setIfInBounds_toArray, List.set_cons_zero, List.set_cons_succ]
            try simp only [HBX.out]
            refine wpAnyH_ready (rs := [10]) (by kernel_rfl) (by simp) ?_
            refine AllReadyH.cons (o := ?_) ?_ (fun K hK => ?_) ?_
            rotate_left 1
            · (simp only [List.getElem?_toArray, List.getElem?_cons_succ, List.getElem?_cons_zero]; exact rfl)
            · go_simp
              refine hK.out _ _ ?_ (fun hHeld => ?_)
              · (try dsimp only) <;> (exact SX.out _ _ hx (by simp [MapsL]))
              clear hK K
              try simp only [Act.put, List.setIfInBounds_toArray, List.set_cons_zero, List.set_cons_succ]
              try simp only [HBX.out]
              refine wpAnyH_take (i := 11) (oi := ?_) (v := ?_) ?_ ?_ ?_ ?_ ?_ ?_ ?_ ?_
              rotate_left 2
              · (simp only [List.getElem?_toArray, List.getElem?_cons_succ, List.getElem?_cons_zero]; exact rfl)
              · kernel_rfl
              · kernel_rfl
              · kernel_rfl
              · exact fun _ _ _ h => h
              · first | (refine Or.inl ⟨by rfl, ?_⟩; intro w hSw; (try dsimp only at hSw); go_simp; try with_reducible rfl) | (refine Or.inr ⟨by rfl, ?_⟩; rfl)
              · assumption
              try simp only [Act.put, List.setIfInBounds_toArray, List.set_cons_zero, List.set_cons_succ]
              try simp only [HBX.out]
              refine wpAnyH_take (i := 12) (oi := ?_) (v := ?_) ?_ ?_ ?_ ?_ ?_ ?_ ?_ ?_
              rotate_left 2
              · (simp only [List.getElem?_toArray, List.getElem?_cons_succ, List.getElem?_cons_zero]; exact rfl)
              · kernel_rfl
              · kernel_rfl
              · kernel_rfl
              · exact fun _ _ _ h => h
              · first | (refine Or.inl ⟨by rfl, ?_⟩; intro w hSw; (try dsimp only at hSw); go_simp; try with_reducible rfl) | (refine Or.inr ⟨by rfl, ?_⟩; rfl)
              · assumption
              try simp only [Act.put, List.setIfInBounds_toArray, List.set_cons_zero, List.set_cons_succ]
              try simp only [HBX.out]
              refine wpAnyH_done (by kernel_rfl) ?_ _
              (have H9 := Lib.hid (show St W wx (fun b => W.heap[b]?) (OnceL gd gc ow sg ps' last own stg [(n8, Obj.cells C 46 (0, 0))]) from hx); clear hx SX KA2 FA; go_wp2_with fail; go_roundw; (case rel => exact ⟨k + 1, ps', last, own, stg, rfl, rfl, by omega, HPN.out, OK.out, ONCE.out, by omega, once9 H9.out⟩); (case measure => (simp [intOf]; omega)))
            exact AllReadyH.nil
          refine AllReadyH.cons (o := ?_) ?_ (fun K hK => ?_) ?_
          rotate_left 1
          · (simp only [List.getElem?_toArray, List.getElem?_cons_succ, List.getElem?_cons_zero]; exact rfl)
          · go_simp
            refine hK.out _ _ ?_ (fun hHeld => ?_)
            · (try dsimp only) <;> (exact SX.out _ _ hx (by simp [MapsL]))
            clear hK K
            try simp only [Act.put, List.setIfInBounds_toArray, List.set_cons_zero, List.set_cons_succ]
            try simp only [HBX.out]
            refine wpAnyH_take (i := 11) (oi := ?_) (v := ?_) ?_ ?_ ?_ ?_ ?_ ?_ ?_ ?_
            rotate_left 2
            · (simp only [List.getElem?_toArray, List.getElem?_cons_succ, List.getElem?_cons_zero]; exact rfl)
            · kernel_rfl
            · kernel_rfl
            · kernel_rfl
            · exact fun _ _ _ h => h
            · first | (refine Or.inl ⟨by rfl, ?_⟩; intro w hSw; (try dsimp only at hSw); go_simp; try with_reducible rfl) | (refine Or.inr ⟨by rfl, ?_⟩; rfl)
            · assumption
            try simp only [Act.put, List.setIfInBounds_toArray, List.set_cons_zero, List.set_cons_succ]
            try simp only [HBX.out]
            refine wpAnyH_ready (rs := [6]) (by kernel_rfl) (by simp) ?_
            refine AllReadyH.cons (o := ?_) ?_ (fun K hK => ?_) ?_
            rotate_left 1
            · (simp only [List.getElem?_toArray, List.getElem?_cons_succ, List.getElem?_cons_zero]; exact rfl)
            · go_simp
              ((go_at_call 20; (with_reducible refine (KA2.out _ _ (by first | exact hx | exact hx.drew1)).mono ?_); rintro e wx ⟨rfl, hx⟩; have ls1 := St.lookI hx (b := sg) (l := stg) (by simp [MapsL]) a.n; rw [LS.out] at ls1; have e1x := (FA.out _ _ hx (by simp [MapsL])).2.1; dsimp only))
              refine hK.out _ _ ?_ (fun hHeld => ?_)
              · (try dsimp only) <;> (exact SX.out _ _ hx (by simp [MapsL]))
              clear hK K
              try simp only [Act.put, List.setIfInBounds_toArray, List.set_cons_zero, List.set_cons_succ]
              try simp only [HBX.out]
              refine wpAnyH_take (i := 12) (oi := ?_) (v := ?_) ?_ ?_ ?_ ?_ ?_ ?_ ?_ ?_
              rotate_left 2
              · (simp only [List.getElem?_toArray, List.getElem?_cons_succ, List.getElem?_cons_zero]; exact rfl)
              · kernel_rfl
              · kernel_rfl
              · kernel_rfl
              · exact fun _ _ _ h => h
              · first | (refine Or.inl ⟨by rfl, ?_⟩; intro w hSw; (try dsimp only at hSw); go_simp; try with_reducible rfl) | (refine Or.inr ⟨by rfl, ?_⟩; rfl)
              · assumption
              try simp only [Act.put, List.setIfInBounds_toArray, List.set_cons_zero, List.set_cons_succ]
              try simp only [HBX.out]
              refine wpAnyH_done (by kernel_rfl) ?_ _
              (have H9 := Lib.hid (show St W wx (fun b => W.heap[b]?) (OnceL gd gc ow sg ps' last own stg [(n8, Obj.cells C 46 (0, 0))]) from hx); clear hx SX KA2 FA; go_wp2_with fail; go_roundw; (case rel => exact ⟨k + 1, ps', last, own, stg, rfl, rfl, by omega, HPN.out, OK.out, ONCE.out, by omega, once9 H9.out⟩); (case measure => (simp [intOf]; omega)))
            exact AllReadyH.nil
          exact AllReadyH.nil
      have g2b : (a.kind == 2) = false := beq_eq_false_iff_ne.2 g2
      as_aux_lemma =>
        have hs := ONCE.out.take a.n
        have hok := takeD_ok OK.out a.n
        have kA := fun (v : World) (F : List (Nat × Obj)) (hv : St W v (fun b => W.heap[b]?) (DeskL gd gc ps last ++ F)) => desk_take OK.out (by rw [HPN.out]; exact n8') a.n hv
        obtain ⟨r1, hr1⟩ : ∃ x, takeD ps a.n = x := ⟨_, rfl⟩
        rw [hr1] at hs hok
        simp only [hr1] at kA
        clear hr1
        obtain ⟨ps', an, av, ab⟩ := r1
        dsimp only at hs hok kA
        obtain ⟨o1, okv⟩ := hok
        have fz := zr_whole Tryd.zeroCells44 (by decide) av okv
        have iz := rp_info av okv
        have oz := av.one
        have av1 : av.cells[1]? = some (.int .i64 av.job) := rfl
        obtain ⟨V, hV⟩ : ∃ x, av.cells = x := ⟨_, rfl⟩
        rw [hV] at fz iz oz av1
        simp only [hV] at kA
        have FZ := Lib.hid fz.1; have MZ := Lib.hid fz.2; have IZ := Lib.hid iz; have OZ := Lib.hid oz
        have KA2 := Lib.hid kA
        clear fz iz oz hV kA okv OKC2
        rcases hs with ⟨s0, s1, s2, s3, s4, s5, s6⟩ | ⟨s0, s1⟩
        · subst s0
          rw [HPN.out] at s5
          rw [s3] at av1
          have kP2 := fun (v : World) (F : List (Nat × Obj)) (hv : St W v (fun b => W.heap[b]?) (DeskL gd gc ps' last ++ F)) => desk_pending o1 (by rw [s5]; exact n8') a.n hv
          rw [s4] at kP2
          have KP2 := Lib.hid kP2; have ONCE2 := Lib.hid s6; have OK2 := Lib.hid o1; have HPN2 := Lib.hid s5
          have S2F := Lib.hid s1; have S3F := Lib.hid s2; have AV1 := Lib.hid av1
          clear kP2 s1 s2 s3 s4 s5 s6 o1 av1 OK HPN ONCE KP
          go_wp2_with (first | (with_reducible refine wpList_load_rg rfl 46 (.tmp 34) rfl (g := b) (off := off + k * 87) rfl C HRG.out _ Tryd.underlying46 rfl HI.out ?_) | (with_reducible refine wpList_store_st rfl 46 (.tmp 10) (.tmp 35) rfl (off := 0) C rfl rfl HZ.out HFT.out HI.out HO.out ?_; intro w4 h4; rw [HM.out] at h4; obtain ⟨e0, e1, e2, e3, e4, e5, e6⟩ := FA.out _ _ h4 (by simp); have HX := Lib.hid (once8 h4); clear h4))
          refine (KA2.out _ _ HX.out).mono ?_
          rintro e w6 ⟨rfl, h6⟩
          have h6z := h6.alloc (.cells Tryd.zeroCells44 44)
          obtain ⟨n19, hn19⟩ : ∃ x, w6.heap.size = x := ⟨_, rfl⟩
          rw [hn19] at h6z
          have H6Z := Lib.hid h6z
          clear h6 h6z HX KA2
          go_wp2_with (with_reducible refine wpList_store_st rfl 44 (.tmp 19) (.tmp 49) rfl (off := 0) V rfl rfl H6Z.out FZ.out IZ.out OZ.out ?_; intro w9 h9; rw [MZ.out] at h9; have c19 := (h9.cell (g := n19) (cs := V) (t := 44) (fr := (0, 0)) (by simp) 1).trans AV1.out; have ls := St.lookI h9 (b := sg) (l := stg) (by simp [MapsL]) an; have lo := St.lookI h9 (b := ow) (l := own) (by simp [MapsL]) an; rw [S2F.out] at ls; rw [S3F.out] at lo; obtain ⟨e0, e1, e2, e3, e4, e5, e6⟩ := FA.out _ _ h9 (by simp [MapsL]); have H7 := Lib.hid (once8 h9); clear h9)
          refine (KP2.out _ _ H7.out).mono ?_
          rintro e w8 ⟨rfl, h8⟩
          have h8' : St W w8 (fun b => W.heap[b]?) (OnceL gd gc ow sg ps' last own stg [(n19, Obj.cells V 44 (0, 0)), (n8, Obj.cells C 46 (0, 0))]) := h8
          obtain ⟨w9, hu9, h9⟩ := St.putStg h8' an 4
          have H9 := Lib.hid h9
          clear h8 h8' h9 H7 KP2 FA
          go_wp2_with fail
          go_roundw
          case rel => exact ⟨k + 1, ps', last, own, _, rfl, rfl, by omega, HPN2.out, OK2.out, ONCE2.out, by omega, once9 H9.out⟩
          case measure => simp [intOf]; omega
        · simp only [Prod.mk.injEq] at s0
          obtain ⟨rfl, rfl, rfl, rfl⟩ := s0
          obtain ⟨pd, hpd⟩ : ∃ x, pendD ps' a.n = x := ⟨_, rfl⟩
          have KP1 := Lib.hid (KP.out a.n)
          rw [hpd] at s1 KP1
          obtain ⟨z, hz⟩ : ∃ z, lk stg pd = z := ⟨_, rfl⟩
          rw [hz] at s1
          have LS := Lib.hid hz
          have hzb : (z == 3) = false := beq_eq_false_iff_ne.2 s1
          have AV1 := Lib.hid av1
          clear s1 hz hpd av1 o1 KP
          go_wp2_with (first | (with_reducible refine wpList_load_rg rfl 46 (.tmp 34) rfl (g := b) (off := off + k * 87) rfl C HRG.out _ Tryd.underlying46 rfl HI.out ?_) | (with_reducible refine wpList_store_st rfl 46 (.tmp 10) (.tmp 35) rfl (off := 0) C rfl rfl HZ.out HFT.out HI.out HO.out ?_; intro w4 h4; rw [HM.out] at h4; obtain ⟨e0, e1, e2, e3, e4, e5, e6⟩ := FA.out _ _ h4 (by simp); have HX := Lib.hid (once8 h4); clear h4))
          refine (KA2.out _ _ HX.out).mono ?_
          rintro e w6 ⟨rfl, h6⟩
          have h6z := h6.alloc (.cells Tryd.zeroCells44 44)
          obtain ⟨n19, hn19⟩ : ∃ x, w6.heap.size = x := ⟨_, rfl⟩
          rw [hn19] at h6z
          have H6Z := Lib.hid h6z
          clear h6 h6z HX KA2
          go_wp2_with (with_reducible refine wpList_store_st rfl 44 (.tmp 19) (.tmp 49) rfl (off := 0) V rfl rfl H6Z.out FZ.out IZ.out OZ.out ?_; intro w9 h9; rw [MZ.out] at h9; have c19 := (h9.cell (g := n19) (cs := V) (t := 44) (fr := (0, 0)) (by simp) 1).trans AV1.out; obtain ⟨e0, e1, e2, e3, e4, e5, e6⟩ := FA.out _ _ h9 (by simp [MapsL]); have H7 := Lib.hid (once8 h9); clear h9)
          refine (KP1.out _ _ H7.out).mono ?_
          rintro e w8 ⟨rfl, h8⟩
          have ls1 := St.lookI h8 (b := sg) (l := stg) (by simp [MapsL]) pd
          rw [LS.out] at ls1
          have h8' : St W w8 (fun b => W.heap[b]?) (OnceL gd gc ow sg ps' last own stg [(n19, Obj.cells V 44 (0, 0)), (n8, Obj.cells C 46 (0, 0))]) := h8
          have H9 := Lib.hid h8'
          clear h8 h8' H7 KP1 FA
          go_wp2_with fail
          go_roundw
          case rel => exact ⟨k + 1, ps', last, own, stg, rfl, rfl, by omega, HPN.out, OK.out, ONCE.out, by omega, once9 H9.out⟩
          case measure => simp [intOf]; omega
    · have hkn : ¬ (k : Int) < (pl : Int) := by omega
      have hf : Below W.heap.size W wr := hst.below (Le.refl _)
      have HF := Lib.hid hf
      clear hst hf once ok HXS
      go_wp2_with fail
      go_ret
      exact ⟨rfl, HF.out⟩
end Go.Proofs.YtjcekmmieihllaaDoor
