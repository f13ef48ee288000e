/- order: where each serial's entry stands. -/
import Derived.Test.YtnjnooeldkideaaDoorMOrFi
import Derived.OwnWalk
namespace Go.Proofs.YtnjnooeldkideaaDoor
set_option linter.unusedVariables false
set_option linter.unusedSimpArgs false
open Go.RowKit Go.Lib Go.Deep
section
variable {W w : World} {J : Nat → Option Obj} {t : Tb} {F : List (Nat × Obj)}
variable {lA : Option Addr} {lc : Nat} {es : List En} {Le : List (Nat × Obj)}
theorem run_lookupI2 {P : Program} {t K E : TypeId} {w : World} {b : Nat} {l : List (Int × Int)} (ht : P.underlying t = some (.map K E)) (hK : P.underlying K = some (.int .i64)) (hb : w.heap[b]? = some (mapObjI l)) (hz : (zeroValue E).run P w = .ok (.int .i64 0) w) (k : Int) :
  (Instr.lookup t (.map (some b)) (.int .i64 k) true).run P w = .ok (.tuple #[.int .i64 (lk l k), .bool (lookI l k).isSome]) w := by
 obtain ⟨h1, h2⟩ := findI l k 0 0
 unfold mapObjI at hb
 unfold lk
 cases hl : lookI l k with
 | none =>
  have := h1 hl
  simp [Instr.lookup, Sem.run_bind, run_underlying ht, getObj, Sem.run, hb, Result.andThen, run_checkKey_int hK, Instr.findKey, run_underlying hK, this, hz]
 | some v =>
  obtain ⟨n, hn, _⟩ := h2 v hl
  simp [Instr.lookup, Sem.run_bind, run_underlying ht, getObj, Sem.run, hb, Result.andThen, run_checkKey_int hK, Instr.findKey, run_underlying hK, hn, hz]
theorem map_look {v : World} {X : List (Nat × Obj)} {b : Nat} {l : List (Int × Int)} (hv : St W v J X) (hm : (b, mapObjI l) ∈ X) (k : Int) : (Instr.lookup 59 (.map (some b)) (.int .i64 k) true).run Tryd.prog v = .ok (.tuple #[.int .i64 (lk l k), .bool (lookI l k).isSome]) v :=
 run_lookupI2 Tryd.underlying59 Tryd.underlying3 (hv.own _ hm) (by kernel_rfl) k
theorem map_put {v : World} {X : List (Nat × Obj)} {b : Nat} {l : List (Int × Int)} (hv : St W v J ((b, mapObjI l) :: X)) (k u : Int) : (Instr.mapUpdate 59 (.map (some b)) (.int .i64 k) (.int .i64 u)).run Tryd.prog v = .ok () (World.setB v b (mapObjI (putI l k u))) ∧ St W (World.setB v b (mapObjI (putI l k u))) J ((b, mapObjI (putI l k u)) :: X) :=
 ⟨run_mapUpdateI Tryd.underlying59 Tryd.underlying3 (hv.own _ (List.mem_cons_self ..)) k u, hv.setB⟩
def plStep (l : List (Int × Int)) (i : Nat) (e : En) : Option (List (Int × Int)) := if e.kind = 1 then (if (lookI l e.serial).isSome = true then none else some (putI l e.serial i)) else some l
def placesA : List En → Nat → List (Int × Int) → Option (List (Int × Int))
 | [], _, l => some l
 | e :: es, i, l => match plStep l i e with
  | some l' => placesA es (i + 1) l'
  | none => none
def placesM (es : List En) : Option (List (Int × Int)) := placesA es 0 []
def PlcPost (W : World) (J : Nat → Option Obj) (F : List (Nat × Obj)) (r : Option (List (Int × Int))) (e : Ending) (w' : World) : Prop := match r with
 | none => e = .returned (.tuple #[.map none, .bool false]) ∧ St W w' J F
 | some l => ∃ b, e = .returned (.tuple #[.map (some b), .bool true]) ∧ St W w' J ((b, mapObjI l) :: F)
theorem drop_cons {α : Type} {l : List α} {k : Nat} {x : α} (h : l[k]? = some x) : l.drop k = x :: l.drop (k + 1) := by
 obtain ⟨hk, hx⟩ := List.getElem?_eq_some_iff.1 h
 rw [List.drop_eq_getElem_cons hk, hx]
set_option maxRecDepth 100000 in
set_option maxHeartbeats 16000000 in
theorem o_places (hrd : Rd W J Le 126 lA (enRows es)) (hL : ∀ p ∈ Le, p ∈ F) (hn : es.length ≤ 100) (eok : ∀ e ∈ es, e.Ok) (h : St W w J F) :
  Calls Tryd.prog 20 #[.slice lA es.length lc] w (PlcPost W J F (placesM es)) := by
 have h1 := h.alloc (mapObjI [])
 obtain ⟨g, hg⟩ : ∃ g, w.heap.size = g := ⟨_, rfl⟩
 rw [hg] at h1
 have hmm := @run_makeMap Tryd.prog
 obtain ⟨R, hR⟩ : ∃ R, placesM es = R := ⟨_, rfl⟩
 rw [hR]
 unfold placesM at hR
 obtain ⟨NE, hNE⟩ : ∃ y, es.length = y := ⟨_, rfl⟩
 rw [hNE] at hn ⊢
 have fin0 : R = none → ∀ (v : World) (D : List (Nat × Obj)), St W v J (D ++ F) → PlcPost W J F R (.returned (.tuple #[.map none, .bool false])) v := fun hr v D hv => by rw [hr]; exact ⟨rfl, hv.weaken⟩
 have fin1 : ∀ l, R = some l → ∀ (v : World), St W v J ((g, mapObjI l) :: F) → PlcPost W J F R (.returned (.tuple #[.map (some g), .bool true])) v := fun l hr v hv => by rw [hr]; exact ⟨g, rfl, hv⟩
 have H1 := Lib.hid h1; have HR := Lib.hid hR; have HNE := Lib.hid hNE; have RD := Lib.hid hrd; have HL := Lib.hid hL; have EOK := Lib.hid eok; have FIN0 := Lib.hid fin0; have FIN1 := Lib.hid fin1
 clear h1 h hR hNE hrd hL eok fin0 fin1
 go_enter Tryd.func20, Tryd.ntmps20
 go_wp2_with fail
 clear hmm
 go_loopw [12] (fun v wr => ∃ (k : Nat) (l : List (Int × Int)), v = .int .i64 (k : Int) ∧ k ≤ NE ∧ placesA (es.drop k) k l = R ∧ St W wr J ((g, mapObjI l) :: F)) (fun v _ => NE - (intOf v).toNat)
 case atStart => exact ⟨0, [], rfl, by omega, HR.out, H1.out⟩
 case round =>
  obtain ⟨k, l, rfl, hk, hpa, hst⟩ := hrel
  clear H1
  by_cases hkl : k < NE
  ·obtain ⟨x, hx⟩ : ∃ o, es[k]? = some o := ⟨_, List.getElem?_eq_getElem (by rw [HNE.out]; exact hkl)⟩
   obtain ⟨b, off, rfl, hr⟩ := RD.out.en wr _ hst (fun p hp => by simp [HL.out p hp]) k x hx
   have xok := EOK.out x (List.mem_of_getElem? hx)
   have xi := en_info xok
   have xsz := En.size xok
   have xo := En.one x
   have h2 := hst.alloc (.cells Tryd.zeroCells38 38)
   rw [drop_cons hx] at hpa
   unfold placesA at hpa
   have hkind : ∀ (v : World) (X : List (Nat × Obj)) (b' : Nat), St W v J X → (b', Obj.cells x.cells 38 (0, 0)) ∈ X → v.cell? ⟨b', 0, none⟩ = some (.int .i64 x.kind) ∧ v.cell? ⟨b', 1, none⟩ = some (.int .i64 x.serial) := fun v X b' hv hm => ⟨(hv.en xok hm).kind, (hv.en xok hm).serial⟩
   obtain ⟨kd, hkd⟩ : ∃ y, x.kind = y := ⟨_, rfl⟩
   obtain ⟨sr, hsr⟩ : ∃ y, x.serial = y := ⟨_, rfl⟩
   have hps : plStep l k x = if kd = 1 then (if (lookI l sr).isSome = true then none else some (putI l sr k)) else some l := by unfold plStep; rw [hkd, hsr]
   rw [hkd, hsr] at hkind
   obtain ⟨X, hX⟩ : ∃ X, x.cells = X := ⟨_, rfl⟩
   rw [hX] at hr xi xsz xo hkind
   have xfit : 0 + X.size ≤ Tryd.zeroCells38.size := by rw [xsz, zent]; omega
   have xmany : setMany Tryd.zeroCells38 0 X.toList = X := by rw [setMany_whole _ _ (by rw [Array.length_toList, xsz, zent]), Array.toArray_toList]
   have HR2 := Lib.hid hr; have XI := Lib.hid xi; have XO := Lib.hid xo; have XF := Lib.hid xfit; have XM := Lib.hid xmany; have H2 := Lib.hid h2; have HPA := Lib.hid hpa; have HPS := Lib.hid hps; have HKD := Lib.hid hkind
   clear hst hr xi xo xsz xfit xmany h2 hpa hps hkind xok hx hX hkd hsr
   go_wp2_with (first | (with_reducible refine wpList_load_midg 16 rfl (by kernel_rfl) 38 (.tmp 15) rfl b (off + k * 126) rfl X _ HR2.out Tryd.underlying38 rfl XI.out ?_) | (with_reducible refine wpList_store_st rfl 38 (.tmp 6) (.tmp 16) rfl (g := wr.heap.size) (off := 0) X rfl rfl H2.out XF.out XI.out XO.out ?_; intro w3 h3; refine Hid.out ?_))
   refine Lib.hid ?_
   rw [XM.out] at h3
   obtain ⟨gx, hgx⟩ : ∃ y, wr.heap.size = y := ⟨_, rfl⟩
   rw [hgx] at h3 ⊢
   obtain ⟨c0, c1⟩ := HKD.out _ _ gx h3 (List.mem_cons_self ..)
   by_cases h1k : kd = 1
   ·subst h1k
    have b1 : ((1 : Int) != 1) = false := by decide
    have lu := map_look h3 (b := g) (l := l) (by simp) sr
    cases hlu : lookI l sr with
    | some i =>
     rw [hlu] at lu
     simp only [Option.isSome_some] at lu
     have hres : R = none := by
      have q := HPA.out
      rw [HPS.out, if_pos rfl, hlu] at q
      exact q.symm
     have HF := Lib.hid (FIN0.out hres _ [(gx, .cells X 38 (0, 0)), (g, mapObjI l)] h3)
     clear h3 H2 HR2 hgx hres hlu HPA HPS HKD
     go_wp2_with fail
     go_ret2
     exact HF.out
    | none =>
     rw [hlu] at lu
     simp only [Option.isSome_none] at lu
     obtain ⟨mu, h5⟩ := map_put (h3.perm (L' := (g, mapObjI l) :: (gx, .cells X 38 (0, 0)) :: F) (perm_count (fun i a => by simp only [List.count_append, List.count_cons, List.count_nil]; omega))) sr k
     have hnx : placesA (es.drop (k + 1)) (k + 1) (putI l sr k) = R := by
      have q := HPA.out
      rw [HPS.out, if_pos rfl, hlu] at q
      exact q
     have H5 := Lib.hid h5; have HNX := Lib.hid hnx
     clear h3 h5 H2 HR2 hgx hnx hlu HPA HPS HKD
     go_wp2_with fail
     go_roundw
     case rel => exact ⟨k + 1, putI l sr k, by go_num, by omega, HNX.out, H5.out.keep [(gx, .cells X 38 (0, 0))] (fun i a => by simp only [List.count_append, List.count_cons, List.count_nil]; omega)⟩
     case measure => simp [intOf]; omega
   ·have b1 : (kd != 1) = true := by simpa using h1k
    have hnx : placesA (es.drop (k + 1)) (k + 1) l = R := by
     have q := HPA.out
     rw [HPS.out, if_neg h1k] at q
     exact q
    have H3 := Lib.hid h3; have HNX := Lib.hid hnx
    clear h3 H2 HR2 hgx hnx HPA HPS HKD
    go_wp2_with fail
    go_roundw
    case rel => exact ⟨k + 1, l, by go_num, by omega, HNX.out, H3.out.weaken (A := [_])⟩
    case measure => simp [intOf]; omega
  ·obtain rfl : k = NE := by omega
   rw [List.drop_of_length_le (by rw [HNE.out]; omega)] at hpa
   have HF := Lib.hid (FIN1.out l hpa.symm _ hst)
   clear hst hpa
   go_wp2_with fail
   go_ret2
   exact HF.out
end
end Go.Proofs.YtnjnooeldkideaaDoor
