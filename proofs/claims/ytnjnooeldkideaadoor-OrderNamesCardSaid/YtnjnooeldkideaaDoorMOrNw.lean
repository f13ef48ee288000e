/- order: a model anew: the walk. order: is all placed that must be? order: may a span be placed next? -/
import Derived.Test.YtnjnooeldkideaaDoorMOrDo
import Derived.OwnWalk
import Derived.Deep.RegionHeld3
import Derived.Test.YtnjnooeldkideaaDoorMOrT
import Derived.Test.YtnjnooeldkideaaDoorMOrEn
namespace Go.Proofs.YtnjnooeldkideaaDoor
section
set_option linter.unusedVariables false
set_option linter.unusedSimpArgs false
open Go.RowKit Go.Lib Go.Deep
section
variable {W w : World} {J : Nat → Option Obj} {t : Tb} {F : List (Nat × Obj)}
variable {m : Md} {gm n c : Nat} {A : Option Addr} {ns : List ByteArray} {Ln : List (Nat × Obj)}
theorem step_append_row {P : Program} {W w : World} {I : Nat → Option Obj} {F L : List (Nat × Obj)} {ops : Array Oper} {o : Oper} {a : Act} {K : Act → World → Prop} {Q : Exit → Act → World → Prop} {E : Prop} (hgd : o.guard = none) (s x : Operand) (t : TypeId)
  (ho : o.op = .call { callee := .builtin .append, args := #[s, x], argTypes := #[t, t] })
  (e : TypeId) (z : Value) (size bytes : Nat) (ht : P.underlying t = some (.slice e)) (hi : (P.info? e).map (fun i => (i.zero, i.size, i.bytes)) = some (some z, size, bytes)) (hzs : z.cells.size = size) (hsz : 0 < size)
  {v : Value} {n : Nat} {xs : List Value} (hs : a.eval s = v) (hrow : Row e size v n xs L) (hst : St W w I (L ++ F)) {A : Option Addr} {m c : Nat} {news : List Value} (hx : a.eval x = .slice A m c) (hsrc : Src w size A m news) (h1 : ∀ u ∈ news, u.oneCell' = true)
  (k : Nat) (hk : n + m = k) (ys : List Value) (hys : xs ++ news = ys) (h63 : k ≤ maxLen) (hbytes : k * bytes ≤ 140737488355328)
  (h : ∀ A' c' w' L', Row e size (.slice A' k c') k ys L' → St W w' I (L' ++ F) → K (a.put o.dst (.slice A' k c')) w') :
  if Region.wanted o (yielded ops a.tmps) = true then Oper.wp P o a w K Q else E := by
 have hw : Region.wanted o (yielded ops a.tmps) = true := by simp [Region.wanted, hgd]
 rw [if_pos hw]
 subst hk
 subst hys
 obtain ⟨v', w', L', hr, h2, h3⟩ := run_append_row (P := P) t o.type e z size bytes ht hi hzs hsz hrow hst (c := c) hsrc h1 h63 hbytes
 unfold Oper.wp execOp
 simp only [ho, resolve, invoke, builtin, Sem.run_bind, Sem.run_pure, Result.andThen_ok, List.map_toArray, List.map_cons, List.map_nil, hs, hx, hr]
 obtain ⟨A', c', rfl⟩ := h2.shape
 exact h A' c' w' L' h2 h3
theorem Src.newS' (w : World) (size : Nat) (cs : Array Value) (t : TypeId) {b : Nat} (hb : w.heap.size = b) (n : Nat) (hn : cs.size = n * size) : Src (w.alloc (.cells cs t)) size (some ⟨b, 0, none⟩) n cs.toList := by
 subst hb
 refine ⟨by simpa using hn, fun j u hj => ⟨_, rfl, ?_⟩⟩
 rw [show (⟨w.heap.size, 0, none⟩ : Addr).add j = ⟨w.heap.size, j, none⟩ by unfold Addr.add; split <;> simp_all]
 exact cell_new rfl (by rw [← Array.getElem?_toList]; exact hj)
theorem newM_ok {t : Tb} (ok : t.Ok) (x : Int) : (newM t x).Ok := ⟨ok, by show -9223372036854775808 ≤ max 1 (min x 7); omega, by show max 1 (min x 7) ≤ 9223372036854775807; omega, zJ_ok, by show -9223372036854775808 ≤ (0 : Int); decide, by show (0 : Int) ≤ 9223372036854775807; decide⟩
set_option maxRecDepth 100000 in
set_option maxHeartbeats 8000000 in
theorem o_new (tb : Go.Proofs.YtnjnooeldkideaaDoor.TB W J) (t : Tb) (tok : t.Ok) (x : Int) (hx0 : -9223372036854775808 ≤ x) (hx1 : x ≤ 9223372036854775807) (hrd : Rd W J Ln 1 A (nmRows ns)) (hn : ns.length ≤ 1000) (hsz : ∀ s ∈ ns, s.size ≤ 1000000) (hL : ∀ p ∈ Ln, p ∈ F) (h : St W w J F) :
  Calls Tryd.prog 13 #[t.val, .slice A ns.length c, .int .i64 x] w fun e w' => ∃ g' A' c' L', e = .returned (.pointer (some ⟨g', 0, none⟩)) ∧ MOk J (newM t x) (filtN ns) A' (filtN ns).length c' L' ∧ St W w' J ((g', .cells ((newM t x).cells (.slice A' (filtN ns).length c')) 71 (0, 0)) :: (L' ++ F)) := by
 have mok := newM_ok tok x
 have h1 := h.alloc (.cells t.cells 32)
 obtain ⟨g, hg⟩ : ∃ g, w.heap.size = g := ⟨_, rfl⟩
 rw [hg] at h1
 have ra : (w.alloc (.cells t.cells 32)).rangeAt g 0 t.cells.toList := fun j u hj => by rw [Nat.zero_add, h1.cell (g := g) (List.mem_cons_self ..) j]; simpa using hj
 have ti := tb_info tok
 have bz := run_build_new t tok (max 1 (min x 7))
 have hbx := h1.alloc (.cells ((newM t x).cells (.slice none 0 0)) 71)
 rw [World.size_alloc, hg] at hbx
 have fin : ∀ (v : World) (A' : Option Addr) (c' : Nat) (L' : List (Nat × Obj)), Nms A' (filtN ns).length c' (filtN ns) L' → St W v J ((g + 1, .cells ((newM t x).cells (.slice A' (filtN ns).length c')) 71 (0, 0)) :: (L' ++ ((g, .cells t.cells 32 (0, 0)) :: F))) → ∃ g' A' c' L', Ending.returned (.pointer (some ⟨g + 1, 0, none⟩)) = .returned (.pointer (some ⟨g', 0, none⟩)) ∧ MOk J (newM t x) (filtN ns) A' (filtN ns).length c' L' ∧ St W v J ((g', .cells ((newM t x).cells (.slice A' (filtN ns).length c')) 71 (0, 0)) :: (L' ++ F)) := fun v A' c' L' hr hv =>
  ⟨g + 1, A', c', L', rfl, ⟨mok, by show (0 : Int) ≤ 0; decide, by show (0 : Int) ≤ 1000000; decide, hr, by have := filtN_len ns; omega⟩, hv.keep [(g, .cells t.cells 32 (0, 0))] (fun i a => by simp only [List.count_append, List.count_cons, List.count_nil]; omega)⟩
 have msz := fun v => Md.size mok.known v
 have m75 := fun (v : Value) (u : World) (X : List (Nat × Obj)) (hu : St W u J X) (hx : (g + 1, Obj.cells ((newM t x).cells v) 71 (0, 0)) ∈ X) => (hu.md mok hx).names
 have pn := fun v v' => Md.put_names mok.known v v'
 have e1 : (⟨t, max 1 (min x 7), zJ, 0⟩ : Md) = newM t x := rfl
 rw [e1] at bz
 unfold Tb.val
 obtain ⟨CT, hCT⟩ : ∃ y, t.cells = y := ⟨_, rfl⟩
 rw [hCT] at h1 ra ti bz hbx fin ⊢
 generalize newM t x = M0 at *
 obtain ⟨BX, hBX⟩ : ∃ y, M0.cells (.slice none 0 0) = y := ⟨_, rfl⟩
 have FIN := Lib.hid fin; have RA := Lib.hid ra; have TI := Lib.hid ti; have HBZ := Lib.hid bz; have H1 := Lib.hid hbx; have M75 := Lib.hid m75; have PN := Lib.hid pn; have MSZ := Lib.hid msz
 have RD := Lib.hid hrd; have HSZ := Lib.hid hsz; have HL := Lib.hid hL
 obtain ⟨N, hN⟩ : ∃ N, ns.length = N := ⟨_, rfl⟩
 rw [hN] at hn ⊢
 have HN := Lib.hid hN
 have I1 : Hid ((Tryd.prog.info? 43).map (·.size) = some 1) := Lib.hid (by kernel_rfl)
 clear fin ra ti bz hbx m75 pn msz hrd hsz hL h1 h tok mok hN e1 hCT hBX
 go_enter Tryd.func13, Tryd.ntmps13
 go_wp2_with (first | (with_reducible refine wpList_load_midg 10 rfl (by kernel_rfl) 32 (.tmp 3) rfl g 0 rfl CT _ RA.out Tryd.underlying32 rfl TI.out ?_) | (with_reducible refine wpList_build_go rfl 71 _ rfl _ ?_ (HBZ.out _) ?_; · go_simp))
 clear HBZ RA
 go_loopw [18] (fun i wr => ∃ (k : Nat) (A' : Option Addr) (c' : Nat) (L' : List (Nat × Obj)), i = .int .i64 k ∧ k ≤ N ∧ Nms A' (filtN (ns.take k)).length c' (filtN (ns.take k)) L' ∧ St W wr J ((g + 1, .cells (M0.cells (.slice A' (filtN (ns.take k)).length c')) 71 (0, 0)) :: (L' ++ ((g, .cells CT 32 (0, 0)) :: F)))) (fun i _ => N - (intOf i).toNat)
 case atStart => exact ⟨0, none, 0, [], rfl, by omega, Row.nil _ _, H1.out⟩
 case round =>
  obtain ⟨k, A', c', L', rfl, hk, hrow, hst⟩ := hrel
  clear H1
  by_cases hkl : k < N
  ·obtain ⟨sx, hsx⟩ : ∃ o, ns[k]? = some o := ⟨_, List.getElem?_eq_getElem (by rw [HN.out]; exact hkl)⟩
   obtain ⟨b, off, rfl, hcell⟩ := RD.out.at_ wr _ hst (fun p hp => by simp [HL.out p hp]) k [.string sx] (by unfold nmRows; rw [List.getElem?_map, hsx]; rfl)
   have c0 := hcell 0 _ rfl
   rw [Nat.mul_one, Nat.add_zero] at c0
   have hnext := filtN_take ns k sx hsx
   have hflen := filtN_len (ns.take k)
   rw [List.length_take] at hflen
   have hss := HSZ.out sx (List.mem_of_getElem? hsx)
   have kn := fun (v : World) (X : List (Nat × Obj)) (hv : St W v J X) => name_any tb sx (by omega) hv
   have kf := fun (v : World) (X : List (Nat × Obj)) (hv : St W v J X) => fold_any tb sx (by omega) hv
   have ef : (⟨(foldOf sx).toArray⟩ : ByteArray) = foldB sx := rfl
   rw [ef] at kf
   clear ef
   obtain ⟨no, hno⟩ : ∃ b, nameOk sx = b := ⟨_, rfl⟩
   rw [hno] at kn hnext
   generalize filtN (ns.take k) = fs at *
   obtain ⟨fx, hfx⟩ : ∃ y, foldB sx = y := ⟨_, rfl⟩
   rw [hfx] at kf hnext
   obtain ⟨fl, hfl⟩ : ∃ y, fs.length = y := ⟨_, rfl⟩
   rw [hfl] at hrow hst hflen
   have hfl1 : fl ≤ 1000 := by omega
   have KN := Lib.hid (kn _ _ hst); have KF := Lib.hid kf; have HNX := Lib.hid hnext; have HROW := Lib.hid hrow; have HFL := Lib.hid hfl
   clear kn kf hnext hrow hno hfx hcell hsx hss hflen hfl hst
   go_wp2_with fail
   refine KN.out.mono ?_
   rintro e w2 ⟨rfl, h2⟩
   clear KN c0
   cases no with
   | false =>
    have HN2 := Lib.hid (show filtN (ns.take (k + 1)) = fs from HNX.out)
    have H2 := Lib.hid h2
    clear HNX h2
    go_wp2_with fail
    go_roundw
    case rel => exact ⟨k + 1, A', c', L', by go_num, by omega, by rw [HN2.out, HFL.out]; exact HROW.out, by rw [HN2.out, HFL.out]; exact H2.out⟩
    case measure => simp [intOf]; omega
   | true =>
    have HN2 := Lib.hid (show filtN (ns.take (k + 1)) = fs ++ [fx] from HNX.out)
    have m75 := M75.out _ _ _ h2 (List.mem_cons_self ..)
    have h3 := h2.perm (L' := L' ++ ((g + 1, .cells (M0.cells (.slice A' fl c')) 71 (0, 0)) :: (g, .cells CT 32 (0, 0)) :: F)) (perm_count (fun i a => by simp only [List.count_append, List.count_cons, List.count_nil]; omega))
    have HDW := Lib.hid h2.drew1
    have s1 := M75.out _ _ _ HDW.out (List.mem_cons_self ..)
    clear HNX h2 h3 m75
    go_wp2_with fail
    refine wp_region_sink (S := fun v => v.cell? ⟨g + 1, 75, none⟩ = some (.slice A' fl c')) 11 (by kernel_rfl) (by kernel_rfl) rfl s1 (fun hHeld => ?_)
    dsimp only [List.take]
    refine tk op0 (v := ?_) (by kernel_rfl) ?_ (by assumption) ?_ fun _ _ _ h => h
    rotate_left
    ·(refine ya rfl fun w hSw => ?_; (try dsimp only at hSw); go_simp; try with_reducible rfl)
    try simp only [Act.put, pu1, pu2, pu3]
    refine tk op1 (v := ?_) (by kernel_rfl) ?_ (by assumption) ?_ fun _ _ _ h => h
    rotate_left
    ·(refine ya rfl fun w hSw => ?_; (try dsimp only at hSw); go_simp; try with_reducible rfl)
    try simp only [Act.put, pu1, pu2, pu3]
    refine tk op2 (v := ?_) (by kernel_rfl) ?_ (by assumption) ?_ fun _ _ _ h => h
    rotate_left
    ·(refine ya rfl fun w hSw => ?_; (try dsimp only at hSw); go_simp; try with_reducible rfl)
    try simp only [Act.put, pu1, pu2, pu3]
    refine tk op3 (v := ?_) (by kernel_rfl) ?_ (by assumption) ?_ fun _ _ _ h => h
    rotate_left
    ·(refine ya rfl fun w hSw => ?_; (try dsimp only at hSw); go_simp; try with_reducible rfl)
    try simp only [Act.put, pu1, pu2, pu3]
    refine tk op4 (v := ?_) (by kernel_rfl) ?_ (by assumption) ?_ fun _ _ _ h => h
    rotate_left
    ·((refine Or.inl ⟨by rfl, ?_⟩; intro w hSw; go_simp; try with_reducible rfl))
    try simp only [Act.put, pu1, pu2, pu3]
    refine tk op5 (v := ?_) (by kernel_rfl) ?_ (by assumption) ?_ fun _ _ _ h => h
    rotate_left
    ·(refine ya rfl fun w hSw => ?_; (try dsimp only at hSw); go_simp; try with_reducible rfl)
    try simp only [Act.put, pu1, pu2, pu3]
    refine rd1 op6 (by kernel_rfl) fun K hK => ?_
    go_simp
    ((go_at_call 25; (with_reducible refine (KF.out _ _ HDW.out).mono ?_); rintro e wf ⟨rfl, hfo⟩; dsimp only))
    refine hK.out _ _ ?_ fun hHeld => ?_
    ·(try dsimp only) <;> ((exact M75.out _ _ _ hfo (List.mem_cons_self ..)))
    clear hK K
    try simp only [Act.put, pu1, pu2, pu3]
    refine rd1 op7 (by kernel_rfl) fun K hK => ?_
    go_simp
    refine hK.out _ _ ?_ fun hHeld => ?_
    ·(try dsimp only) <;> ((exact M75.out _ _ _ (hfo.alloc_ (.cells #[.string fx] 9)) (List.mem_cons_self ..)))
    clear hK K
    try simp only [Act.put, pu1, pu2, pu3]
    refine rd1 op8 (by kernel_rfl) fun K hK => ?_
    ((refine step_append_row (F := (g + 1, .cells (M0.cells (.slice A' fl c')) 71 (0, 0)) :: (g, .cells CT 32 (0, 0)) :: F) rfl (.tmp 29) (.tmp 32) 43 rfl 9 (.string ⟨#[]⟩) 1 16 Tryd.underlying43 (by kernel_rfl) rfl (by omega) rfl HROW.out (St.perm (L' := L' ++ ((g + 1, .cells (M0.cells (.slice A' fl c')) 71 (0, 0)) :: (g, .cells CT 32 (0, 0)) :: F)) (hfo.alloc_ (.cells #[.string fx] 9)) (perm_count (fun i a => by simp only [List.count_append, List.count_cons, List.count_nil]; omega))) rfl (Src.newS' _ 1 #[.string fx] 9 rfl 1 rfl) (by intro u hu; simp at hu; rw [hu]; rfl) (fl + 1) rfl ((fs ++ [fx]).map Value.string) (by simp) (by unfold maxLen; omega) (by omega) ?_; intro A5 c5 w5 L5 hr5 h5'; have h5 := h5'.perm (L' := (g + 1, .cells (M0.cells (.slice A' fl c')) 71 (0, 0)) :: (L5 ++ ((g, .cells CT 32 (0, 0)) :: F))) (perm_count (fun i a => by simp only [List.count_append, List.count_cons, List.count_nil]; omega)); dsimp only))
    refine hK.out _ _ ?_ fun hHeld => ?_
    ·(try dsimp only) <;> ((exact M75.out _ _ _ h5 (by simp)))
    clear hK K
    try simp only [Act.put, pu1, pu2, pu3]
    refine tk op9 (v := ?_) (by kernel_rfl) ?_ (by assumption) ?_ fun _ _ _ h => h
    rotate_left
    ·(refine ya rfl fun w hSw => ?_; (try dsimp only at hSw); go_simp; try with_reducible rfl)
    try simp only [Act.put, pu1, pu2, pu3]
    refine tk (oq op0) (v := ?_) (by kernel_rfl) ?_ (by assumption) ?_ fun _ _ _ h => h
    rotate_left
    ·(refine ya rfl fun w hSw => ?_; (try dsimp only at hSw); go_simp; try with_reducible rfl)
    try simp only [Act.put, pu1, pu2, pu3]
    refine wpAnyH_done (by kernel_rfl) ?_ _
    have e5 := M75.out _ _ _ h5 (List.mem_cons_self ..)
    have f5 := h5.frozen (g := g + 1) (cs := M0.cells (.slice A' fl c')) (t := 71) (by simp) 75
    have h7 := St.set (A := []) h5 75 (.slice A5 (fl + 1) c5)
    rw [PN.out] at h7
    have hf2 := h7
    clear h7 h5' h5
    show wpList _ _ _ [_] _ _
    go_wp2_with fail
    go_roundw
    case rel => exact ⟨k + 1, A5, c5, L5, by go_num, by omega, by rw [HN2.out, List.length_append, HFL.out]; exact hr5, by rw [HN2.out, List.length_append, HFL.out]; exact hf2⟩
    case measure => simp [intOf]; omega
  ·obtain rfl : k = N := by omega
   rw [← HN.out, List.take_length] at hrow hst
   have HROW := Lib.hid hrow; have HST := Lib.hid hst
   clear hrow hst
   go_wp2_with fail
   go_ret
   exact FIN.out _ _ _ _ HROW.out HST.out
end
end

section
set_option linter.unusedVariables false
set_option linter.unusedSimpArgs false
open Go.RowKit Go.Lib Go.Deep
section
variable {W w : World} {J : Nat → Option Obj} {t : Tb} {F : List (Nat × Obj)}
variable {A B : Option Addr} {n c : Nat} {ss : List Sp} {es : List En} {Lx : List (Nat × Obj)}
def spRows (ss : List Sp) : List (List Value) := ss.map (fun s => s.cells.toList)
def enRows (es : List En) : List (List Value) := es.map (fun s => s.cells.toList)
set_option maxRecDepth 100000 in
set_option maxHeartbeats 4000000 in
theorem over_in (s : Sp) (h : St W w J F) : Calls Tryd.prog 59 #[s.val] w fun e w' => e = .returned (.bool (decide (0 < s.upto))) ∧ St W w' J F := by
 have h1 := h.alloc (.cells s.cells 40)
 obtain ⟨g, hg⟩ : ∃ g, w.heap.size = g := ⟨_, rfl⟩
 rw [hg] at h1
 have c2 := (h1.cell (g := g) (cs := s.cells) (t := 40) (fr := (0, 0)) (by simp) 2).trans s.at_.2.2
 unfold Sp.val
 obtain ⟨CA, hA⟩ : ∃ C, s.cells = C := ⟨_, rfl⟩
 rw [hA] at c2 h1 ⊢
 clear hA
 generalize s.upto = x at *
 have H1 := Lib.hid h1
 clear h h1
 go_enter Tryd.func59, Tryd.ntmps59
 go_wp2_with fail
 go_ret
 exact ⟨by simp, H1.out.weaken (A := [_])⟩
theorem Rd.sp (h : Rd W J Lx 88 A (spRows ss)) (v : World) (X : List (Nat × Obj)) (hv : St W v J X) (hL : ∀ p ∈ Lx, p ∈ X) (k : Nat) (s : Sp) (hk : ss[k]? = some s) : ∃ b off, A = some ⟨b, off, none⟩ ∧ v.rangeAt b (off + k * 88) s.cells.toList :=
 h.at_ v X hv hL k _ (by unfold spRows; rw [List.getElem?_map, hk]; rfl)
theorem Rd.en (h : Rd W J Lx 126 A (enRows es)) (v : World) (X : List (Nat × Obj)) (hv : St W v J X) (hL : ∀ p ∈ Lx, p ∈ X) (k : Nat) (s : En) (hk : es[k]? = some s) : ∃ b off, A = some ⟨b, off, none⟩ ∧ v.rangeAt b (off + k * 126) s.cells.toList :=
 h.at_ v X hv hL k _ (by unfold enRows; rw [List.getElem?_map, hk]; rfl)
def anyUp (ss : List Sp) : Bool := ss.any fun s => decide (0 < s.upto)
theorem anyUp_take (ss : List Sp) (k : Nat) (s : Sp) (h : ss[k]? = some s) : anyUp (ss.take (k + 1)) = (anyUp (ss.take k) || decide (0 < s.upto)) := by
 unfold anyUp
 rw [List.take_add_one, h, Option.toList_some, List.any_append]
 simp
set_option maxRecDepth 100000 in
set_option maxHeartbeats 4000000 in
theorem over_index (hrd : Rd W J Lx 88 A (spRows ss)) (sok : ∀ s ∈ ss, s.Ok) (hn : ss.length ≤ 1000) (hL : ∀ p ∈ Lx, p ∈ F) (h : St W w J F) :
  Calls Tryd.prog 81 #[.slice A ss.length c, .func (.func 59) #[] #[]] w fun e w' => ∃ z : Int, e = .returned (.int .i64 z) ∧ decide (z ≥ 0) = anyUp ss ∧ St W w' J F := by
 have kc := fun (s : Sp) (v : World) (X : List (Nat × Obj)) (hv : St W v J X) => over_in s hv
 unfold Sp.val at kc
 obtain ⟨N, hN⟩ : ∃ N, ss.length = N := ⟨_, rfl⟩
 rw [hN] at hn ⊢
 have H0 := Lib.hid h; have KC := Lib.hid kc; have RD := Lib.hid hrd; have HL := Lib.hid hL; have HN := Lib.hid hN; have SOK := Lib.hid sok
 have fin : ∀ (z : Int) (v : World), decide (z ≥ 0) = anyUp ss → St W v J F → ∃ z' : Int, Ending.returned (.int .i64 z) = .returned (.int .i64 z') ∧ decide (z' ≥ 0) = anyUp ss ∧ St W v J F := fun z v hz hv => ⟨z, rfl, hz, hv⟩
 have FIN := Lib.hid fin
 clear h kc hrd hL hN sok fin
 go_enter Tryd.func81, Tryd.ntmps81
 go_wp2_with fail
 go_loopw [8] (fun v wr => ∃ k : Nat, v = .int .i64 (k : Int) ∧ k ≤ N ∧ anyUp (ss.take k) = false ∧ St W wr J F) (fun v _ => N - (intOf v).toNat)
 case atStart => exact ⟨0, rfl, by omega, by simp [anyUp], H0.out⟩
 case round =>
  obtain ⟨k, rfl, hk, ha, hst⟩ := hrel
  clear H0
  by_cases hkl : k < N
  ·obtain ⟨x, hx⟩ : ∃ o, ss[k]? = some o := ⟨_, List.getElem?_eq_getElem (by rw [HN.out]; exact hkl)⟩
   obtain ⟨b, off, rfl, hr⟩ := RD.out.sp wr _ hst HL.out k x hx
   have hnx := anyUp_take ss k x hx
   rw [ha, Bool.false_or] at hnx
   have hin := sp_info (SOK.out x (List.mem_of_getElem? hx))
   have KX := Lib.hid (KC.out x _ _ hst)
   obtain ⟨X, hX⟩ : ∃ X, x.cells = X := ⟨_, rfl⟩
   obtain ⟨ub, hub⟩ : ∃ b, decide (0 < x.upto) = b := ⟨_, rfl⟩
   rw [hX] at hr hin KX
   rw [hub] at hnx KX
   have HR := Lib.hid hr; have HI := Lib.hid hin; have HNX := Lib.hid hnx
   clear hst hr hin hnx ha hx hX hub
   go_wp2_with (with_reducible refine wpList_load_midg 15 rfl (by kernel_rfl) 40 (.tmp 14) rfl b (off + k * 88) rfl X _ HR.out Tryd.underlying40 rfl HI.out ?_)
   refine KX.out.mono ?_
   rintro e w1 ⟨rfl, h1⟩
   have H2 := Lib.hid h1
   clear h1 KX HR
   cases ub with
   | true =>
    have hfin : decide ((k : Int) ≥ 0) = anyUp ss := by
     have e1 : anyUp ss = true := by
      have h2 := HNX.out
      unfold anyUp at h2 ⊢
      rw [List.any_eq_true] at h2 ⊢
      obtain ⟨q, hq, hq2⟩ := h2
      exact ⟨q, List.mem_of_mem_take hq, hq2⟩
     rw [e1]
     simp
    have HF := Lib.hid (FIN.out k _ hfin H2.out)
    clear hfin
    go_wp2_with fail
    go_ret
    exact HF.out
   | false =>
    go_wp2_with fail
    go_roundw
    case rel => exact ⟨k + 1, by go_num, by omega, HNX.out, H2.out⟩
    case measure => simp [intOf]; omega
  ·obtain rfl : k = N := by omega
   rw [← HN.out, List.take_length] at ha
   have HF := Lib.hid (FIN.out (-1) _ (by rw [ha]; rfl) hst)
   clear ha hst
   go_wp2_with fail
   go_ret
   exact HF.out
set_option maxRecDepth 100000 in
set_option maxHeartbeats 4000000 in
theorem over_has (hrd : Rd W J Lx 88 A (spRows ss)) (sok : ∀ s ∈ ss, s.Ok) (hn : ss.length ≤ 1000) (hL : ∀ p ∈ Lx, p ∈ F) (h : St W w J F) :
  Calls Tryd.prog 58 #[.slice A ss.length c, .func (.func 59) #[] #[]] w fun e w' => e = .returned (.bool (anyUp ss)) ∧ St W w' J F := by
 have k := over_index (c := c) hrd sok hn hL h
 generalize anyUp ss = R at *
 generalize ss.length = N at *
 have K := Lib.hid k
 clear k h hrd sok hL
 go_enter Tryd.func58, Tryd.ntmps58
 go_wp2_with fail
 refine K.out.mono ?_
 rintro e w1 ⟨z, rfl, hz, h1⟩
 have H2 := Lib.hid h1; have HZ := Lib.hid hz
 clear h1 hz K
 go_wp2_with fail
 go_ret
 exact ⟨by rw [← HZ.out]; rfl, H2.out⟩
def overB (ss : List Sp) (es : List En) : Bool := es.isEmpty && !anyUp ss
set_option maxRecDepth 100000 in
set_option maxHeartbeats 4000000 in
theorem o_over {k d : Nat} (hrd : Rd W J Lx 88 A (spRows ss)) (sok : ∀ s ∈ ss, s.Ok) (hn : ss.length ≤ 1000) (hk : es.length = k) (hL : ∀ p ∈ Lx, p ∈ F) (h : St W w J F) :
  Calls Tryd.prog 33 #[.agg #[.slice A ss.length c, .slice B k d]] w fun e w' => e = .returned (.bool (overB ss es)) ∧ St W w' J F := by
 have h1 := h.alloc (.cells #[.slice A ss.length c, .slice B k d] 66)
 have c0 := h1.cell (g := w.heap.size) (cs := #[.slice A ss.length c, .slice B k d]) (t := 66) (fr := (0, 0)) (by simp) 0
 have c1 := h1.cell (g := w.heap.size) (cs := #[.slice A ss.length c, .slice B k d]) (t := 66) (fr := (0, 0)) (by simp) 1
 have hc := over_has (c := c) hrd sok hn (fun p hp => List.mem_cons_of_mem _ (hL p hp)) h1
 have hR : overB ss es = (decide (k = 0) && !anyUp ss) := by
  unfold overB
  rw [← hk]
  cases es <;> simp
 rw [hR]
 generalize anyUp ss = R at *
 generalize ss.length = N at *
 have H1 := Lib.hid h1; have K := Lib.hid hc
 clear h1 h hrd sok hL hc hk hR
 by_cases h0 : k = 0
 ·subst h0
  go_enter Tryd.func33, Tryd.ntmps33
  go_wp2_with fail
  refine K.out.mono ?_
  rintro e w1 ⟨rfl, h1⟩
  have H2 := Lib.hid h1
  clear h1
  go_wp2_with fail
  go_ret
  exact ⟨by simp, H2.out.weaken (A := [_])⟩
 ·have b0 : ((k : Int) == 0) = false := by simpa using h0
  clear K
  go_enter Tryd.func33, Tryd.ntmps33
  go_wp2_with fail
  go_ret
  exact ⟨by simp [h0], H1.out.weaken (A := [_])⟩
end
end

section
set_option linter.unusedVariables false
set_option linter.unusedSimpArgs false
open Go.RowKit Go.Lib Go.Deep
section
variable {W w : World} {J : Nat → Option Obj} {t : Tb} {F : List (Nat × Obj)}
variable {A B : Option Addr} {n c : Nat} {ss : List Sp} {es : List En} {Lx : List (Nat × Obj)}
def mayL (y : Sp) (k : Nat) : List Sp → Nat → Bool
 | [], _ => true
 | x :: xs, i => (i == k || !aheadB x y) && mayL y k xs (i + 1)
def mayB (ss : List Sp) (k : Nat) : Bool := match ss[k]? with
 | some y => mayL y k ss 0
 | none => true
theorem mayL_app (y : Sp) (k : Nat) : ∀ (l l' : List Sp) (i : Nat), mayL y k (l ++ l') i = (mayL y k l i && mayL y k l' (i + l.length))
 | [], l', i => by simp [mayL]
 | x :: l, l', i => by
  rw [List.cons_append, mayL, mayL, mayL_app y k l l' (i + 1), Bool.and_assoc, List.length_cons, show i + 1 + l.length = i + (l.length + 1) by omega]
theorem mayL_take (y : Sp) (k j : Nat) (x : Sp) (h : ss[j]? = some x) : mayL y k (ss.take (j + 1)) 0 = (mayL y k (ss.take j) 0 && (j == k || !aheadB x y)) := by
 have hj := (List.getElem?_eq_some_iff.1 h).1
 rw [List.take_add_one, h, Option.toList_some, mayL_app]
 simp [mayL, List.length_take, Nat.min_eq_left (Nat.le_of_lt hj)]
theorem mayL_false (y : Sp) (k j : Nat) (h : mayL y k (ss.take j) 0 = false) : mayL y k ss 0 = false := by
 have e := mayL_app y k (ss.take j) (ss.drop j) 0
 rw [List.take_append_drop, h, Bool.false_and] at e
 exact e
theorem zspan : Tryd.zeroCells40.size = 88 := by kernel_rfl
theorem Sp.one (s : Sp) : s.cells.all (·.oneCell') = true := by
 have h0 : s.rep.cells.toList.all (·.oneCell') = true := by have h := s.rep.one; rw [← Array.all_toList] at h; exact h
 unfold Sp.cells
 rw [List.all_toArray, List.all_append, List.all_append, h0]
 rfl
set_option maxRecDepth 100000 in
set_option maxHeartbeats 4000000 in
theorem o_may {kk d : Nat} (k : Nat) (y : Sp) (hy : ss[k]? = some y) (hrd : Rd W J Lx 88 A (spRows ss)) (sok : ∀ s ∈ ss, s.Ok) (hn : ss.length ≤ 1000) (hL : ∀ p ∈ Lx, p ∈ F) (h : St W w J F) :
  Calls Tryd.prog 35 #[.agg #[.slice A ss.length c, .slice B kk d], .int .i64 k] w fun e w' => e = .returned (.bool (mayB ss k)) ∧ St W w' J F := by
 have hR : mayB ss k = mayL y k ss 0 := by unfold mayB; rw [hy]
 rw [hR]
 have hkN := (List.getElem?_eq_some_iff.1 hy).1
 obtain ⟨b, off, rfl, hry0⟩ := hrd.sp w _ h hL k y hy
 have h1 := h.alloc (.cells #[.slice (some ⟨b, off, none⟩) ss.length c, .slice B kk d] 66)
 obtain ⟨g, hg⟩ : ∃ g, w.heap.size = g := ⟨_, rfl⟩
 rw [hg] at h1
 have fc := fun (v : World) (X : List (Nat × Obj)) (hv : St W v J X) (hx : (g, Obj.cells #[.slice (some ⟨b, off, none⟩) ss.length c, .slice B kk d] 66 (0, 0)) ∈ X) => hv.cell hx 0
 have ka := fun (x : Sp) (v : World) (X : List (Nat × Obj)) (hv : St W v J X) => o_ahead x y hv
 have ry : ∀ (v : World) (X : List (Nat × Obj)), St W v J X → (∀ p ∈ Lx, p ∈ X) → v.rangeAt b (off + k * 88) y.cells.toList := fun v X hv hl => by
  obtain ⟨b', off', e, hc⟩ := hrd.sp v X hv hl k y hy
  injection e with e
  injection e with e1 e2
  subst e1 e2
  exact hc
 have yi := sp_info (sok y (List.mem_of_getElem? hy))
 unfold Sp.val at ka
 have fin : ∀ (r : Bool) (v : World) (D : List (Nat × Obj)), mayL y k ss 0 = r → St W v J (D ++ ((g, .cells #[.slice (some ⟨b, off, none⟩) ss.length c, .slice B kk d] 66 (0, 0)) :: F)) → (Ending.returned (.bool r) = .returned (.bool (mayL y k ss 0)) ∧ St W v J F) := fun r v D hr hv => ⟨by rw [hr], hv.keep (D ++ [(g, .cells #[.slice (some ⟨b, off, none⟩) ss.length c, .slice B kk d] 66 (0, 0))]) (fun i a => by simp only [List.count_append, List.count_cons, List.count_nil]; omega)⟩
 obtain ⟨N, hN⟩ : ∃ N, ss.length = N := ⟨_, rfl⟩
 rw [hN] at hn hkN h1 fc fin ⊢
 have H0 := Lib.hid h1; have KA := Lib.hid ka; have RD := Lib.hid hrd; have HL := Lib.hid hL; have HN := Lib.hid hN; have SOK := Lib.hid sok; have FIN := Lib.hid fin; have FC := Lib.hid fc; have HRY := Lib.hid ry
 have c0 := fc _ _ h1 (List.mem_cons_self ..)
 obtain ⟨Y, hY⟩ : ∃ Y, y.cells = Y := ⟨_, rfl⟩
 rw [hY] at KA HRY yi
 have YI := Lib.hid yi
 clear h h1 ka hrd hL hN sok fin fc ry hry0 yi hY hR
 obtain ⟨R, hRR⟩ : ∃ R, mayL y k ss 0 = R := ⟨_, rfl⟩
 rw [hRR] at FIN ⊢
 have HRR := Lib.hid hRR
 clear hRR
 go_enter Tryd.func35, Tryd.ntmps35
 go_wp2_with fail
 clear c0
 go_loopw [10] (fun v wr => ∃ j : Nat, v = .int .i64 (j : Int) ∧ j ≤ N ∧ mayL y k (ss.take j) 0 = true ∧ St W wr J ((g, .cells #[.slice (some ⟨b, off, none⟩) N c, .slice B kk d] 66 (0, 0)) :: F)) (fun v _ => N - (intOf v).toNat)
 case atStart => exact ⟨0, rfl, by omega, by simp [mayL], H0.out⟩
 case round =>
  obtain ⟨j, rfl, hj, hm, hst⟩ := hrel
  clear H0
  by_cases hjl : j < N
  ·obtain ⟨x, hx⟩ : ∃ o, ss[j]? = some o := ⟨_, List.getElem?_eq_getElem (by rw [HN.out]; exact hjl)⟩
   obtain ⟨b', off', e, hr⟩ := RD.out.sp wr _ hst (fun p hp => List.mem_cons_of_mem _ (HL.out p hp)) j x hx
   injection e with e
   injection e with e1 e2
   subst e1 e2
   have hnx := mayL_take y k j x hx
   rw [hm, Bool.true_and] at hnx
   have xok := SOK.out x (List.mem_of_getElem? hx)
   have xi := sp_info xok
   have xsz := Sp.size xok
   have xo : x.cells.all (·.oneCell') = true := Sp.one x
   have h2 := hst.alloc (.cells Tryd.zeroCells40 40)
   have kx := KA.out x
   obtain ⟨X, hX⟩ : ∃ X, x.cells = X := ⟨_, rfl⟩
   obtain ⟨ab, hab⟩ : ∃ b, aheadB x y = b := ⟨_, rfl⟩
   rw [hX] at hr xi xsz xo kx
   rw [hab] at hnx kx
   have xfit : 0 + X.size ≤ Tryd.zeroCells40.size := by rw [xsz, zspan]; omega
   have xmany : setMany Tryd.zeroCells40 0 X.toList = X := by rw [setMany_whole _ _ (by rw [Array.length_toList, xsz, zspan]), Array.toArray_toList]
   have HR := Lib.hid hr; have XI := Lib.hid xi; have XO := Lib.hid xo; have XF := Lib.hid xfit; have XM := Lib.hid xmany; have KX := Lib.hid kx; have HNX := Lib.hid hnx; have H2 := Lib.hid h2
   clear hst hr xi xo xsz xfit xmany kx hnx h2 hx xok hX hab hm
   go_wp2_with (first | (with_reducible refine wpList_load_midg 14 rfl (by kernel_rfl) 40 (.tmp 13) rfl b (off + j * 88) rfl X _ HR.out Tryd.underlying40 rfl XI.out ?_) | (with_reducible refine wpList_store_st rfl 40 (.tmp 6) (.tmp 14) rfl (g := wr.heap.size) (off := 0) X rfl rfl H2.out XF.out XI.out XO.out ?_; intro w3 h3; refine Hid.out ?_))
   refine Lib.hid ?_
   rw [XM.out] at h3
   obtain ⟨gx, hgx⟩ : ∃ y, wr.heap.size = y := ⟨_, rfl⟩
   rw [hgx] at h3 ⊢
   have H3 := Lib.hid h3
   clear h3 H2 hgx HR
   by_cases hjk : j = k
   ·have bj : ((j : Int) != (k : Int)) = false := by rw [hjk]; simp
    have hnx2 : mayL y k (ss.take (j + 1)) 0 = true := by rw [HNX.out, hjk]; simp
    have HNX2 := Lib.hid hnx2
    have cg := FC.out _ _ H3.out (by simp)
    clear hnx2 HNX KX hjk
    go_wp2_with fail
    go_quiet (fail)
    generalize hw13 : World.drewN _ _ = w13
    have h14 : St W w13 J ((g, .cells #[.slice (some ⟨b, off, none⟩) N c, .slice B kk d] 66 (0, 0)) :: F) := by rw [← hw13]; exact (H3.out.drew _).weaken (A := [_])
    clear hw13 H3 cg
    have H14 := Lib.hid h14
    clear h14
    go_wp2_with fail
    go_roundw
    case rel => exact ⟨j + 1, by go_num, by omega, HNX2.out, H14.out⟩
    case measure => simp [intOf]; omega
   ·have bj : ((j : Int) != (k : Int)) = true := by simp; omega
    have hnx2 : mayL y k (ss.take (j + 1)) 0 = !ab := by rw [HNX.out, show (j == k) = false by simpa using hjk]; simp
    have HNX2 := Lib.hid hnx2
    have fs := fun (v : World) (X' : List (Nat × Obj)) (hv : St W v J X') (h1 : (gx, Obj.cells X 40 (0, 0)) ∈ X') (h2 : (g, .cells #[.slice (some ⟨b, off, none⟩) N c, .slice B kk d] 66 (0, 0)) ∈ X') (h3 : ∀ p ∈ Lx, p ∈ X') => (⟨fun i u hi => (by rw [Nat.zero_add, hv.cell h1 i]; simpa using hi), FC.out _ _ hv h2, HRY.out _ _ hv h3⟩ : v.rangeAt gx 0 X.toList ∧ v.cell? ⟨g, 0, none⟩ = some (.slice (some ⟨b, off, none⟩) N c) ∧ v.rangeAt b (off + k * 88) Y.toList)
    have FSx := Lib.hid fs
    have HDW := Lib.hid H3.out.drew1
    have HLX := Lib.hid (show ∀ (o : Nat × Obj), ∀ p ∈ Lx, p ∈ o :: (g, .cells #[.slice (some ⟨b, off, none⟩) N c, .slice B kk d] 66 (0, 0)) :: F from fun o p hp => by simp [HL.out p hp])
    have s1 := fs _ _ HDW.out (by simp) (by simp) (HLX.out _)
    have HUS := Lib.hid Tryd.underlying40
    have XI2 : Hid ((Tryd.prog.info? 40).map (·.size) = some X.toList.length) := Lib.hid (by rw [Array.length_toList]; exact XI.out)
    have YI2 : Hid ((Tryd.prog.info? 40).map (·.size) = some Y.toList.length) := Lib.hid (by rw [Array.length_toList]; exact YI.out)
    clear hnx2 HNX fs hjk
    go_wp2_with fail
    refine wp_region_held_drew (S := fun v => v.rangeAt gx 0 X.toList ∧ v.cell? ⟨g, 0, none⟩ = some (.slice (some ⟨b, off, none⟩) N c) ∧ v.rangeAt b (off + k * 88) Y.toList) (by kernel_rfl) s1 (fun hHeld => ?_)
    refine tk op0 (v := ?_) (by kernel_rfl) ?_ (by assumption) ?_ fun _ _ _ h => h
    rotate_left
    ·(refine ya rfl fun w hSw => ?_; (try dsimp only at hSw); go_simp; try with_reducible rfl)
    try simp only [Act.put, pu1, pu2, pu3]
    refine tk op1 (v := ?_) (by kernel_rfl) ?_ (by assumption) ?_ fun _ _ _ h => h
    rotate_left
    ·(refine ya rfl fun w hSw => ?_; (try dsimp only at hSw); go_simp; try with_reducible rfl)
    try simp only [Act.put, pu1, pu2, pu3]
    refine tk op2 (v := ?_) (by kernel_rfl) ?_ (by assumption) ?_ fun _ _ _ h => h
    rotate_left
    ·(refine ya rfl fun w hSw => ?_; (try dsimp only at hSw); go_simp; try with_reducible rfl)
    try simp only [Act.put, pu1, pu2, pu3]
    refine tk op3 (v := ?_) (by kernel_rfl) ?_ (by assumption) ?_ fun _ _ _ h => h
    rotate_left
    ·(refine ya rfl fun w hSw => ?_; (try dsimp only at hSw); go_simp; try with_reducible rfl)
    try simp only [Act.put, pu1, pu2, pu3]
    refine tk op4 (v := ?_) (by kernel_rfl) ?_ (by assumption) ?_ fun _ _ _ h => h
    rotate_left
    ·(((refine yieldsIf_load_mid ?_ 40 (.tmp 6) ?_ gx 0 ?_ X.toList _ ?_ HUS.out ?_ XI2.out) <;> first | rfl | exact fun w h => h.1))
    try simp only [Act.put, pu1, pu2, pu3]
    refine tk op5 (v := ?_) (by kernel_rfl) ?_ (by assumption) ?_ fun _ _ _ h => h
    rotate_left
    ·(refine ya rfl fun w hSw => ?_; (try dsimp only at hSw); go_simp; try with_reducible rfl)
    try simp only [Act.put, pu1, pu2, pu3]
    refine tk op6 (v := ?_) (by kernel_rfl) ?_ (by assumption) ?_ fun _ _ _ h => h
    rotate_left
    ·((refine Or.inl ⟨by rfl, ?_⟩; intro w hSw; obtain ⟨hS1, hS2, hS3⟩ := hSw; go_simp; try with_reducible rfl))
    try simp only [Act.put, pu1, pu2, pu3]
    refine tk op7 (v := ?_) (by kernel_rfl) ?_ (by assumption) ?_ fun _ _ _ h => h
    rotate_left
    ·(refine ya rfl fun w hSw => ?_; (try dsimp only at hSw); go_simp; try with_reducible rfl)
    try simp only [Act.put, pu1, pu2, pu3]
    refine tk op8 (v := ?_) (by kernel_rfl) ?_ (by assumption) ?_ fun _ _ _ h => h
    rotate_left
    ·(refine ya rfl fun w hSw => ?_; (try dsimp only at hSw); go_simp; try with_reducible rfl)
    try simp only [Act.put, pu1, pu2, pu3]
    refine tk op9 (v := ?_) (by kernel_rfl) ?_ (by assumption) ?_ fun _ _ _ h => h
    rotate_left
    ·(((refine yieldsIf_load_mid ?_ 40 (.tmp 23) ?_ b (off + k * 88) ?_ Y.toList _ ?_ HUS.out ?_ YI2.out) <;> first | rfl | exact fun w h => h.2.2))
    try simp only [Act.put, pu1, pu2, pu3]
    refine rd1 (oq op0) (by kernel_rfl) fun K hK => ?_
    go_simp
    ((go_at_call 22; (with_reducible refine (KX.out _ _ HDW.out).mono ?_); rintro e wx ⟨rfl, hx⟩; dsimp only))
    refine hK.out _ _ ?_ fun hHeld => ?_
    ·(try dsimp only) <;> ((exact FSx.out _ _ hx (by simp) (by simp) (HLX.out _)))
    clear hK K
    try simp only [Act.put, pu1, pu2, pu3]
    refine tk (oq op1) (v := ?_) (by kernel_rfl) ?_ (by assumption) ?_ fun _ _ _ h => h
    rotate_left
    ·(refine ya rfl fun w hSw => ?_; (try dsimp only at hSw); go_simp; try with_reducible rfl)
    try simp only [Act.put, pu1, pu2, pu3]
    refine wpAnyH_done (by kernel_rfl) ?_ _
    have HX := Lib.hid hx
    clear hx s1 HDW FSx
    cases ab with
    | true =>
     have HF := Lib.hid (FIN.out false _ [_] (by rw [← HRR.out]; exact mayL_false y k (j + 1) (by rw [HNX2.out]; rfl)) HX.out)
     go_wp2_with fail
     go_ret
     exact HF.out
    | false =>
     go_wp2_with fail
     go_roundw
     case rel => exact ⟨j + 1, by go_num, by omega, HNX2.out, HX.out.weaken (A := [_])⟩
     case measure => simp [intOf]; omega
  ·obtain rfl : j = N := by omega
   rw [← HN.out, List.take_length] at hm
   have HF := Lib.hid (FIN.out true _ [] (by rw [← HRR.out]; exact hm) hst)
   clear hm hst
   go_wp2_with fail
   go_ret
   exact HF.out
end
end
end Go.Proofs.YtnjnooeldkideaaDoor
