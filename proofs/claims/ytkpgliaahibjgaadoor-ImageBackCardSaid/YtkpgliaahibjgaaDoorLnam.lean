/- ImageNames: the walk of the law. -/
import Derived.Test.YtkpgliaahibjgaaDoorCutB
import Derived.Test.YtkpgliaahibjgaaDoorLtak
namespace Go.Proofs.YtkpgliaahibjgaaDoor
set_option linter.unusedVariables false
set_option linter.unusedSimpArgs false
open Go.RowKit Go.Lib

theorem hash_ne : (hashOf (1 :: List.replicate 63 0) == hashOf (List.replicate 64 0)) = false := by kernel_rfl
section
variable {W w : World} {J : Nat → Option Obj} {X L0 : List (Nat × Obj)} {s g want : Nat} {m : Man} {bs : List UInt8}
/-- An append of bytes beside a stream; the row turns no more. -/
theorem step_append_strm {ops : Array Oper} {o : Oper} {a : Act} {K : Act → World → Prop} {Q : Exit → Act → World → Prop} {E : Prop} (hgd : o.guard = none) (sx x : Operand) (t : TypeId)
    (ho : o.op = .call { callee := .builtin .append, args := #[sx, x], argTypes := #[t, t] }) (ht : Tryd.prog.underlying t = some (.slice 5))
    {v : Value} {n : Nat} {xs ys : List UInt8} (hs : a.eval sx = v) (hrow : Row 5 1 v n (xs.map bval) L0) (hst : Strm W w J s g m bs want (L0 ++ X)) {A : Option Addr} {l c : Nat} (hx : a.eval x = .slice A l c) (hl : l = ys.length) (hin : Part.In ⟨A, c, ys⟩ W J) (hn : n = xs.length)
    (k : Nat) (hk : n + l = k) (h63 : k ≤ 1000000)
    (h : ∀ A' c' w' J4, Le J J4 → Part.In ⟨A', c', xs ++ ys⟩ W J4 → Strm W w' J4 s g m bs want X → K (a.put o.dst (.slice A' k c')) w') :
    if Region.wanted o (yielded ops a.tmps) = true then Oper.wp Tryd.prog o a w K Q else E := by
  obtain ⟨G, hG, hst2⟩ := hst
  have h3 := St.swap (A := G ++ [(s, Obj.cells (sCells m g want) 71 (0, 0))]) (B := L0) (F := X) (by simpa using hst2)
  have hsrc := hin _ _ h3
  have hone : ∀ u ∈ ys.map bval, u.oneCell' = true := by intro u hu; obtain ⟨b, _, rfl⟩ := List.mem_map.1 hu; rfl
  subst hl
  refine step_append_row (F := (G ++ [(s, Obj.cells (sCells m g want) 71 (0, 0))]) ++ X) hgd sx x t ho 5 (.int .u8 0) 1 1 ht (by kernel_rfl) rfl (by omega) hs hrow h3 hx hsrc hone k hk ((xs ++ ys).map bval) (by rw [List.map_append]) (by unfold maxLen; omega) (by omega) ?_
  intro A' c' w' L' hr' h'
  have hlen : k = (xs ++ ys).length := by rw [List.length_append]; omega
  rw [hlen] at hr'
  obtain ⟨J4, j1, j2, j3⟩ := part_freeze hr' h'
  exact h A' c' w' J4 j1 j2 ⟨G, hG, by simpa using j3⟩
theorem row_one (g : Nat) : Row 5 1 (.slice (some ⟨g, 0, none⟩) 1 1) 1 (([1] : List UInt8).map bval) [(g, .cells #[.int .u8 1] 5 (0, 0))] := Row.whole 5 1 g 1 #[.int .u8 1] rfl (by unfold maxLen; omega)
theorem zero_right : rightM zman = false := by
  unfold rightM rightB zman
  simp
end

set_option maxRecDepth 100000 in
set_option maxHeartbeats 4000000 in
theorem walk_imageNames (W : World) (tabs : Tabs W) :
    Calls Tryd.prog 8 #[] W fun e w' => e = .returned (.bool true) ∧ Below W.heap.size W w' := by
  have t := TB.start tabs
  have kA := image_alive t (St.start W)
  have KA := Lib.hid kA; have T00 := Lib.hid t
  clear kA tabs t
  go_enter Tryd.func8, Tryd.ntmps8
  go_wp2_with fail
  refine KA.out.mono ?_
  rintro e w ⟨rfl, h⟩
  clear KA
  have t := T00.out
  have hmk := run_make_repl (P := Tryd.prog) 22 5 (.int .u8 0) 1 Tryd.underlying22 (by kernel_rfl) rfl 65 (by omega) (by omega)
  have h1 := h.alloc (.cells (Array.replicate 65 (.int .u8 0)) 5)
  obtain ⟨bs, hbs⟩ : ∃ bs : List UInt8, bs = List.replicate 65 0 := ⟨_, rfl⟩
  have hbc : bs.map bval = (Array.replicate 65 (Value.int .u8 0)).toList := by rw [hbs, Array.toList_replicate, List.map_replicate]; rfl
  have hbl : bs.length = 65 := by rw [hbs]; rfl
  obtain ⟨J, hle, hJ, h2⟩ := St.freeze h1
  have hin : Part.In ⟨some ⟨w.heap.size, 0, none⟩, 65, bs⟩ W J := part_lit hJ (fun j u hu => by rw [hbc, Array.getElem?_toList] at hu; exact hu)
  obtain ⟨b0, hb0⟩ : ∃ b, b = w.heap.size := ⟨_, rfl⟩
  rw [← hb0] at hin
  have tJ := t.more hle
  have hmak := rmake tJ ⟨#[99, 111, 114, 101]⟩ (by decide) 1 (by omega) (by omega) 64 (by omega) (by omega) ⟨some ⟨b0, 0, none⟩, 65, bs⟩ hin (by simp only; omega) (by simp only; omega) h2
  rw [hbl] at hmak
  generalize hV : (Array.replicate 65 (Value.int .u8 0)) = V at *
  have H2 := Lib.hid h2; have HMAK := Lib.hid hmak; have HBS := Lib.hid hbs; have HIN := Lib.hid hin; have TT := Lib.hid tJ; have HLE := Lib.hid hle; have HBL := Lib.hid hbl; have T0 := Lib.hid t; have H0 := Lib.hid h
  have hmk65 : ∀ w, (Instr.makeSlice 22 (.int .i64 65) (.int .i64 65)).run Tryd.prog w = .ok (.slice (some ⟨w.heap.size, 0, none⟩) 65 65) (w.alloc (.cells V 5)) := fun w => hmk w
  clear h h1 h2 hbc hJ hbs hin t tJ hle hmak hbl hV hmk
  clear T00
  go_wp2_with fail
  rw [← hb0]
  refine HMAK.out.mono ?_
  rintro e w1 ⟨hyes, -⟩
  clear hb0
  obtain ⟨c1, c2, -⟩ := core_right none 0 bs HBL.out
  obtain ⟨A, c, L0, rfl, hrow, h3⟩ := hyes c2
  rw [c1] at hrow ⊢
  obtain ⟨-, -, hright⟩ := core_right A c bs HBL.out
  have hl32 : ∀ h ∈ hashes bs 64 2, h.length = 32 := by
    intro h hh
    obtain ⟨k, _, rfl⟩ := List.mem_map.1 hh
    exact hashOf_len _
  have hr2 : Row 31 32 (.slice A (hashes bs 64 2).length c) (hashes bs 64 2).length (hcells (hashes bs 64 2)) L0 := by rw [hashes_len]; exact hrow
  obtain ⟨J2, hle2, hh, h4⟩ := hs_freeze hl32 hr2 h3
  have hok : (madeM ⟨#[99, 111, 114, 101]⟩ 1 64 bs A 2 c).Ok := madeM_ok (by omega) (by omega) (by omega) (by omega) (by have := HBL.out; omega) (by omega)
  have hs0 : (hashes bs 64 2)[0]? = some (hashOf (bs.take 64)) := rfl
  have hs1 : (hashes bs 64 2)[1]? = some (hashOf (bs.drop 64)) := by
    have : (bs.drop 64).take 64 = bs.drop 64 := List.take_of_length_le (by rw [List.length_drop, HBL.out]; omega)
    show some (hashOf ((bs.drop (1 * 64)).take 64)) = _
    rw [Nat.one_mul, this]
  have hsl := hashes_len bs 64 2
  obtain ⟨m, hm⟩ : ∃ m, m = madeM ⟨#[99, 111, 114, 101]⟩ 1 64 bs A 2 c := ⟨_, rfl⟩
  have hm1 : m.n = 2 ∧ m.size = 65 ∧ m.chunk = 64 ∧ m.dig = hashOf bs ∧ m.prod.size = 4 ∧ m.A = A := by
    rw [hm]
    exact ⟨rfl, by simp only [madeM]; rw [HBL.out]; rfl, rfl, rfl, rfl, rfl⟩
  rw [← hm] at hok hright ⊢
  generalize hashes bs 64 2 = hs at *
  obtain ⟨m1, m2, m3, m4, m5, m6⟩ := hm1
  rw [← m6] at hh
  have h5 := h4.alloc (.cells zman.cells 34)
  rw [zman_lit] at h5
  have hms := Man.cells_size hok
  have hmo := Man.one m
  have hmi : (Tryd.prog.info? 34).map (·.size) = some m.cells.size := by rw [hms]; kernel_rfl
  have hfx : 0 + m.cells.size ≤ (Value.string ⟨#[]⟩ :: .int .u64 0 :: .int .i64 0 :: .int .i64 0 :: .int .u8 0 :: .int .u8 0 :: .int .u8 0 :: .int .u8 0 :: .int .u8 0 :: .int .u8 0 :: .int .u8 0 :: .int .u8 0 :: .int .u8 0 :: .int .u8 0 :: .int .u8 0 :: .int .u8 0 :: .int .u8 0 :: .int .u8 0 :: .int .u8 0 :: .int .u8 0 :: .int .u8 0 :: .int .u8 0 :: .int .u8 0 :: .int .u8 0 :: .int .u8 0 :: .int .u8 0 :: .int .u8 0 :: .int .u8 0 :: .int .u8 0 :: .int .u8 0 :: .int .u8 0 :: .int .u8 0 :: .int .u8 0 :: .int .u8 0 :: .int .u8 0 :: .int .u8 0 :: .slice none 0 0 :: []).toArray.size := by rw [hms]; decide
  have hsm : setMany (Value.string ⟨#[]⟩ :: .int .u64 0 :: .int .i64 0 :: .int .i64 0 :: .int .u8 0 :: .int .u8 0 :: .int .u8 0 :: .int .u8 0 :: .int .u8 0 :: .int .u8 0 :: .int .u8 0 :: .int .u8 0 :: .int .u8 0 :: .int .u8 0 :: .int .u8 0 :: .int .u8 0 :: .int .u8 0 :: .int .u8 0 :: .int .u8 0 :: .int .u8 0 :: .int .u8 0 :: .int .u8 0 :: .int .u8 0 :: .int .u8 0 :: .int .u8 0 :: .int .u8 0 :: .int .u8 0 :: .int .u8 0 :: .int .u8 0 :: .int .u8 0 :: .int .u8 0 :: .int .u8 0 :: .int .u8 0 :: .int .u8 0 :: .int .u8 0 :: .int .u8 0 :: .slice none 0 0 :: []).toArray 0 m.cells.toList = m.cells := by rw [setMany_whole _ _ (by rw [Array.length_toList, hms]; rfl), Array.toArray_toList]
  have hval : m.val = .agg m.cells := rfl
  rw [hval]
  have hNew := fun (v : World) (hv : St W v J2 ((w1.heap.size, .cells m.cells 34 (0, 0)) :: [])) => inew (TT.out.more hle2) m hok hs (by rw [m1, hsl]) hh (by omega) (by omega) hv
  rw [hval] at hNew
  have H5 := Lib.hid h5; have HMO := Lib.hid hmo; have HMI := Lib.hid hmi; have HFX := Lib.hid hfx; have HSM := Lib.hid hsm; have HNEW := Lib.hid hNew; have HOK := Lib.hid hok; have HR := Lib.hid hright; have HS0 := Lib.hid hs0; have HS1 := Lib.hid hs1; have HSL := Lib.hid hsl; have HLE2 := Lib.hid hle2
  have HM1 := Lib.hid m1; have HM2 := Lib.hid m2; have HM3 := Lib.hid m3; have HM4 := Lib.hid m4; have HM5 := Lib.hid m5
  clear h3 h4 h5 hmo hmi hfx hsm hNew hok hright hs0 hs1 hsl hle2 hyes hrow hr2 hl32 hm hms HMAK H2 m1 m2 m3 m4 m5 m6 hh hval c1 c2
  go_wp2_with (with_reducible refine wpList_store_st rfl 34 (.tmp 2) (.tmp 21) rfl (g := w1.heap.size) (off := 0) m.cells rfl rfl H5.out HFX.out HMI.out HMO.out ?_; intro w2 h6; refine Hid.out ?_)
  refine Lib.hid ?_
  rw [HSM.out] at h6
  have H6 := Lib.hid h6
  clear H5 HFX HMO HSM h6
  generalize w1.heap.size = b2 at *
  go_wp2_with (with_reducible refine wpList_load_st rfl 34 (.tmp 2) rfl (g := b2) (off := 0) rfl H6.out (List.mem_cons_self ..) m.cells (fun j hj => by rw [Nat.zero_add]) _ Tryd.underlying34 rfl HMI.out ?_)
  refine (HNEW.out _ H6.out).mono ?_
  rintro e w3 ⟨hyes, -⟩
  obtain ⟨J3, A', c', s, g, hle3, rfl, hh3, h7⟩ := hyes HR.out
  obtain ⟨m', hm'⟩ : ∃ m', m' = ({ m with A := A', n := hs.length, c := c' } : Man) := ⟨_, rfl⟩
  rw [← hm'] at h7
  have hok' : m'.Ok := by rw [hm']; exact ⟨HOK.out.dig, HOK.out.v0, HOK.out.v1, HOK.out.s0, HOK.out.s1, HOK.out.c0, HOK.out.c1, by simp only; have := HSL.out; omega⟩
  have hr' : rightM m' = true := by
    have : rightM m' = rightM m := by rw [hm']; unfold rightM; simp only; rw [HSL.out, HM1.out]
    rw [this, HR.out]
  have hn' : m'.n = hs.length := by rw [hm']
  have hA' : m'.A = A' := by rw [hm']
  have hsz' : m'.size = 65 := by rw [hm']; exact HM2.out
  have hch' : m'.chunk = 64 := by rw [hm']; exact HM3.out
  have hdg' : m'.dig = hashOf bs := by rw [hm']; exact HM4.out
  have hps' : m'.prod.size = 4 := by rw [hm']; exact HM5.out
  clear hm' HNEW H6
  rw [← hA'] at hh3
  have hsl := HSL.out
  have hbl := HBL.out
  have t3 := (TT.out.more HLE2.out).more hle3
  have hin3 := (HIN.out.mono HLE2.out).mono hle3
  have sp0 : (spanM m' ((0 : Nat) : Int)).2 = 64 := by rw [spanM_yes hr' (by omega) (by rw [hn']; omega), hsz', hch']; decide
  have te1 : takeErr m' hs 0 ((1 : Nat) : Int) (bs.drop 64) = 151 := by unfold takeErr; rw [if_pos (.inr (by omega))]
  have ten : ¬ (((0 : Nat) : Int) = m'.n ∨ ((0 : Nat) : Int) ≠ ((0 : Nat) : Int)) := by rw [hn', hsl]; omega
  have te2 : takeErr m' hs 0 ((0 : Nat) : Int) bs = 152 := by
    unfold takeErr
    rw [if_neg ten, if_pos (.inl (by rw [sp0, hbl]; omega))]
  have hne : hashOf ([1] ++ (bs.drop 1).take 63) ≠ hs.getD 0 [] := by
    rw [List.getD_eq_getElem?_getD, HS0.out, HBS.out]
    intro h
    have h1 := hash_ne
    have h2 : hashOf (1 :: List.replicate 63 0) = hashOf (List.replicate 64 0) := h
    rw [h2] at h1
    revert h1
    simp
  have te3 : takeErr m' hs 0 ((0 : Nat) : Int) ([1] ++ (bs.drop 1).take 63) = 152 := by
    unfold takeErr
    rw [if_neg ten, if_pos (.inr hne)]
  have k1 : ∀ v J X, Le J3 J → Strm W v J s g m' [] 0 X → Calls Tryd.prog 15 #[.pointer (some ⟨s, 0, none⟩), .int .i64 1, .slice (some ⟨b0, 64, none⟩) 1 1] v fun e w' => e = .returned (.int .i64 151) ∧ Strm W w' J s g m' [] 0 X := fun v J X hl hv => by
    have h9 := itake (t3.more hl) hok' hs hn' (hh3.mono hl) (by omega) (by omega) (by omega) (by simp) ((1 : Nat) : Int) (by omega) (by omega) ⟨some ⟨b0, 64, none⟩, 1, bs.drop 64⟩ ((Part.In_drop 1 64 (by omega) hin3).mono hl) (by simp only [List.length_drop]; omega) hv
    rw [show (⟨some ⟨b0, 64, none⟩, 1, bs.drop 64⟩ : Part).bs.length = 1 by simp only [List.length_drop, hbl]] at h9
    refine h9.mono fun e w' ⟨h1, h2⟩ => ?_
    rw [te1] at h1 h2
    rw [if_neg (by decide)] at h2
    exact ⟨h1, h2⟩
  have k2 : ∀ v J X, Le J3 J → Strm W v J s g m' [] 0 X → Calls Tryd.prog 15 #[.pointer (some ⟨s, 0, none⟩), .int .i64 0, .slice (some ⟨b0, 0, none⟩) 65 65] v fun e w' => e = .returned (.int .i64 152) ∧ Strm W w' J s g m' [] 0 X := fun v J X hl hv => by
    have h9 := itake (t3.more hl) hok' hs hn' (hh3.mono hl) (by omega) (by omega) (by omega) (by simp) ((0 : Nat) : Int) (by omega) (by omega) ⟨some ⟨b0, 0, none⟩, 65, bs⟩ (hin3.mono hl) (by simp only; omega) hv
    simp only [hbl] at h9
    refine h9.mono fun e w' ⟨h1, h2⟩ => ?_
    rw [te2] at h1 h2
    rw [if_neg (by decide)] at h2
    exact ⟨h1, h2⟩
  have k3 : ∀ v J X A c, Le J3 J → Part.In ⟨A, c, [1] ++ (bs.drop 1).take 63⟩ W J → Strm W v J s g m' [] 0 X → Calls Tryd.prog 15 #[.pointer (some ⟨s, 0, none⟩), .int .i64 0, .slice A 64 c] v fun e w' => e = .returned (.int .i64 152) ∧ Strm W w' J s g m' [] 0 X := fun v J X A c hl hi hv => by
    have h9 := itake (t3.more hl) hok' hs hn' (hh3.mono hl) (by omega) (by omega) (by omega) (by simp) ((0 : Nat) : Int) (by omega) (by omega) ⟨A, c, [1] ++ (bs.drop 1).take 63⟩ hi (by simp only [List.length_append, List.length_take]; simp; omega) hv
    rw [show (⟨A, c, [1] ++ (bs.drop 1).take 63⟩ : Part).bs.length = 64 by simp only [List.length_append, List.length_take, List.length_drop, hbl]; rfl] at h9
    refine h9.mono fun e w' ⟨h1, h2⟩ => ?_
    rw [te3] at h1 h2
    rw [if_neg (by decide)] at h2
    exact ⟨h1, h2⟩
  have hin13 : Part.In ⟨some ⟨b0, 1, none⟩, 64, (bs.drop 1).take 63⟩ W J3 := Part.In_take 64 63 (Part.In_drop 64 1 (by omega) hin3)
  have hl13 : 63 = ((bs.drop 1).take 63).length := by rw [List.length_take, List.length_drop, hbl]; rfl
  obtain ⟨hx, hle⟩ : Strm W w3.drew J3 s g m' [] 0 [(b2, .cells m.cells 34 (0, 0))] ∧ Le J3 J3 := ⟨Strm.drew1 h7, Le.refl J3⟩
  have nal : ∀ v J L, Strm W v J s g m' [] 0 L → Strm W (v.alloc (.cells #[.int .u8 1] 5)) J s g m' [] 0 ([(v.heap.size, .cells #[.int .u8 1] 5 (0, 0))] ++ L) := fun v J L h => by
    have h9 := Digs.alloc h (.cells #[.int .u8 1] 5)
    exact Digs.permF h9 (List.Perm.swap _ _ _)
  have ha := Strm.drew1 (nal _ _ _ h7)
  have hh0 : ∀ J, HsIn none [] W J := fun J => ⟨by simp, fun w L h j u hj => by simp [hcells] at hj⟩
  have kN0 : ∀ v J X, Le J3 J → Strm W v J s g m' [] 0 X → Calls Tryd.prog 13 #[.agg zman.cells] v fun e w' => e = .returned (.tuple #[.pointer none, .int .i64 131]) ∧ Strm W w' J s g m' [] 0 X := fun v J X hl hv =>
    strm_lift (fun L hL => (inew (t3.more hl) zman zman_ok [] rfl (hh0 J) (by decide) (by simp) hL).mono fun e w' hp => hp.2 zero_right) hv
  have kC0 : ∀ v J X, Le J3 J → Strm W v J s g m' [] 0 X → Calls Tryd.prog 24 #[.agg zman.cells, .slice none 0 0] v fun e w' => e = .returned (.tuple #[.slice none 0 0, .int .i64 131]) ∧ Strm W w' J s g m' [] 0 X := fun v J X hl hv =>
    strm_lift (fun L hL => (icut (t3.more hl) zman zman_ok (by decide) ⟨none, 0, []⟩ (Part.In_nil _ _) (by simp) (by simp) hL).mono fun e w' hp => hp.1 zero_right) hv
  have kC1 : ∀ v J X, Le J3 J → Strm W v J s g m' [] 0 X → Calls Tryd.prog 24 #[.agg m.cells, .slice (some ⟨b0, 1, none⟩) 64 64] v fun e w' => e = .returned (.tuple #[.slice none 0 0, .int .i64 153]) ∧ Strm W w' J s g m' [] 0 X := fun v J X hl hv =>
    strm_lift (fun L hL => by
      have h9 := icut (t3.more hl) m HOK.out (by have := HM5.out; omega) ⟨some ⟨b0, 1, none⟩, 64, bs.drop 1⟩ ((Part.In_drop 64 1 (by omega) hin3).mono hl) (by simp only [List.length_drop]; omega) (by simp only [List.length_drop]; omega) hL
      rw [show (⟨some ⟨b0, 1, none⟩, 64, bs.drop 1⟩ : Part).bs.length = 64 by simp only [List.length_drop, hbl]] at h9
      exact h9.mono fun e w' hp => hp.2.1 HR.out (by have := HM2.out; simp only [List.length_drop, hbl]; omega)) hv
  have kD : ∀ v J X, Strm W v J s g m' [] 0 X → Calls Tryd.prog 18 #[.pointer (some ⟨s, 0, none⟩)] v fun e w' => e = .returned (.bool false) ∧ Strm W w' J s g m' [] 0 X := fun v J X hv =>
    (idone hok' hv).mono fun e w' ⟨h1, k, h2⟩ => ⟨by rw [h1, hn', hsl]; rfl, by rw [h2]; exact hv.drew k⟩
  have kWh : ∀ v J X, Strm W v J s g m' [] 0 X → Calls Tryd.prog 20 #[.pointer (some ⟨s, 0, none⟩)] v fun e w' => e = .returned (.bool false) ∧ Strm W w' J s g m' [] 0 X := fun v J X hv =>
    (iwhole hok' (by simp) hv).mono fun e w' ⟨h1, h2⟩ => ⟨by rw [h1, hn', hsl]; rfl, h2⟩
  have kSe : ∀ v J X, Strm W v J s g m' [] 0 X → Calls Tryd.prog 10 #[.slice none 0 0] v fun e w' => ∃ L0, (∃ A c, e = .returned (.slice A 0 c)) ∧ Strm W w' J s g m' [] 0 (L0 ++ X) := fun v J X hv =>
    strm_made (R := fun e L0 => ∃ A c, e = .returned (.slice A 0 c)) (fun L hL => (isectors ⟨none, 0, []⟩ (Part.In_nil _ _) (by simp) (by simp) hL).mono fun e w' hp => by
      obtain ⟨A, c, L0, he, _, h11⟩ := hp
      exact ⟨L0, ⟨A, c, he⟩, h11⟩) hv
  have hrow2 : ∀ v J, Strm W v J s g m' [] 0 [(b2, .cells m.cells 34 (0, 0))] → v.rangeAt b2 0 m.cells.toList := fun v J hv => hv.frame1.rangeAt (g := b2) (cs := m.cells) (t := 34) (fr := (0, 0)) (by simp) (fun j hj => by rw [Nat.zero_add, Array.getElem?_toList])
  simp only [zman_lit] at kN0 kC0
  have KN0 := Lib.hid kN0; have KC0 := Lib.hid kC0; have KC1 := Lib.hid kC1; have KD := Lib.hid kD; have KWh := Lib.hid kWh; have KSe := Lib.hid kSe; have HROW2 := Lib.hid hrow2
  clear kN0 kC0 kC1 kD kWh kSe hrow2 hh0
  have K1 := Lib.hid k1; have K2 := Lib.hid k2; have K3 := Lib.hid k3; have NAL := Lib.hid nal; have HIN13 := Lib.hid hin13; have HL13 := Lib.hid hl13
  have HX := Lib.hid hx; have HA := Lib.hid ha
  have HOK' := Lib.hid hok'; have HN' := Lib.hid hn'; have HD' := Lib.hid hdg'; have HIN3 := Lib.hid hin3; have HLE3 := Lib.hid hle3; have T3 := Lib.hid t3; have HLE := Lib.hid hle
  clear hx ha hle h7 k1 k2 k3 nal hin13 hl13 hok' hn' hdg' te1 te2 te3 hne ten sp0 hr' hA' hsz' hch' hps' hh3 t3 hin3 hle3 hsl hbl HS0 HS1 hyes HM4
  go_wp2_with fail
  refine wp_region_held_drew (S := fun _ => True) (by kernel_rfl) trivial (fun hHeld => ?_)
  refine wpAnyH_take (i := 0) (oi := ?_) (v := ?_) ?_ ?_ ?_ ?_ ?_ ?_ ?_ ?_
  rotate_left 2
  · (simp only [List.getElem?_toArray, List.getElem?_cons_succ, List.getElem?_cons_zero]; exact rfl)
  · kernel_rfl
  · kernel_rfl
  · kernel_rfl
  · exact fun _ _ _ h => h
  · (refine Or.inl ⟨by rfl, ?_⟩; intro w hSw; (try dsimp only at hSw); go_simp; try with_reducible rfl)
  · assumption
  try simp only [Act.put, List.setIfInBounds_toArray, List.set_cons_zero, List.set_cons_succ]
  refine wpAnyH_take (i := 1) (oi := ?_) (v := ?_) ?_ ?_ ?_ ?_ ?_ ?_ ?_ ?_
  rotate_left 2
  · (simp only [List.getElem?_toArray, List.getElem?_cons_succ, List.getElem?_cons_zero]; exact rfl)
  · kernel_rfl
  · kernel_rfl
  · kernel_rfl
  · exact fun _ _ _ h => h
  · (refine Or.inl ⟨by rfl, ?_⟩; intro w hSw; (try dsimp only at hSw); go_simp; try with_reducible rfl)
  · assumption
  try simp only [Act.put, List.setIfInBounds_toArray, List.set_cons_zero, List.set_cons_succ]
  refine wpAnyH_take (i := 2) (oi := ?_) (v := ?_) ?_ ?_ ?_ ?_ ?_ ?_ ?_ ?_
  rotate_left 2
  · (simp only [List.getElem?_toArray, List.getElem?_cons_succ, List.getElem?_cons_zero]; exact rfl)
  · kernel_rfl
  · kernel_rfl
  · kernel_rfl
  · exact fun _ _ _ h => h
  · (refine Or.inl ⟨by rfl, ?_⟩; intro w hSw; (try dsimp only at hSw); go_simp; try with_reducible rfl)
  · assumption
  try simp only [Act.put, List.setIfInBounds_toArray, List.set_cons_zero, List.set_cons_succ]
  refine wpAnyH_take (i := 4) (oi := ?_) (v := ?_) ?_ ?_ ?_ ?_ ?_ ?_ ?_ ?_
  rotate_left 2
  · (simp only [List.getElem?_toArray, List.getElem?_cons_succ, List.getElem?_cons_zero]; exact rfl)
  · kernel_rfl
  · kernel_rfl
  · kernel_rfl
  · exact fun _ _ _ h => h
  · (refine Or.inl ⟨by rfl, ?_⟩; intro w hSw; (try dsimp only at hSw); go_simp; try with_reducible rfl)
  · assumption
  try simp only [Act.put, List.setIfInBounds_toArray, List.set_cons_zero, List.set_cons_succ]
  refine wpAnyH_take (i := 5) (oi := ?_) (v := ?_) ?_ ?_ ?_ ?_ ?_ ?_ ?_ ?_
  rotate_left 2
  · (simp only [List.getElem?_toArray, List.getElem?_cons_succ, List.getElem?_cons_zero]; exact rfl)
  · kernel_rfl
  · kernel_rfl
  · kernel_rfl
  · exact fun _ _ _ h => h
  · (refine Or.inl ⟨by rfl, ?_⟩; intro w hSw; (try dsimp only at hSw); go_simp; try with_reducible rfl)
  · assumption
  try simp only [Act.put, List.setIfInBounds_toArray, List.set_cons_zero, List.set_cons_succ]
  refine wpAnyH_take (i := 7) (oi := ?_) (v := ?_) ?_ ?_ ?_ ?_ ?_ ?_ ?_ ?_
  rotate_left 2
  · (simp only [List.getElem?_toArray, List.getElem?_cons_succ, List.getElem?_cons_zero]; exact rfl)
  · kernel_rfl
  · kernel_rfl
  · kernel_rfl
  · exact fun _ _ _ h => h
  · (refine Or.inl ⟨by rfl, ?_⟩; intro w hSw; (try dsimp only at hSw); go_simp; try with_reducible rfl)
  · assumption
  try simp only [Act.put, List.setIfInBounds_toArray, List.set_cons_zero, List.set_cons_succ]
  refine wpAnyH_take (i := 9) (oi := ?_) (v := ?_) ?_ ?_ ?_ ?_ ?_ ?_ ?_ ?_
  rotate_left 2
  · (simp only [List.getElem?_toArray, List.getElem?_cons_succ, List.getElem?_cons_zero]; exact rfl)
  · kernel_rfl
  · kernel_rfl
  · kernel_rfl
  · exact fun _ _ _ h => h
  · (refine Or.inl ⟨by rfl, ?_⟩; intro w hSw; (try dsimp only at hSw); go_simp; try with_reducible rfl)
  · assumption
  try simp only [Act.put, List.setIfInBounds_toArray, List.set_cons_zero, List.set_cons_succ]
  refine wpAnyH_take (i := 10) (oi := ?_) (v := ?_) ?_ ?_ ?_ ?_ ?_ ?_ ?_ ?_
  rotate_left 2
  · (simp only [List.getElem?_toArray, List.getElem?_cons_succ, List.getElem?_cons_zero]; exact rfl)
  · kernel_rfl
  · kernel_rfl
  · kernel_rfl
  · exact fun _ _ _ h => h
  · (refine Or.inl ⟨by rfl, ?_⟩; intro w hSw; (try dsimp only at hSw); go_simp; try with_reducible rfl)
  · assumption
  try simp only [Act.put, List.setIfInBounds_toArray, List.set_cons_zero, List.set_cons_succ]
  refine wpAnyH_ready (rs := [3, 8]) (by kernel_rfl) (by simp) ?_
  refine AllReadyH.cons (o := ?_) ?_ (fun K hK => ?_) ?_
  rotate_left 1
  · (simp only [List.getElem?_toArray, List.getElem?_cons_succ, List.getElem?_cons_zero]; exact rfl)
  · go_simp
    (go_at_call 15; (first | with_reducible refine (K1.out _ _ _ HLE.out HX.out).mono ?_ | with_reducible refine (K1.out _ _ _ HLE.out HA.out).mono ?_); rintro e wx ⟨rfl, hx⟩; have HX := Lib.hid hx; have HA := Lib.hid (NAL.out _ _ _ hx); clear hx; dsimp only)
    refine hK.out _ _ ?_ (fun hHeld => ?_)
    · (try dsimp only) <;> (try trivial)
    clear hK K
    try simp only [Act.put, List.setIfInBounds_toArray, List.set_cons_zero, List.set_cons_succ]
    refine wpAnyH_ready (rs := [6, 8]) (by kernel_rfl) (by simp) ?_
    refine AllReadyH.cons (o := ?_) ?_ (fun K hK => ?_) ?_
    rotate_left 1
    · (simp only [List.getElem?_toArray, List.getElem?_cons_succ, List.getElem?_cons_zero]; exact rfl)
    · go_simp
      (go_at_call 15; (first | with_reducible refine (K2.out _ _ _ HLE.out HX.out).mono ?_ | with_reducible refine (K2.out _ _ _ HLE.out HA.out).mono ?_); rintro e wx ⟨rfl, hx⟩; have HX := Lib.hid hx; have HA := Lib.hid (NAL.out _ _ _ hx); clear hx; dsimp only)
      refine hK.out _ _ ?_ (fun hHeld => ?_)
      · (try dsimp only) <;> (try trivial)
      clear hK K
      try simp only [Act.put, List.setIfInBounds_toArray, List.set_cons_zero, List.set_cons_succ]
      refine wpAnyH_ready (rs := [8]) (by kernel_rfl) (by simp) ?_
      refine AllReadyH.cons (o := ?_) ?_ (fun K hK => ?_) ?_
      rotate_left 1
      · (simp only [List.getElem?_toArray, List.getElem?_cons_succ, List.getElem?_cons_zero]; exact rfl)
      · go_simp
        refine hK.out _ _ ?_ (fun hHeld => ?_)
        · (try dsimp only) <;> (try trivial)
        clear hK K
        try simp only [Act.put, List.setIfInBounds_toArray, List.set_cons_zero, List.set_cons_succ]
        refine wpAnyH_ready (rs := [11]) (by kernel_rfl) (by simp) ?_
        refine AllReadyH.cons (o := ?_) ?_ (fun K hK => ?_) ?_
        rotate_left 1
        · (simp only [List.getElem?_toArray, List.getElem?_cons_succ, List.getElem?_cons_zero]; exact rfl)
        · ((first | refine step_append_strm rfl (.tmp 38) (.tmp 40) 22 rfl (by kernel_rfl) rfl (row_one _) HA.out rfl HL13.out (HIN13.out.mono HLE.out) rfl 64 rfl (by omega) ?_ | refine step_append_strm rfl (.tmp 38) (.tmp 40) 22 rfl (by kernel_rfl) rfl (row_one _) HX.out rfl HL13.out (HIN13.out.mono HLE.out) rfl 64 rfl (by omega) ?_); intro A6 c6 w6 J6 le6 in6 h6; have HX := Lib.hid h6; have HIN6 := Lib.hid in6; have HLE := Lib.hid (HLE.out.trans le6); clear h6 in6 le6; dsimp only)
          refine hK.out _ _ ?_ (fun hHeld => ?_)
          · (try dsimp only) <;> (try trivial)
          clear hK K
          try simp only [Act.put, List.setIfInBounds_toArray, List.set_cons_zero, List.set_cons_succ]
          refine wpAnyH_ready (rs := [12]) (by kernel_rfl) (by simp) ?_
          refine AllReadyH.cons (o := ?_) ?_ (fun K hK => ?_) ?_
          rotate_left 1
          · (simp only [List.getElem?_toArray, List.getElem?_cons_succ, List.getElem?_cons_zero]; exact rfl)
          · go_simp
            (go_at_call 15; (with_reducible refine (K3.out _ _ _ _ _ HLE.out HIN6.out HX.out).mono ?_); rintro e wx ⟨rfl, hx⟩; have HX := Lib.hid hx; clear hx; dsimp only)
            refine hK.out _ _ ?_ (fun hHeld => ?_)
            · (try dsimp only) <;> (try trivial)
            clear hK K
            try simp only [Act.put, List.setIfInBounds_toArray, List.set_cons_zero, List.set_cons_succ]
            refine wpAnyH_take (i := 13) (oi := ?_) (v := ?_) ?_ ?_ ?_ ?_ ?_ ?_ ?_ ?_
            rotate_left 2
            · (simp only [List.getElem?_toArray, List.getElem?_cons_succ, List.getElem?_cons_zero]; exact rfl)
            · kernel_rfl
            · kernel_rfl
            · kernel_rfl
            · exact fun _ _ _ h => h
            · (refine Or.inl ⟨by rfl, ?_⟩; intro w hSw; (try dsimp only at hSw); go_simp; try with_reducible rfl)
            · assumption
            try simp only [Act.put, List.setIfInBounds_toArray, List.set_cons_zero, List.set_cons_succ]
            refine wpAnyH_take (i := 14) (oi := ?_) (v := ?_) ?_ ?_ ?_ ?_ ?_ ?_ ?_ ?_
            rotate_left 2
            · (simp only [List.getElem?_toArray, List.getElem?_cons_succ, List.getElem?_cons_zero]; exact rfl)
            · kernel_rfl
            · kernel_rfl
            · kernel_rfl
            · exact fun _ _ _ h => h
            · (refine Or.inl ⟨by rfl, ?_⟩; intro w hSw; (try dsimp only at hSw); go_simp; try with_reducible rfl)
            · assumption
            try simp only [Act.put, List.setIfInBounds_toArray, List.set_cons_zero, List.set_cons_succ]
            refine wpAnyH_take (i := 15) (oi := ?_) (v := ?_) ?_ ?_ ?_ ?_ ?_ ?_ ?_ ?_
            rotate_left 2
            · (simp only [List.getElem?_toArray, List.getElem?_cons_succ, List.getElem?_cons_zero]; exact rfl)
            · kernel_rfl
            · kernel_rfl
            · kernel_rfl
            · exact fun _ _ _ h => h
            · (refine Or.inl ⟨by rfl, ?_⟩; intro w hSw; (try dsimp only at hSw); go_simp; try with_reducible rfl)
            · assumption
            try simp only [Act.put, List.setIfInBounds_toArray, List.set_cons_zero, List.set_cons_succ]
            refine wpAnyH_done (by kernel_rfl) ?_ _
            clear HA
            go_wp2_with fail
            with_reducible refine (KN0.out _ _ _ HLE.out HX.out).mono ?_
            rintro e wy ⟨rfl, hy⟩
            have HX := Lib.hid hy
            clear hy
            go_wp2_with fail
            with_reducible refine (KC0.out _ _ _ HLE.out HX.out).mono ?_
            rintro e wz ⟨rfl, hy⟩
            have HDW := Lib.hid (Strm.drew1 hy)
            have hne : Nonempty (CW (fun v => Strm W v J6 s g m' [] 0 [(b2, .cells m.cells 34 (0, 0))])) := ⟨⟨_, HDW.out⟩⟩
            have kc : ∀ y : CW (fun v => Strm W v J6 s g m' [] 0 [(b2, .cells m.cells 34 (0, 0))]), Calls Tryd.prog 24 #[.agg m.cells, .slice (some ⟨b0, 1, none⟩) 64 64] y.w fun e w' => e = .returned (.tuple #[.slice none 0 0, .int .i64 153]) ∧ ∃ z : CW (fun v => Strm W v J6 s g m' [] 0 [(b2, .cells m.cells 34 (0, 0))]), w' = z.w := fun y => (KC1.out _ _ _ HLE.out y.ok).mono fun e w' ⟨h1, h2⟩ => ⟨h1, ⟨_, h2⟩, rfl⟩
            have hxr : ∀ v, (∃ y : CW (fun v => Strm W v J6 s g m' [] 0 [(b2, .cells m.cells 34 (0, 0))]), v = y.w) → v.rangeAt b2 0 m.cells.toList := by rintro _ ⟨y, rfl⟩; exact HROW2.out _ _ y.ok
            have KC := Lib.hid kc; have HXR := Lib.hid hxr
            clear hy kc hxr HX
            go_wp2_with fail
            refine wp_region_cw (fun v => Strm W v J6 s g m' [] 0 [(b2, .cells m.cells 34 (0, 0))]) HDW.out (by kernel_rfl) (by kernel_rfl) ?_
            repeat (first
              | (go_big_quiet_want; refine quiet_load_rowK 34 (.tmp 2) rfl (b := b2) (off := 0) rfl m.cells _ HXR.out Tryd.underlying34 rfl HMI.out ?_; simp only [Act.put, List.setIfInBounds_toArray, List.set_cons_zero, List.set_cons_succ]; go_big_quiet_on)
              | go_big_quiet_step ((go_at_call 24; (with_reducible refine (KC.out _).mono ?_); exact fun e w'' h => h)))
            refine wpQuiet_nil ?_
            rintro _ ⟨y, rfl⟩
            have hy := y.ok
            generalize y.w = wa at *
            have HX := Lib.hid hy
            clear hy HDW hne KC HXR
            go_wp2_with fail
            with_reducible refine (iwant HOK'.out HX.out).mono ?_
            rintro e wb ⟨rfl, rfl⟩
            go_wp2_with fail
            with_reducible refine (KD.out _ _ _ HX.out).mono ?_
            rintro e wc ⟨rfl, hy⟩
            have HX := Lib.hid hy
            clear hy
            go_wp2_with fail
            with_reducible refine (KWh.out _ _ _ HX.out).mono ?_
            rintro e wd ⟨rfl, hy⟩
            have HX := Lib.hid hy
            clear hy
            go_wp2_with fail
            with_reducible refine (ilen HOK'.out (by simp) HX.out).mono ?_
            rintro e we ⟨rfl, rfl⟩
            go_wp2_with fail
            with_reducible refine (KSe.out _ _ _ HX.out).mono ?_
            rintro e wf ⟨L9, ⟨A9, c9, rfl⟩, hy⟩
            have HF := Lib.hid ((Strm.frame1 hy).below (((T3.out.more HLE.out)).le))
            clear hy
            go_wp2_with fail
            go_ret
            exact ⟨rfl, HF.out⟩
          exact AllReadyH.nil
        exact AllReadyH.nil
      exact AllReadyH.nil
    refine AllReadyH.cons (o := ?_) ?_ (fun K hK => ?_) ?_
    rotate_left 1
    · (simp only [List.getElem?_toArray, List.getElem?_cons_succ, List.getElem?_cons_zero]; exact rfl)
    · go_simp
      refine hK.out _ _ ?_ (fun hHeld => ?_)
      · (try dsimp only) <;> (try trivial)
      clear hK K
      try simp only [Act.put, List.setIfInBounds_toArray, List.set_cons_zero, List.set_cons_succ]
      refine wpAnyH_ready (rs := [6]) (by kernel_rfl) (by simp) ?_
      refine AllReadyH.cons (o := ?_) ?_ (fun K hK => ?_) ?_
      rotate_left 1
      · (simp only [List.getElem?_toArray, List.getElem?_cons_succ, List.getElem?_cons_zero]; exact rfl)
      · go_simp
        (go_at_call 15; (first | with_reducible refine (K2.out _ _ _ HLE.out HX.out).mono ?_ | with_reducible refine (K2.out _ _ _ HLE.out HA.out).mono ?_); rintro e wx ⟨rfl, hx⟩; have HX := Lib.hid hx; have HA := Lib.hid (NAL.out _ _ _ hx); clear hx; dsimp only)
        refine hK.out _ _ ?_ (fun hHeld => ?_)
        · (try dsimp only) <;> (try trivial)
        clear hK K
        try simp only [Act.put, List.setIfInBounds_toArray, List.set_cons_zero, List.set_cons_succ]
        refine wpAnyH_ready (rs := [11]) (by kernel_rfl) (by simp) ?_
        refine AllReadyH.cons (o := ?_) ?_ (fun K hK => ?_) ?_
        rotate_left 1
        · (simp only [List.getElem?_toArray, List.getElem?_cons_succ, List.getElem?_cons_zero]; exact rfl)
        · ((first | refine step_append_strm rfl (.tmp 38) (.tmp 40) 22 rfl (by kernel_rfl) rfl (row_one _) HA.out rfl HL13.out (HIN13.out.mono HLE.out) rfl 64 rfl (by omega) ?_ | refine step_append_strm rfl (.tmp 38) (.tmp 40) 22 rfl (by kernel_rfl) rfl (row_one _) HX.out rfl HL13.out (HIN13.out.mono HLE.out) rfl 64 rfl (by omega) ?_); intro A6 c6 w6 J6 le6 in6 h6; have HX := Lib.hid h6; have HIN6 := Lib.hid in6; have HLE := Lib.hid (HLE.out.trans le6); clear h6 in6 le6; dsimp only)
          refine hK.out _ _ ?_ (fun hHeld => ?_)
          · (try dsimp only) <;> (try trivial)
          clear hK K
          try simp only [Act.put, List.setIfInBounds_toArray, List.set_cons_zero, List.set_cons_succ]
          refine wpAnyH_ready (rs := [12]) (by kernel_rfl) (by simp) ?_
          refine AllReadyH.cons (o := ?_) ?_ (fun K hK => ?_) ?_
          rotate_left 1
          · (simp only [List.getElem?_toArray, List.getElem?_cons_succ, List.getElem?_cons_zero]; exact rfl)
          · go_simp
            (go_at_call 15; (with_reducible refine (K3.out _ _ _ _ _ HLE.out HIN6.out HX.out).mono ?_); rintro e wx ⟨rfl, hx⟩; have HX := Lib.hid hx; clear hx; dsimp only)
            refine hK.out _ _ ?_ (fun hHeld => ?_)
            · (try dsimp only) <;> (try trivial)
            clear hK K
            try simp only [Act.put, List.setIfInBounds_toArray, List.set_cons_zero, List.set_cons_succ]
            refine wpAnyH_take (i := 13) (oi := ?_) (v := ?_) ?_ ?_ ?_ ?_ ?_ ?_ ?_ ?_
            rotate_left 2
            · (simp only [List.getElem?_toArray, List.getElem?_cons_succ, List.getElem?_cons_zero]; exact rfl)
            · kernel_rfl
            · kernel_rfl
            · kernel_rfl
            · exact fun _ _ _ h => h
            · (refine Or.inl ⟨by rfl, ?_⟩; intro w hSw; (try dsimp only at hSw); go_simp; try with_reducible rfl)
            · assumption
            try simp only [Act.put, List.setIfInBounds_toArray, List.set_cons_zero, List.set_cons_succ]
            refine wpAnyH_take (i := 14) (oi := ?_) (v := ?_) ?_ ?_ ?_ ?_ ?_ ?_ ?_ ?_
            rotate_left 2
            · (simp only [List.getElem?_toArray, List.getElem?_cons_succ, List.getElem?_cons_zero]; exact rfl)
            · kernel_rfl
            · kernel_rfl
            · kernel_rfl
            · exact fun _ _ _ h => h
            · (refine Or.inl ⟨by rfl, ?_⟩; intro w hSw; (try dsimp only at hSw); go_simp; try with_reducible rfl)
            · assumption
            try simp only [Act.put, List.setIfInBounds_toArray, List.set_cons_zero, List.set_cons_succ]
            refine wpAnyH_take (i := 15) (oi := ?_) (v := ?_) ?_ ?_ ?_ ?_ ?_ ?_ ?_ ?_
            rotate_left 2
            · (simp only [List.getElem?_toArray, List.getElem?_cons_succ, List.getElem?_cons_zero]; exact rfl)
            · kernel_rfl
            · kernel_rfl
            · kernel_rfl
            · exact fun _ _ _ h => h
            · (refine Or.inl ⟨by rfl, ?_⟩; intro w hSw; (try dsimp only at hSw); go_simp; try with_reducible rfl)
            · assumption
            try simp only [Act.put, List.setIfInBounds_toArray, List.set_cons_zero, List.set_cons_succ]
            refine wpAnyH_done (by kernel_rfl) ?_ _
            clear HA
            go_wp2_with fail
            with_reducible refine (KN0.out _ _ _ HLE.out HX.out).mono ?_
            rintro e wy ⟨rfl, hy⟩
            have HX := Lib.hid hy
            clear hy
            go_wp2_with fail
            with_reducible refine (KC0.out _ _ _ HLE.out HX.out).mono ?_
            rintro e wz ⟨rfl, hy⟩
            have HDW := Lib.hid (Strm.drew1 hy)
            have hne : Nonempty (CW (fun v => Strm W v J6 s g m' [] 0 [(b2, .cells m.cells 34 (0, 0))])) := ⟨⟨_, HDW.out⟩⟩
            have kc : ∀ y : CW (fun v => Strm W v J6 s g m' [] 0 [(b2, .cells m.cells 34 (0, 0))]), Calls Tryd.prog 24 #[.agg m.cells, .slice (some ⟨b0, 1, none⟩) 64 64] y.w fun e w' => e = .returned (.tuple #[.slice none 0 0, .int .i64 153]) ∧ ∃ z : CW (fun v => Strm W v J6 s g m' [] 0 [(b2, .cells m.cells 34 (0, 0))]), w' = z.w := fun y => (KC1.out _ _ _ HLE.out y.ok).mono fun e w' ⟨h1, h2⟩ => ⟨h1, ⟨_, h2⟩, rfl⟩
            have hxr : ∀ v, (∃ y : CW (fun v => Strm W v J6 s g m' [] 0 [(b2, .cells m.cells 34 (0, 0))]), v = y.w) → v.rangeAt b2 0 m.cells.toList := by rintro _ ⟨y, rfl⟩; exact HROW2.out _ _ y.ok
            have KC := Lib.hid kc; have HXR := Lib.hid hxr
            clear hy kc hxr HX
            go_wp2_with fail
            refine wp_region_cw (fun v => Strm W v J6 s g m' [] 0 [(b2, .cells m.cells 34 (0, 0))]) HDW.out (by kernel_rfl) (by kernel_rfl) ?_
            repeat (first
              | (go_big_quiet_want; refine quiet_load_rowK 34 (.tmp 2) rfl (b := b2) (off := 0) rfl m.cells _ HXR.out Tryd.underlying34 rfl HMI.out ?_; simp only [Act.put, List.setIfInBounds_toArray, List.set_cons_zero, List.set_cons_succ]; go_big_quiet_on)
              | go_big_quiet_step ((go_at_call 24; (with_reducible refine (KC.out _).mono ?_); exact fun e w'' h => h)))
            refine wpQuiet_nil ?_
            rintro _ ⟨y, rfl⟩
            have hy := y.ok
            generalize y.w = wa at *
            have HX := Lib.hid hy
            clear hy HDW hne KC HXR
            go_wp2_with fail
            with_reducible refine (iwant HOK'.out HX.out).mono ?_
            rintro e wb ⟨rfl, rfl⟩
            go_wp2_with fail
            with_reducible refine (KD.out _ _ _ HX.out).mono ?_
            rintro e wc ⟨rfl, hy⟩
            have HX := Lib.hid hy
            clear hy
            go_wp2_with fail
            with_reducible refine (KWh.out _ _ _ HX.out).mono ?_
            rintro e wd ⟨rfl, hy⟩
            have HX := Lib.hid hy
            clear hy
            go_wp2_with fail
            with_reducible refine (ilen HOK'.out (by simp) HX.out).mono ?_
            rintro e we ⟨rfl, rfl⟩
            go_wp2_with fail
            with_reducible refine (KSe.out _ _ _ HX.out).mono ?_
            rintro e wf ⟨L9, ⟨A9, c9, rfl⟩, hy⟩
            have HF := Lib.hid ((Strm.frame1 hy).below (((T3.out.more HLE.out)).le))
            clear hy
            go_wp2_with fail
            go_ret
            exact ⟨rfl, HF.out⟩
          exact AllReadyH.nil
        exact AllReadyH.nil
      exact AllReadyH.nil
    exact AllReadyH.nil
  refine AllReadyH.cons (o := ?_) ?_ (fun K hK => ?_) ?_
  rotate_left 1
  · (simp only [List.getElem?_toArray, List.getElem?_cons_succ, List.getElem?_cons_zero]; exact rfl)
  · go_simp
    refine hK.out _ _ ?_ (fun hHeld => ?_)
    · (try dsimp only) <;> (try trivial)
    clear hK K
    try simp only [Act.put, List.setIfInBounds_toArray, List.set_cons_zero, List.set_cons_succ]
    refine wpAnyH_ready (rs := [3]) (by kernel_rfl) (by simp) ?_
    refine AllReadyH.cons (o := ?_) ?_ (fun K hK => ?_) ?_
    rotate_left 1
    · (simp only [List.getElem?_toArray, List.getElem?_cons_succ, List.getElem?_cons_zero]; exact rfl)
    · go_simp
      (go_at_call 15; (first | with_reducible refine (K1.out _ _ _ HLE.out HX.out).mono ?_ | with_reducible refine (K1.out _ _ _ HLE.out HA.out).mono ?_); rintro e wx ⟨rfl, hx⟩; have HX := Lib.hid hx; have HA := Lib.hid (NAL.out _ _ _ hx); clear hx; dsimp only)
      refine hK.out _ _ ?_ (fun hHeld => ?_)
      · (try dsimp only) <;> (try trivial)
      clear hK K
      try simp only [Act.put, List.setIfInBounds_toArray, List.set_cons_zero, List.set_cons_succ]
      refine wpAnyH_ready (rs := [6]) (by kernel_rfl) (by simp) ?_
      refine AllReadyH.cons (o := ?_) ?_ (fun K hK => ?_) ?_
      rotate_left 1
      · (simp only [List.getElem?_toArray, List.getElem?_cons_succ, List.getElem?_cons_zero]; exact rfl)
      · go_simp
        (go_at_call 15; (first | with_reducible refine (K2.out _ _ _ HLE.out HX.out).mono ?_ | with_reducible refine (K2.out _ _ _ HLE.out HA.out).mono ?_); rintro e wx ⟨rfl, hx⟩; have HX := Lib.hid hx; have HA := Lib.hid (NAL.out _ _ _ hx); clear hx; dsimp only)
        refine hK.out _ _ ?_ (fun hHeld => ?_)
        · (try dsimp only) <;> (try trivial)
        clear hK K
        try simp only [Act.put, List.setIfInBounds_toArray, List.set_cons_zero, List.set_cons_succ]
        refine wpAnyH_ready (rs := [11]) (by kernel_rfl) (by simp) ?_
        refine AllReadyH.cons (o := ?_) ?_ (fun K hK => ?_) ?_
        rotate_left 1
        · (simp only [List.getElem?_toArray, List.getElem?_cons_succ, List.getElem?_cons_zero]; exact rfl)
        · ((first | refine step_append_strm rfl (.tmp 38) (.tmp 40) 22 rfl (by kernel_rfl) rfl (row_one _) HA.out rfl HL13.out (HIN13.out.mono HLE.out) rfl 64 rfl (by omega) ?_ | refine step_append_strm rfl (.tmp 38) (.tmp 40) 22 rfl (by kernel_rfl) rfl (row_one _) HX.out rfl HL13.out (HIN13.out.mono HLE.out) rfl 64 rfl (by omega) ?_); intro A6 c6 w6 J6 le6 in6 h6; have HX := Lib.hid h6; have HIN6 := Lib.hid in6; have HLE := Lib.hid (HLE.out.trans le6); clear h6 in6 le6; dsimp only)
          refine hK.out _ _ ?_ (fun hHeld => ?_)
          · (try dsimp only) <;> (try trivial)
          clear hK K
          try simp only [Act.put, List.setIfInBounds_toArray, List.set_cons_zero, List.set_cons_succ]
          refine wpAnyH_ready (rs := [12]) (by kernel_rfl) (by simp) ?_
          refine AllReadyH.cons (o := ?_) ?_ (fun K hK => ?_) ?_
          rotate_left 1
          · (simp only [List.getElem?_toArray, List.getElem?_cons_succ, List.getElem?_cons_zero]; exact rfl)
          · go_simp
            (go_at_call 15; (with_reducible refine (K3.out _ _ _ _ _ HLE.out HIN6.out HX.out).mono ?_); rintro e wx ⟨rfl, hx⟩; have HX := Lib.hid hx; clear hx; dsimp only)
            refine hK.out _ _ ?_ (fun hHeld => ?_)
            · (try dsimp only) <;> (try trivial)
            clear hK K
            try simp only [Act.put, List.setIfInBounds_toArray, List.set_cons_zero, List.set_cons_succ]
            refine wpAnyH_take (i := 13) (oi := ?_) (v := ?_) ?_ ?_ ?_ ?_ ?_ ?_ ?_ ?_
            rotate_left 2
            · (simp only [List.getElem?_toArray, List.getElem?_cons_succ, List.getElem?_cons_zero]; exact rfl)
            · kernel_rfl
            · kernel_rfl
            · kernel_rfl
            · exact fun _ _ _ h => h
            · (refine Or.inl ⟨by rfl, ?_⟩; intro w hSw; (try dsimp only at hSw); go_simp; try with_reducible rfl)
            · assumption
            try simp only [Act.put, List.setIfInBounds_toArray, List.set_cons_zero, List.set_cons_succ]
            refine wpAnyH_take (i := 14) (oi := ?_) (v := ?_) ?_ ?_ ?_ ?_ ?_ ?_ ?_ ?_
            rotate_left 2
            · (simp only [List.getElem?_toArray, List.getElem?_cons_succ, List.getElem?_cons_zero]; exact rfl)
            · kernel_rfl
            · kernel_rfl
            · kernel_rfl
            · exact fun _ _ _ h => h
            · (refine Or.inl ⟨by rfl, ?_⟩; intro w hSw; (try dsimp only at hSw); go_simp; try with_reducible rfl)
            · assumption
            try simp only [Act.put, List.setIfInBounds_toArray, List.set_cons_zero, List.set_cons_succ]
            refine wpAnyH_take (i := 15) (oi := ?_) (v := ?_) ?_ ?_ ?_ ?_ ?_ ?_ ?_ ?_
            rotate_left 2
            · (simp only [List.getElem?_toArray, List.getElem?_cons_succ, List.getElem?_cons_zero]; exact rfl)
            · kernel_rfl
            · kernel_rfl
            · kernel_rfl
            · exact fun _ _ _ h => h
            · (refine Or.inl ⟨by rfl, ?_⟩; intro w hSw; (try dsimp only at hSw); go_simp; try with_reducible rfl)
            · assumption
            try simp only [Act.put, List.setIfInBounds_toArray, List.set_cons_zero, List.set_cons_succ]
            refine wpAnyH_done (by kernel_rfl) ?_ _
            clear HA
            go_wp2_with fail
            with_reducible refine (KN0.out _ _ _ HLE.out HX.out).mono ?_
            rintro e wy ⟨rfl, hy⟩
            have HX := Lib.hid hy
            clear hy
            go_wp2_with fail
            with_reducible refine (KC0.out _ _ _ HLE.out HX.out).mono ?_
            rintro e wz ⟨rfl, hy⟩
            have HDW := Lib.hid (Strm.drew1 hy)
            have hne : Nonempty (CW (fun v => Strm W v J6 s g m' [] 0 [(b2, .cells m.cells 34 (0, 0))])) := ⟨⟨_, HDW.out⟩⟩
            have kc : ∀ y : CW (fun v => Strm W v J6 s g m' [] 0 [(b2, .cells m.cells 34 (0, 0))]), Calls Tryd.prog 24 #[.agg m.cells, .slice (some ⟨b0, 1, none⟩) 64 64] y.w fun e w' => e = .returned (.tuple #[.slice none 0 0, .int .i64 153]) ∧ ∃ z : CW (fun v => Strm W v J6 s g m' [] 0 [(b2, .cells m.cells 34 (0, 0))]), w' = z.w := fun y => (KC1.out _ _ _ HLE.out y.ok).mono fun e w' ⟨h1, h2⟩ => ⟨h1, ⟨_, h2⟩, rfl⟩
            have hxr : ∀ v, (∃ y : CW (fun v => Strm W v J6 s g m' [] 0 [(b2, .cells m.cells 34 (0, 0))]), v = y.w) → v.rangeAt b2 0 m.cells.toList := by rintro _ ⟨y, rfl⟩; exact HROW2.out _ _ y.ok
            have KC := Lib.hid kc; have HXR := Lib.hid hxr
            clear hy kc hxr HX
            go_wp2_with fail
            refine wp_region_cw (fun v => Strm W v J6 s g m' [] 0 [(b2, .cells m.cells 34 (0, 0))]) HDW.out (by kernel_rfl) (by kernel_rfl) ?_
            repeat (first
              | (go_big_quiet_want; refine quiet_load_rowK 34 (.tmp 2) rfl (b := b2) (off := 0) rfl m.cells _ HXR.out Tryd.underlying34 rfl HMI.out ?_; simp only [Act.put, List.setIfInBounds_toArray, List.set_cons_zero, List.set_cons_succ]; go_big_quiet_on)
              | go_big_quiet_step ((go_at_call 24; (with_reducible refine (KC.out _).mono ?_); exact fun e w'' h => h)))
            refine wpQuiet_nil ?_
            rintro _ ⟨y, rfl⟩
            have hy := y.ok
            generalize y.w = wa at *
            have HX := Lib.hid hy
            clear hy HDW hne KC HXR
            go_wp2_with fail
            with_reducible refine (iwant HOK'.out HX.out).mono ?_
            rintro e wb ⟨rfl, rfl⟩
            go_wp2_with fail
            with_reducible refine (KD.out _ _ _ HX.out).mono ?_
            rintro e wc ⟨rfl, hy⟩
            have HX := Lib.hid hy
            clear hy
            go_wp2_with fail
            with_reducible refine (KWh.out _ _ _ HX.out).mono ?_
            rintro e wd ⟨rfl, hy⟩
            have HX := Lib.hid hy
            clear hy
            go_wp2_with fail
            with_reducible refine (ilen HOK'.out (by simp) HX.out).mono ?_
            rintro e we ⟨rfl, rfl⟩
            go_wp2_with fail
            with_reducible refine (KSe.out _ _ _ HX.out).mono ?_
            rintro e wf ⟨L9, ⟨A9, c9, rfl⟩, hy⟩
            have HF := Lib.hid ((Strm.frame1 hy).below (((T3.out.more HLE.out)).le))
            clear hy
            go_wp2_with fail
            go_ret
            exact ⟨rfl, HF.out⟩
          exact AllReadyH.nil
        exact AllReadyH.nil
      exact AllReadyH.nil
    exact AllReadyH.nil
  exact AllReadyH.nil
end Go.Proofs.YtkpgliaahibjgaaDoor
