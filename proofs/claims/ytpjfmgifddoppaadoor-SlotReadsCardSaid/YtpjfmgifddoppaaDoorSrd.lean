/- slot: Read: walk. -/
import Derived.Test.YtpjfmgifddoppaaDoorCodE
import Derived.Test.YtpjfmgifddoppaaDoorSby
import Derived.Deep.RegionLaw
namespace Go.Proofs.YtpjfmgifddoppaaDoor
set_option linter.unusedVariables false
set_option linter.unusedSimpArgs false
open Go.RowKit Go.Lib

/-- copy into a block of ours, AS ONE STEP of a region that draws its order. -/
theorem step_copy_st {P : Program} {W w : World} {I : Nat → Option Obj} {F : List (Nat × Obj)} {ops : Array Oper} {o : Oper} {a : Act} {K : Act → World → Prop} {Q : Exit → Act → World → Prop} {E : Prop} (hgd : o.guard = none) (d s : Operand) (dT sT : TypeId)
    (ho : o.op = .call { callee := .builtin .copy, args := #[d, s], argTypes := #[dT, sT] }) (elem : TypeId) (hu : P.underlying dT = some (.slice elem)) (hsz : (P.info? elem).map (·.size) = some 1)
    {g off dLen dCap n sCap : Nat} {sp : Option Addr} (hd : a.eval d = .slice (some ⟨g, off, none⟩) dLen dCap) (hs : a.eval s = .slice sp n sCap) {cur : Array Value} {t : TypeId}
    (hst : St W w I ((g, .cells cur t (0, 0)) :: F)) (cs : List Value) (hsrc : Src w 1 sp n cs) (hfit : off + min n dLen ≤ cur.size) (h1 : ∀ v ∈ cs, v.oneCell' = true) (k : Nat) (hk : k = min n dLen)
    (R : Array Value) (hR : R = (cur.toList.take off ++ (cs.take k ++ cur.toList.drop (off + k))).toArray)
    (h : ∀ w', St W w' I ((g, .cells R t (0, 0)) :: F) → K (a.put o.dst (.int .i64 (k : Int))) w') :
    if Region.wanted o (yielded ops a.tmps) = true then Oper.wp P o a w K Q else E := by
  have hw : Region.wanted o (yielded ops a.tmps) = true := by simp [Region.wanted, hgd]
  rw [if_pos hw]
  subst hk
  subst hR
  have hl : cs.length = n := by have := hsrc.1; omega
  have htl : (cs.take (min n dLen)).length = min n dLen := by rw [List.length_take]; omega
  by_cases h0 : min n dLen = 0
  · have hrun := run_copy_none (P := P) w dT sT o.type elem (some ⟨g, off, none⟩) sp dLen dCap n sCap hu (by rw [hsz]) h0
    have h2 := h w (by rw [h0, List.take_zero, List.nil_append, Nat.add_zero, List.take_append_drop]; exact hst)
    unfold Oper.wp
    simp [execOp, ho, resolve, invoke, builtin, hd, hs, hrun, Result.andThen]
    rw [h0] at h2
    exact h2
  · obtain ⟨ad, rfl, _⟩ := hsrc.2 0 _ (List.getElem?_eq_getElem (by omega))
    have hrun := run_copy_row (P := P) w dT sT o.type elem g off dLen dCap ad n sCap cur t (cs.take (min n dLen)) hu hsz (hst.own (g, .cells cur t (0, 0)) (by simp)) htl (fun j v hj => by
      rw [List.getElem?_take] at hj
      split at hj
      · obtain ⟨ad', e1, h2⟩ := hsrc.2 j v hj
        injection e1 with e1
        rw [e1]
        exact h2
      · cases hj) (by rw [htl]; exact hfit) (fun v hv => h1 v (List.mem_of_mem_take hv))
    rw [htl] at hrun
    have h2 := h _ (St.setRow hst _)
    unfold Oper.wp
    simp [execOp, ho, resolve, invoke, builtin, hd, hs, hrun, Result.andThen]
    exact h2

/-- What is read of bytes: a slot and an error's number; what is left. -/
def rdS (s : Rs) : (Slt × Int) × Rs := match (tk 46 s).2 with
  | none => ((zS, 51), none)
  | some r => (chkS (sOf (tk 46 s).1), some r)
def errE (s : Rs) : Int := if s.isNone = true then 51 else 0
theorem take_cells (st tr ver sz : Int) (ds : List UInt8) (h : ds.length = 32) : (⟨st, tr, ver, sz, ds⟩ : Slt).cells = ((⟨st, tr, ver, sz, zeros32⟩ : Slt).cells.toList.take 4 ++ ((ds.map bval).take 32 ++ (⟨st, tr, ver, sz, zeros32⟩ : Slt).cells.toList.drop (4 + 32))).toArray := by
  unfold Slt.cells
  have hz : (zeros32.map bval).length = 32 := by rw [List.length_map, zeros_len]
  have hd : (ds.map bval).length = 32 := by rw [List.length_map, h]
  rw [show (ds.map bval).take 32 = ds.map bval from List.take_of_length_le (by omega)]
  simp [hz]
section
variable {W w : World} {I : Nat → Option Obj} {F : List (Nat × Obj)} {g : Nat} {s : Rs}
theorem run_build_slot4 (st tr ver sz : Int) (w : World) :
    (Instr.build 26 #[(0, .int .i64 st), (1, .int .i64 tr), (2, .int .u64 ver), (3, .int .i64 sz)]).run Tryd.prog w = .ok (.agg (⟨st, tr, ver, sz, zeros32⟩ : Slt).cells) w := by kernel_rfl
theorem RdE.less {J : Nat → Option Obj} (hle : Le I J) {A : Option Addr} {n c : Nat} {e : Int} (h : RdE W I s A n c e) : RdE W J s A n c e := by
  cases s with
  | none => exact h
  | some r => exact ⟨h.1, h.2.1, h.2.2.1, h.2.2.2.1, h.2.2.2.2.mono hle⟩
set_option maxRecDepth 100000 in
theorem code_err (h : RStE W w I g s F) : Calls Tryd.prog 40 #[.pointer (some ⟨g, 0, none⟩)] w fun e w' => e = .returned (.int .i64 (errE s)) ∧ w' = w := by
  obtain ⟨A, n, c, e, hr, hst⟩ := h
  obtain ⟨q0, q1, f0, f1⟩ := RStE.facts hst
  have he : e = errE s := by
    cases s with
    | none => exact hr.1
    | some r => exact hr.1
  rw [he] at q1
  clear hst hr he
  generalize errE s = x at *
  go_enter Tryd.func40, Tryd.ntmps40
  go_wp2_with fail
  go_ret
  exact ⟨rfl, rfl⟩
set_option maxRecDepth 100000 in
theorem code_left (h : RStE W w I g s F) : Calls Tryd.prog 39 #[.pointer (some ⟨g, 0, none⟩)] w fun e w' => e = .returned (.int .i64 ((s.getD []).length : Nat)) ∧ w' = w := by
  obtain ⟨A, n, c, e, hr, hst⟩ := h
  obtain ⟨q0, q1, f0, f1⟩ := RStE.facts hst
  have hn : n = (s.getD []).length := by
    cases s with
    | none => exact hr.2.2.1
    | some r => exact hr.2.1
  rw [← hn]
  clear hst hr hn
  go_enter Tryd.func39, Tryd.ntmps39
  go_wp2_with fail
  go_ret
  exact ⟨rfl, rfl⟩
/-- What Read leaves. -/
def SrPost (W : World) (I : Nat → Option Obj) (F : List (Nat × Obj)) (g : Nat) (r : (Slt × Int) × Rs) (e : Ending) (w' : World) : Prop := e = .returned (.tuple #[.agg r.1.1.cells, .int .i64 r.1.2]) ∧ RStE W w' I g r.2 F
set_option maxRecDepth 100000 in
set_option maxHeartbeats 8000000 in
theorem slot_read (h : RStE W w I g s F) : Calls Tryd.prog 37 #[.pointer (some ⟨g, 0, none⟩)] w (SrPost W I F g (rdS s)) := by
  have hlen := tk_len 46 s
  have hsome : ∀ r, (tk 46 s).2 = some r → (tk 46 s).1.length = 46 := fun r hr => (tk_some hr).2
  have hrd := rdS.eq_1 s
  obtain ⟨A, n, c, x, hr, hst⟩ := h
  obtain ⟨b2, hb2⟩ : ∃ b, w.heap.size = b := ⟨_, rfl⟩
  have h1 := (hst.alloc (.cells #[.int .i64 0, .int .i64 0, .int .u64 0, .int .i64 0, .int .u8 0, .int .u8 0, .int .u8 0, .int .u8 0, .int .u8 0, .int .u8 0, .int .u8 0, .int .u8 0, .int .u8 0, .int .u8 0, .int .u8 0, .int .u8 0, .int .u8 0, .int .u8 0, .int .u8 0, .int .u8 0, .int .u8 0, .int .u8 0, .int .u8 0, .int .u8 0, .int .u8 0, .int .u8 0, .int .u8 0, .int .u8 0, .int .u8 0, .int .u8 0, .int .u8 0, .int .u8 0, .int .u8 0, .int .u8 0, .int .u8 0, .int .u8 0] 26)).perm (List.Perm.swap _ _ _)
  rw [hb2] at h1
  have kR := code_rawE ⟨_, _, _, _, hr, h1⟩ 46 (by omega)
  obtain ⟨Y, hY⟩ : ∃ Y, rdS s = Y := ⟨_, rfl⟩
  rw [hY] at hrd ⊢
  obtain ⟨bs, hbs⟩ : ∃ bs, (tk 46 s).1 = bs := ⟨_, rfl⟩
  obtain ⟨s', hs'⟩ : ∃ s', (tk 46 s).2 = s' := ⟨_, rfl⟩
  rw [hbs] at hlen hsome kR hrd
  rw [hs'] at hsome kR hrd
  have zl : zS.cells = #[.int .i64 0, .int .i64 0, .int .u64 0, .int .i64 0, .int .u8 0, .int .u8 0, .int .u8 0, .int .u8 0, .int .u8 0, .int .u8 0, .int .u8 0, .int .u8 0, .int .u8 0, .int .u8 0, .int .u8 0, .int .u8 0, .int .u8 0, .int .u8 0, .int .u8 0, .int .u8 0, .int .u8 0, .int .u8 0, .int .u8 0, .int .u8 0, .int .u8 0, .int .u8 0, .int .u8 0, .int .u8 0, .int .u8 0, .int .u8 0, .int .u8 0, .int .u8 0, .int .u8 0, .int .u8 0, .int .u8 0, .int .u8 0] := bare_lit 0 ▸ rfl
  have fz := (slot_fit (s := zS) (t := zS) zeros_len zeros_len).1
  have mz := (slot_fit (s := zS) (t := zS) zeros_len zeros_len).2
  have iz := slot_info (s := zS) zeros_len
  have oz := Slt.one zS
  rw [zl] at fz mz iz oz
  have FZ := Lib.hid fz; have MZ := Lib.hid mz; have IZ := Lib.hid iz; have OZ := Lib.hid oz; have ZL := Lib.hid zl
  have KR := Lib.hid kR; have HS := Lib.hid hsome; have HRD := Lib.hid hrd; have HB2 := Lib.hid hb2
  clear h1 hst hr kR hsome hrd hY hbs hs' fz mz iz oz zl hb2
  go_enter Tryd.func37, Tryd.ntmps37
  go_wp2_with fail
  rw [HB2.out]
  refine KR.out.mono ?_
  rintro e w1 ⟨A5, c5, L5, rfl, hr5, h5⟩
  have kE := code_err h5
  have KE := Lib.hid kE; have H5 := Lib.hid h5; have HR5 := Lib.hid hr5
  clear kE h5 hr5 KR HB2
  go_wp2_with fail
  refine KE.out.mono ?_
  rintro e w2 ⟨rfl, rfl⟩
  clear KE
  cases s' with
  | none =>
    rw [show errE none = 51 from rfl]
    obtain ⟨A6, n6, c6, x6, hrd6, h6⟩ := H5.out
    have H6 := Lib.hid (h6.perm (L' := (b2, .cells #[.int .i64 0, .int .i64 0, .int .u64 0, .int .i64 0, .int .u8 0, .int .u8 0, .int .u8 0, .int .u8 0, .int .u8 0, .int .u8 0, .int .u8 0, .int .u8 0, .int .u8 0, .int .u8 0, .int .u8 0, .int .u8 0, .int .u8 0, .int .u8 0, .int .u8 0, .int .u8 0, .int .u8 0, .int .u8 0, .int .u8 0, .int .u8 0, .int .u8 0, .int .u8 0, .int .u8 0, .int .u8 0, .int .u8 0, .int .u8 0, .int .u8 0, .int .u8 0, .int .u8 0, .int .u8 0, .int .u8 0, .int .u8 0] 26 (0, 0)) :: ((g, .cells #[.slice A6 n6 c6, .int .i64 x6] 90 (0, 0)) :: (L5 ++ F))) (by
      refine List.Perm.trans ?_ (List.Perm.swap _ _ _)
      refine List.Perm.cons _ ?_
      exact List.perm_middle))
    have HRD6 := Lib.hid hrd6
    clear h6 hrd6 H5 HR5
    go_wp2_with (with_reducible refine wpList_store_st rfl 26 (.tmp 2) (.tmp 14) rfl (g := b2) (off := 0) #[.int .i64 0, .int .i64 0, .int .u64 0, .int .i64 0, .int .u8 0, .int .u8 0, .int .u8 0, .int .u8 0, .int .u8 0, .int .u8 0, .int .u8 0, .int .u8 0, .int .u8 0, .int .u8 0, .int .u8 0, .int .u8 0, .int .u8 0, .int .u8 0, .int .u8 0, .int .u8 0, .int .u8 0, .int .u8 0, .int .u8 0, .int .u8 0, .int .u8 0, .int .u8 0, .int .u8 0, .int .u8 0, .int .u8 0, .int .u8 0, .int .u8 0, .int .u8 0, .int .u8 0, .int .u8 0, .int .u8 0, .int .u8 0] rfl rfl H6.out FZ.out IZ.out OZ.out ?_; intro w9 h9; refine Hid.out ?_)
    refine Lib.hid ?_
    rw [MZ.out, ← ZL.out] at h9
    have H9 := Lib.hid h9
    clear h9 H6
    go_wp2_with fail
    refine bodyPost_ret (slot_ret (F := F) H9.out zeros_len rfl rfl rfl) rfl ?_
    have hY : Y = ((zS, 51), none) := HRD.out
    rw [hY]
    exact ⟨rfl, A6, n6, c6, x6, HRD6.out, St.mid (A := [_]) (B := L5) (St.weaken (A := [_]) H9.out)⟩
  | some r =>
    rw [show errE (some r) = 0 from rfl]
    have hl := HS.out r rfl
    obtain ⟨A6, n6, c6, x6, hrd6, h6⟩ := H5.out
    have h6' := St.swap (A := [_]) (B := L5) h6
    obtain ⟨J, hle, hin, h7⟩ := part_freeze HR5.out h6'
    have hcap : bs.length ≤ c5 := by
      obtain ⟨_, ⟨hv, hn, _⟩ | ⟨_, _, cap, _, hv, _, hnc, _⟩⟩ := HR5.out
      · omega
      · injection hv with _ _ h3
        omega
    have kN := fun (v : World) (F : List (Nat × Obj)) (hv : St W v J F) => code_new ⟨A5, c5, bs⟩ hin (by simp only; omega) hcap hv
    simp only [Part.val] at kN
    rw [hl] at kN ⊢
    have kF1 := fun (v : World) (g : Nat) (F : List (Nat × Obj)) (hv : RSt W v J g (some bs) F) => code_fixed hv 1 (by omega)
    have kF2 := fun (v : World) (g : Nat) (F : List (Nat × Obj)) (hv : RSt W v J g (some (bs.drop 1)) F) => code_fixed hv 1 (by omega)
    have kF3 := fun (v : World) (g : Nat) (F : List (Nat × Obj)) (hv : RSt W v J g (some (bs.drop 2)) F) => code_fixed hv 8 (by omega)
    have kF4 := fun (v : World) (g : Nat) (F : List (Nat × Obj)) (hv : RSt W v J g (some (bs.drop 10)) F) => code_fixed hv 4 (by omega)
    have kF5 := fun (v : World) (g : Nat) (F : List (Nat × Obj)) (hv : RSt W v J g (some (bs.drop 14)) F) => code_raw hv 32 (by omega)
    have t1 : tk 1 (some bs) = (bs.take 1, some (bs.drop 1)) := if_pos (by omega)
    have t2 : tk 1 (some (bs.drop 1)) = ((bs.drop 1).take 1, some (bs.drop 2)) := by
      rw [show bs.drop 2 = (bs.drop 1).drop 1 by rw [List.drop_drop]]
      exact if_pos (by rw [List.length_drop]; omega)
    have t3 : tk 8 (some (bs.drop 2)) = ((bs.drop 2).take 8, some (bs.drop 10)) := by
      rw [show bs.drop 10 = (bs.drop 2).drop 8 by rw [List.drop_drop]]
      exact if_pos (by rw [List.length_drop]; omega)
    have t4 : tk 4 (some (bs.drop 10)) = ((bs.drop 10).take 4, some (bs.drop 14)) := by
      rw [show bs.drop 14 = (bs.drop 10).drop 4 by rw [List.drop_drop]]
      exact if_pos (by rw [List.length_drop]; omega)
    have t5 : tk 32 (some (bs.drop 14)) = (bs.drop 14, some []) := by
      have e1 : (bs.drop 14).take 32 = bs.drop 14 := List.take_of_length_le (by rw [List.length_drop]; omega)
      have e2 : (bs.drop 14).drop 32 = [] := List.drop_eq_nil_of_le (by rw [List.length_drop]; omega)
      unfold tk
      simp only
      rw [if_pos (by rw [List.length_drop]; omega), e1, e2]
    rw [t1] at kF1
    rw [t2] at kF2
    rw [t3] at kF3
    rw [t4] at kF4
    rw [t5] at kF5
    have m1 := leV_lt (bs.take 1)
    have m2 := leV_lt ((bs.drop 1).take 1)
    have m3 := leV_lt ((bs.drop 2).take 8)
    have m4 := leV_lt ((bs.drop 10).take 4)
    rw [show (bs.take 1).length = 1 by rw [List.length_take]; omega] at m1
    rw [show ((bs.drop 1).take 1).length = 1 by rw [List.length_take, List.length_drop]; omega] at m2
    rw [show ((bs.drop 2).take 8).length = 8 by rw [List.length_take, List.length_drop]; omega] at m3
    rw [show ((bs.drop 10).take 4).length = 4 by rw [List.length_take, List.length_drop]; omega] at m4
    have hd14 : (bs.drop 14).length = 32 := by rw [List.length_drop]; omega
    have okS := sOf_ok bs hl
    have hso := sOf.eq_1 bs
    simp only at kF1 kF2 kF3 kF4
    obtain ⟨SO, hSO⟩ : ∃ x, sOf bs = x := ⟨_, rfl⟩
    have hY : Y = (chkS (sOf bs), some r) := HRD.out
    rw [hSO] at okS hso hY
    generalize leV (bs.take 1) = a1 at *
    generalize leV ((bs.drop 1).take 1) = a2 at *
    generalize leV ((bs.drop 2).take 8) = a3 at *
    generalize leV ((bs.drop 10).take 4) = a4 at *
    generalize bs.drop 14 = ds at *
    have a1I : (a1 : Int) < 256 := by omega
    have a2I : (a2 : Int) < 256 := by omega
    have a3I : (a3 : Int) < 18446744073709551616 := by omega
    have a4I : (a4 : Int) < 4294967296 := by omega
    have hbu := fun w => run_build_slot4 a1 a2 a3 a4 w
    have htc := take_cells a1 a2 a3 a4 ds hd14
    rw [← hso] at htc
    obtain ⟨S1, hS1⟩ : ∃ x, (⟨a1, a2, a3, a4, zeros32⟩ : Slt) = x := ⟨_, rfl⟩
    rw [hS1] at hbu htc
    have l1 : S1.dig.length = 32 := by rw [← hS1]; exact zeros_len
    have f1 := (slot_fit (s := zS) (t := S1) zeros_len l1).1
    have e1 := (slot_fit (s := zS) (t := S1) zeros_len l1).2
    have f2 := (slot_fit (s := zS) (t := SO) zeros_len okS.dig).1
    have e2 := (slot_fit (s := zS) (t := SO) zeros_len okS.dig).2
    rw [ZL.out] at f1 e1 f2 e2
    have i1 := slot_info (s := S1) l1
    have o1 := Slt.one S1
    have i2 := slot_info (s := SO) okS.dig
    have o2 := Slt.one SO
    have z1 : S1.cells.size = 36 := Slt.size l1
    have kG := fun (v : World) (F : List (Nat × Obj)) (hv : St W v J F) => slot_right SO okS hv
    unfold Slt.val at kG
    have hck := chkS.eq_1 SO
    have KN := Lib.hid kN; have KF1 := Lib.hid kF1; have KF2 := Lib.hid kF2; have KF3 := Lib.hid kF3; have KF4 := Lib.hid kF4; have KF5 := Lib.hid kF5; have HBU := Lib.hid hbu; have HTC := Lib.hid htc
    have G1 := Lib.hid f1; have E1 := Lib.hid e1; have G2 := Lib.hid f2; have E2 := Lib.hid e2; have I1 := Lib.hid i1; have O1 := Lib.hid o1; have I2 := Lib.hid i2; have O2 := Lib.hid o2; have Z1 := Lib.hid z1; have KG := Lib.hid kG; have HCK := Lib.hid hck; have HY := Lib.hid hY; have HLE := Lib.hid hle; have HRD6 := Lib.hid hrd6; have H7 := Lib.hid h7; have LO := Lib.hid okS.dig; have LD := Lib.hid hd14
    clear kN kF1 kF2 kF3 kF4 kF5 hbu htc f1 e1 f2 e2 i1 o1 i2 o2 z1 kG hck hY hle hrd6 h7 h6 h6' hin H5 HR5 HRD t1 t2 t3 t4 t5 okS hso hSO hS1 l1 hd14 HS hcap hlen m1 m2 m3 m4 hl
    go_wp2_with fail
    refine (KN.out _ _ H7.out).mono ?_
    rintro e w3 ⟨rfl, h8⟩
    have H8 := Lib.hid h8
    clear h8 KN
    generalize w2.heap.size = gi at *
    go_wp2_with fail
    refine (KF1.out _ _ _ H8.out).mono ?_
    rintro e w4 ⟨rfl, h9⟩
    have H9 := Lib.hid h9
    clear h9 KF1 H8
    go_wp2_with fail
    refine (KF2.out _ _ _ H9.out).mono ?_
    rintro e w5 ⟨rfl, h10⟩
    have H10 := Lib.hid h10
    clear h10 KF2 H9
    go_wp2_with fail
    refine (KF3.out _ _ _ H10.out).mono ?_
    rintro e w6 ⟨rfl, h11⟩
    have H11 := Lib.hid h11
    clear h11 KF3 H10
    go_wp2_with fail
    refine (KF4.out _ _ _ H11.out).mono ?_
    rintro e w7 ⟨rfl, h12⟩
    obtain ⟨Ai, ni, ci, xi, hri, hsi⟩ := h12
    have hA := hsi.alloc (.cells #[.int .i64 0, .int .i64 0, .int .u64 0, .int .i64 0, .int .u8 0, .int .u8 0, .int .u8 0, .int .u8 0, .int .u8 0, .int .u8 0, .int .u8 0, .int .u8 0, .int .u8 0, .int .u8 0, .int .u8 0, .int .u8 0, .int .u8 0, .int .u8 0, .int .u8 0, .int .u8 0, .int .u8 0, .int .u8 0, .int .u8 0, .int .u8 0, .int .u8 0, .int .u8 0, .int .u8 0, .int .u8 0, .int .u8 0, .int .u8 0, .int .u8 0, .int .u8 0, .int .u8 0, .int .u8 0, .int .u8 0, .int .u8 0] 26)
    have HA := Lib.hid hA; have HRI := Lib.hid hri
    clear hA hri hsi KF4 H11
    go_wp2_with (first
      | (with_reducible refine wpList_build_st rfl 26 _ rfl _ ?_ (HBU.out _) ?_; · go_simp)
      | (with_reducible refine wpList_store_st rfl 26 (.tmp 7) (.tmp 29) rfl (g := w7.heap.size) (off := 0) S1.cells rfl rfl HA.out G1.out I1.out O1.out ?_; intro w9 h9; refine Hid.out ?_))
    refine Lib.hid ?_
    rw [E1.out] at h9
    have h13 := h9.perm (List.Perm.swap _ _ _)
    have H13 := Lib.hid h13
    clear h9 h13 HA HBU
    generalize w7.heap.size = b7 at *
    have hone : ∀ u ∈ ds.map bval, u.oneCell' = true := by intro u hu; obtain ⟨b, _, rfl⟩ := List.mem_map.1 hu; rfl
    have HONE := Lib.hid hone
    clear hone
    have kQ : ∀ v, St W v J ((gi, .cells #[.slice Ai ni ci, .int .i64 xi] 90 (0, 0)) :: (b7, .cells S1.cells 26 (0, 0)) :: (g, .cells #[.slice A6 n6 c6, .int .i64 x6] 90 (0, 0)) :: (b2, .cells #[.int .i64 0, .int .i64 0, .int .u64 0, .int .i64 0, .int .u8 0, .int .u8 0, .int .u8 0, .int .u8 0, .int .u8 0, .int .u8 0, .int .u8 0, .int .u8 0, .int .u8 0, .int .u8 0, .int .u8 0, .int .u8 0, .int .u8 0, .int .u8 0, .int .u8 0, .int .u8 0, .int .u8 0, .int .u8 0, .int .u8 0, .int .u8 0, .int .u8 0, .int .u8 0, .int .u8 0, .int .u8 0, .int .u8 0, .int .u8 0, .int .u8 0, .int .u8 0, .int .u8 0, .int .u8 0, .int .u8 0, .int .u8 0] 26 (0, 0)) :: F) → Calls Tryd.prog 71 #[.pointer (some ⟨gi, 0, none⟩), .int .i64 32] v (RawPost W J gi ds (some []) ((b7, .cells S1.cells 26 (0, 0)) :: (g, .cells #[.slice A6 n6 c6, .int .i64 x6] 90 (0, 0)) :: (b2, .cells #[.int .i64 0, .int .i64 0, .int .u64 0, .int .i64 0, .int .u8 0, .int .u8 0, .int .u8 0, .int .u8 0, .int .u8 0, .int .u8 0, .int .u8 0, .int .u8 0, .int .u8 0, .int .u8 0, .int .u8 0, .int .u8 0, .int .u8 0, .int .u8 0, .int .u8 0, .int .u8 0, .int .u8 0, .int .u8 0, .int .u8 0, .int .u8 0, .int .u8 0, .int .u8 0, .int .u8 0, .int .u8 0, .int .u8 0, .int .u8 0, .int .u8 0, .int .u8 0, .int .u8 0, .int .u8 0, .int .u8 0, .int .u8 0] 26 (0, 0)) :: F)) := fun v h => KF5.out _ _ _ ⟨_, _, _, _, HRI.out, h⟩
    have KQ := Lib.hid kQ
    clear kQ KF5
    go_wp2_with fail
    go_region_law (first
      | (go_simp; go_at_call 71; refine (KQ.out _ (by first | exact H13.out.drew1 | exact H13.out.drew _ | exact H13.out)).mono ?_; rintro e w8 ⟨A8, c8, L8, rfl, hr8, A9, n9, c9, x9, hrd9, h14⟩; dsimp only)
      | (refine step_copy_st (F := ((gi, .cells #[.slice A9 n9 c9, .int .i64 x9] 90 (0, 0)) :: L8) ++ ((g, .cells #[.slice A6 n6 c6, .int .i64 x6] 90 (0, 0)) :: (b2, .cells #[.int .i64 0, .int .i64 0, .int .u64 0, .int .i64 0, .int .u8 0, .int .u8 0, .int .u8 0, .int .u8 0, .int .u8 0, .int .u8 0, .int .u8 0, .int .u8 0, .int .u8 0, .int .u8 0, .int .u8 0, .int .u8 0, .int .u8 0, .int .u8 0, .int .u8 0, .int .u8 0, .int .u8 0, .int .u8 0, .int .u8 0, .int .u8 0, .int .u8 0, .int .u8 0, .int .u8 0, .int .u8 0, .int .u8 0, .int .u8 0, .int .u8 0, .int .u8 0, .int .u8 0, .int .u8 0, .int .u8 0, .int .u8 0] 26 (0, 0)) :: F)) rfl (.tmp 31) (.tmp 33) 40 40 rfl 5 Tryd.underlying40 (by kernel_rfl) (g := b7) (off := 4) rfl rfl (St.swap (A := (gi, _) :: L8) (B := [(b7, _)]) h14) _ (hr8.src (fun p hp => h14.own p (by simp [hp]))) (by have := LD.out; have := Z1.out; omega) HONE.out 32 (by have := LD.out; omega) SO.cells HTC.out ?_; intro w9 h15))
    all_goals
      have H15 := Lib.hid h15
      clear h14 h15 hr8 hrd9 H13 KQ HONE HTC
      go_wp2_with (with_reducible refine wpList_load_st rfl 26 (.tmp 7) rfl (g := b7) (off := 0) rfl H15.out (cs := SO.cells) (t := 26) (fr := (0, 0)) (by simp) SO.cells (fun j hj => by rw [Nat.zero_add]) _ Tryd.underlying26 rfl I2.out ?_)
      refine (KG.out _ _ H15.out).mono ?_
      rintro e w10 ⟨rfl, h16⟩
      have H16 := Lib.hid h16
      have H16p := Lib.hid (h16.perm (L' := (b2, .cells #[.int .i64 0, .int .i64 0, .int .u64 0, .int .i64 0, .int .u8 0, .int .u8 0, .int .u8 0, .int .u8 0, .int .u8 0, .int .u8 0, .int .u8 0, .int .u8 0, .int .u8 0, .int .u8 0, .int .u8 0, .int .u8 0, .int .u8 0, .int .u8 0, .int .u8 0, .int .u8 0, .int .u8 0, .int .u8 0, .int .u8 0, .int .u8 0, .int .u8 0, .int .u8 0, .int .u8 0, .int .u8 0, .int .u8 0, .int .u8 0, .int .u8 0, .int .u8 0, .int .u8 0, .int .u8 0, .int .u8 0, .int .u8 0] 26 (0, 0)) :: ((b7, .cells SO.cells 26 (0, 0)) :: (((gi, .cells #[.slice A9 n9 c9, .int .i64 x9] 90 (0, 0)) :: L8) ++ ((g, .cells #[.slice A6 n6 c6, .int .i64 x6] 90 (0, 0)) :: F)))) (by
        have p1 := List.perm_middle (a := (b2, Obj.cells #[.int .i64 0, .int .i64 0, .int .u64 0, .int .i64 0, .int .u8 0, .int .u8 0, .int .u8 0, .int .u8 0, .int .u8 0, .int .u8 0, .int .u8 0, .int .u8 0, .int .u8 0, .int .u8 0, .int .u8 0, .int .u8 0, .int .u8 0, .int .u8 0, .int .u8 0, .int .u8 0, .int .u8 0, .int .u8 0, .int .u8 0, .int .u8 0, .int .u8 0, .int .u8 0, .int .u8 0, .int .u8 0, .int .u8 0, .int .u8 0, .int .u8 0, .int .u8 0, .int .u8 0, .int .u8 0, .int .u8 0, .int .u8 0] 26 (0, 0))) (l₁ := (b7, Obj.cells SO.cells 26 (0, 0)) :: (((gi, Obj.cells #[.slice A9 n9 c9, .int .i64 x9] 90 (0, 0)) :: L8) ++ [(g, Obj.cells #[.slice A6 n6 c6, .int .i64 x6] 90 (0, 0))])) (l₂ := F)
        simpa using p1))
      clear h16 H15 KG
      obtain ⟨R, hR⟩ : ∃ R, rightS SO = R := ⟨_, rfl⟩
      have hck := HCK.out
      rw [hR] at hck ⊢
      clear HCK hR
      cases R with
      | false =>
        rw [if_neg (by decide)] at hck
        clear H16
        go_wp2_with (with_reducible refine wpList_store_st rfl 26 (.tmp 2) (.tmp 38) rfl (g := b2) (off := 0) #[.int .i64 0, .int .i64 0, .int .u64 0, .int .i64 0, .int .u8 0, .int .u8 0, .int .u8 0, .int .u8 0, .int .u8 0, .int .u8 0, .int .u8 0, .int .u8 0, .int .u8 0, .int .u8 0, .int .u8 0, .int .u8 0, .int .u8 0, .int .u8 0, .int .u8 0, .int .u8 0, .int .u8 0, .int .u8 0, .int .u8 0, .int .u8 0, .int .u8 0, .int .u8 0, .int .u8 0, .int .u8 0, .int .u8 0, .int .u8 0, .int .u8 0, .int .u8 0, .int .u8 0, .int .u8 0, .int .u8 0, .int .u8 0] rfl rfl H16p.out FZ.out IZ.out OZ.out ?_; intro w9 h9; refine Hid.out ?_)
        refine Lib.hid ?_
        rw [MZ.out, ← ZL.out] at h9
        have H9 := Lib.hid h9
        clear h9 H16p
        go_wp2_with fail
        refine bodyPost_ret (slot_ret (F := F) H9.out zeros_len rfl rfl rfl) rfl ?_
        rw [HY.out, hck]
        refine ⟨rfl, A6, n6, c6, x6, HRD6.out, St.less HLE.out ?_⟩
        exact St.weaken (A := _ :: _ :: _ :: L8) H9.out
      | true =>
        rw [if_pos rfl] at hck
        go_wp2_with (first | (with_reducible refine wpList_load_st rfl 26 (.tmp 7) rfl (g := b7) (off := 0) rfl H16.out (cs := SO.cells) (t := 26) (fr := (0, 0)) (by simp) SO.cells (fun j hj => by rw [Nat.zero_add]) _ Tryd.underlying26 rfl I2.out ?_) | (with_reducible refine wpList_store_st rfl 26 (.tmp 2) (.tmp 39) rfl (g := b2) (off := 0) SO.cells rfl rfl H16p.out G2.out I2.out O2.out ?_; intro w9 h9; refine Hid.out ?_))
        refine Lib.hid ?_
        rw [E2.out] at h9
        have H9 := Lib.hid h9
        clear h9 H16p H16
        go_wp2_with fail
        refine bodyPost_ret (slot_ret (t := SO) (F := F) H9.out LO.out rfl rfl rfl) rfl ?_
        rw [HY.out, hck]
        refine ⟨rfl, A6, n6, c6, x6, HRD6.out, St.less HLE.out ?_⟩
        exact St.weaken (A := _ :: _ :: _ :: L8) H9.out
end
end Go.Proofs.YtpjfmgifddoppaaDoor
