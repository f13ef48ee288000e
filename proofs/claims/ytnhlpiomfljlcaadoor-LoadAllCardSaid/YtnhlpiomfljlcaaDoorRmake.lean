/- The document's manifest: Make: walk. -/
import Derived.Test.YtnhlpiomfljlcaaDoorManR
import Derived.Test.YtnhlpiomfljlcaaDoorMkPure
import Derived.Test.YtnhlpiomfljlcaaDoorRefSum
import Derived.Test.YtnhlpiomfljlcaaDoorRefAN
import Derived.Laws.ResultCell
import Derived.Deep.RegionLaw
import Derived.Great.BuildSlice
namespace Go.Proofs.YtnhlpiomfljlcaaDoor
set_option linter.unusedVariables false
set_option linter.unusedSimpArgs false
open Go.RowKit Go.Lib

theorem zman_lit : zman.cells = (Value.string ⟨#[]⟩ :: .int .u64 0 :: .int .i64 0 :: .int .i64 0 :: .int .u8 0 :: .int .u8 0 :: .int .u8 0 :: .int .u8 0 :: .int .u8 0 :: .int .u8 0 :: .int .u8 0 :: .int .u8 0 :: .int .u8 0 :: .int .u8 0 :: .int .u8 0 :: .int .u8 0 :: .int .u8 0 :: .int .u8 0 :: .int .u8 0 :: .int .u8 0 :: .int .u8 0 :: .int .u8 0 :: .int .u8 0 :: .int .u8 0 :: .int .u8 0 :: .int .u8 0 :: .int .u8 0 :: .int .u8 0 :: .int .u8 0 :: .int .u8 0 :: .int .u8 0 :: .int .u8 0 :: .int .u8 0 :: .int .u8 0 :: .int .u8 0 :: .int .u8 0 :: .slice none 0 0 :: []).toArray := rfl
theorem results_row_tmp {P : Program} {fn : Func} {p u : Tmp} {ty : TypeId} (h : fn.results = #[.cell p ty, .tmp u]) (tmps : Array Value) (w : World) (g : Nat) (t : TypeId) (cs : Array Value) (fr : Nat × Nat) (d : TypeDesc)
    (hp : tmps.getD p undef = .pointer (some ⟨g, 0, none⟩)) (hg : w.heap[g]? = some (.cells cs t fr))
    (hu : P.underlying ty = some d) (hd : (match d with | .struct _ | .array _ _ => true | _ => false) = true) (hi : (P.info? ty).map (·.size) = some cs.size) :
    (results fn tmps).run P w = .ok (.tuple #[.agg cs, tmps.getD u undef]) w := by
  have hp' : tmps[p]?.getD undef = .pointer (some ⟨g, 0, none⟩) := by simpa using hp
  simp [results, h, hp', asAddr, run_loadVar_row w g t ty cs fr d hg hu hd hi]
set_option maxRecDepth 100000 in
theorem run_buildSlice_hash (ds : List UInt8) (hd : ds.length = 32) (w : World) :
    (Instr.buildSlice 51 1 #[(0, .agg (bcells ds))]).run Tryd.prog w = .ok (.slice (some ⟨w.heap.size, 0, none⟩) 1 1) (w.alloc (.cells (bcells ds) 50)) := by
  obtain ⟨d0, d1, d2, d3, d4, d5, d6, d7, d8, d9, d10, d11, d12, d13, d14, d15, d16, d17, d18, d19, d20, d21, d22, d23, d24, d25, d26, d27, d28, d29, d30, d31, rfl⟩ := thirtytwo ds hd
  obtain ⟨i, hi0, hz, h1, h2⟩ := info_parts (P := Tryd.prog) (e := 50) (z := .agg #[.int .u8 0, .int .u8 0, .int .u8 0, .int .u8 0, .int .u8 0, .int .u8 0, .int .u8 0, .int .u8 0, .int .u8 0, .int .u8 0, .int .u8 0, .int .u8 0, .int .u8 0, .int .u8 0, .int .u8 0, .int .u8 0, .int .u8 0, .int .u8 0, .int .u8 0, .int .u8 0, .int .u8 0, .int .u8 0, .int .u8 0, .int .u8 0, .int .u8 0, .int .u8 0, .int .u8 0, .int .u8 0, .int .u8 0, .int .u8 0, .int .u8 0, .int .u8 0]) (size := 32) (bytes := 32) (by kernel_rfl)
  refine run_buildSlice w _ _ _ _ _ i _ Tryd.underlying51 hi0 hz (by rw [h1]; decide) (by rw [h1]; decide) ?_
  rw [h1]
  kernel_rfl
theorem fold_set : ∀ (xs : List Value) (k : Nat) (Z : Array Value), List.foldl (fun cs (x : Value × Nat) => cs.setIfInBounds x.snd x.fst) Z (xs.zipIdx k) = setMany Z k xs
  | [], _, _ => rfl
  | x :: xs, k, Z => by
    rw [List.zipIdx_cons, List.foldl_cons, fold_set xs (k + 1)]
    rfl
theorem fold32 (X : Array Value) (h : X.size = 32) (Z : Array Value) (hz : Z.size = 32) : Array.foldl (fun cs (x : Value × Nat) => cs.setIfInBounds x.snd x.fst) Z X.zipIdx 0 32 = X := by
  have e : Array.foldl (fun cs (x : Value × Nat) => cs.setIfInBounds x.snd x.fst) Z X.zipIdx 0 32 = Array.foldl (fun cs (x : Value × Nat) => cs.setIfInBounds x.snd x.fst) Z X.zipIdx 0 X.zipIdx.size := by rw [Array.size_zipIdx, h]
  rw [e, ← Array.foldl_toList, Array.toList_zipIdx, fold_set, setMany_whole _ _ (by rw [Array.length_toList, h, hz]), Array.toArray_toList]
theorem wpList_build_st {P : Program} {w : World} {ops : Array Oper} {rest : List Oper} {o : Oper} {a : Act} {Q : Exit → Act → World → Prop} (hgd : o.guard = none) (t : TypeId) (ps : Array (Nat × Operand)) (ho : o.op = .build t ps)
    (vs : Array (Nat × Value)) (hvs : (ps.map fun (i, x) => (i, a.eval x)) = vs) {v : Value} (hr : (Instr.build t vs).run P w = .ok v w) (h : wpList P ops Q rest (a.put o.dst v) w) : wpList P ops Q (o :: rest) a w := by
  refine wpList_plain hgd fun K hK => ?_
  subst hvs
  unfold Oper.wp execOp
  simp only [ho, Sem.run_bind, hr, Result.andThen_ok]
  exact hK _ _ h

/-- The i-th chunk. -/
def chunkAt (bs : List UInt8) (ch i : Nat) : List UInt8 := (bs.drop (i * ch)).take ch
def hashes (bs : List UInt8) (ch n : Nat) : List (List UInt8) := (List.range n).map fun i => hashOf (chunkAt bs ch i)
/-- Hashes as they lie in memory. -/
def hcells (hs : List (List UInt8)) : List Value := hs.flatMap (·.map bval)
theorem hashes_add (bs : List UInt8) (ch n : Nat) : hashes bs ch (n + 1) = hashes bs ch n ++ [hashOf (chunkAt bs ch n)] := by simp [hashes, List.range_succ]
theorem hashes_len (bs : List UInt8) (ch n : Nat) : (hashes bs ch n).length = n := by simp [hashes]
theorem hcells_add (hs : List (List UInt8)) (h : List UInt8) : hcells (hs ++ [h]) = hcells hs ++ h.map bval := by simp [hcells]
theorem chunkAt_mid (bs : List UInt8) (ch i : Nat) (h : (i + 1) * ch ≤ bs.length) : (chunkAt bs ch i).length = ch := by
  have : (i + 1) * ch = i * ch + ch := Nat.succ_mul i ch
  simp only [chunkAt, List.length_take, List.length_drop]; omega
theorem chunkAt_last (bs : List UInt8) (ch i : Nat) (h : bs.length ≤ (i + 1) * ch) : (chunkAt bs ch i).length = bs.length - i * ch := by
  have : (i + 1) * ch = i * ch + ch := Nat.succ_mul i ch
  simp only [chunkAt, List.length_take, List.length_drop]; omega
def madeM (prod : ByteArray) (ver : Int) (ch : Int) (bs : List UInt8) (A : Option Addr) (n c : Nat) : Man := ⟨prod, ver, bs.length, ch, hashOf bs, A, n, c⟩
theorem madeM_ok {prod : ByteArray} {ver ch : Int} {bs : List UInt8} {A : Option Addr} {n c : Nat} (v0 : 0 ≤ ver) (v1 : ver ≤ 18446744073709551615) (c0 : -9223372036854775808 ≤ ch) (c1 : ch ≤ 9223372036854775807) (hl : bs.length ≤ 1000000) (hn : n ≤ 9223372036854775807) : (madeM prod ver ch bs A n c).Ok :=
  ⟨hashOf_len bs, v0, v1, by simp only [madeM]; omega, by simp only [madeM]; omega, c0, c1, hn⟩

/-- How many chunks. -/
def mkN (ch : Int) (bs : List UInt8) : Nat := (cntM bs.length ch).toNat
def mkOk (prod : ByteArray) (ver ch : Int) (bs : List UInt8) : Bool := decide (mkN ch bs ≤ 64) && rightB prod ver bs.length ch (mkN ch bs)
def MkPost (W : World) (I : Nat → Option Obj) (F : List (Nat × Obj)) (prod : ByteArray) (ver ch : Int) (bs : List UInt8) (e : Ending) (w' : World) : Prop :=
  (mkOk prod ver ch bs = true → ∃ A c L0, e = .returned (.tuple #[(madeM prod ver ch bs A (mkN ch bs) c).val, .int .i64 0]) ∧ Row 50 32 (.slice A (mkN ch bs) c) (mkN ch bs) (hcells (hashes bs ch.toNat (mkN ch bs))) L0 ∧ St W w' I (L0 ++ F)) ∧
  (mkOk prod ver ch bs = false → e = .returned (.tuple #[zman.val, .int .i64 131]) ∧ St W w' I F)

set_option maxRecDepth 100000 in
set_option maxHeartbeats 8000000 in
theorem rmake {W w : World} {I : Nat → Option Obj} {F : List (Nat × Obj)} (t : TB W I) (prod : ByteArray) (hs : prod.size ≤ 1000000000) (ver : Int) (v0 : 0 ≤ ver) (v1 : ver ≤ 18446744073709551615) (ch : Int) (c0 : -9223372036854775808 ≤ ch) (c1 : ch ≤ 9223372036854775807)
    (p : Part) (hp : p.In W I) (hl : p.bs.length ≤ 1000000) (hcap : p.bs.length ≤ p.c) (h : St W w I F) :
    Calls Tryd.prog 16 #[.string prod, .int .u64 ver, .int .i64 ch, .slice p.A p.bs.length p.c] w (MkPost W I F prod ver ch p.bs) := by
  obtain ⟨A0, cap, bs⟩ := p
  simp only at hl hcap ⊢
  obtain ⟨b8, hb8⟩ : ∃ b, b = w.heap.size := ⟨_, rfl⟩
  have h1 := h.alloc (.cells zman.cells 53)
  rw [← hb8] at h1
  have cS0 := refsum ⟨A0, cap, bs⟩ hp hl h1
  have hbuild : ∀ w, (Instr.build 53 #[(0, .string prod), (1, .int .u64 ver), (2, .int .i64 bs.length), (3, .int .i64 ch), (4, .agg (HV bs))]).run Tryd.prog w = .ok (.agg (Man.cells ⟨prod, ver, bs.length, ch, hashOf bs, none, 0, 0⟩)) w := fun w => run_build_man prod ver bs.length ch (hashOf bs) (hashOf_len bs) w
  have hz0 := fun w => run_build_zero w
  have hlit := zman_lit
  obtain ⟨N, hN⟩ : ∃ N : Nat, cntM bs.length ch = (N : Int) := ⟨(cntM bs.length ch).toNat, by
    have : 0 ≤ cntM bs.length ch := by
      unfold cntM
      split
      · omega
      · have := Int.ediv_nonneg (by omega : (0 : Int) ≤ (bs.length : Int) - 1) (by omega : 0 ≤ ch); omega
    omega⟩
  have hN' : mkN ch bs = N := by unfold mkN; rw [hN]; exact Int.toNat_natCast N
  have cC := fun (v : World) => rcount bs.length ch (by omega) c1 v
  rw [hN] at cC
  have CS0 := Lib.hid cS0; have HB := Lib.hid hbuild; have HZ := Lib.hid hz0; have CC := Lib.hid cC; have HP := Lib.hid hp; have T := Lib.hid t; have HLIT := Lib.hid hlit
  have H1 := Lib.hid h1; have HN := Lib.hid hN; have HN' := Lib.hid hN'
  clear h h1 cS0 hbuild hz0 cC hp t hlit hN hN'
  generalize zman.cells = zc at *
  go_enter Tryd.func16, Tryd.ntmps16
  have hx := HLIT.out
  subst hx
  go_wp2_with fail
  rw [← hb8]
  refine CS0.out.mono ?_
  rintro e w1 ⟨rfl, h2⟩
  have h3 := h2.alloc (.cells zman.cells 53)
  rw [zman_lit] at h3
  have hM : ∃ mc, mc = Man.cells ⟨prod, ver, bs.length, ch, hashOf bs, none, 0, 0⟩ := ⟨_, rfl⟩
  obtain ⟨mc, hmc⟩ := hM
  have hms : mc.size = 37 := by rw [hmc]; exact Man.cells_size (madeM_ok (prod := prod) (A := none) (c := 0) v0 v1 c0 c1 hl (by omega : 0 ≤ 9223372036854775807))
  have hone : mc.all (·.oneCell') = true := by rw [hmc]; exact Man.one _
  have hbuild := HB.out
  rw [← hmc] at hbuild
  have ix : (Tryd.prog.info? 53).map (·.size) = some mc.size := by rw [hms]; kernel_rfl
  have fx : 0 + mc.size ≤ (Value.string ⟨#[]⟩ :: .int .u64 0 :: .int .i64 0 :: .int .i64 0 :: .int .u8 0 :: .int .u8 0 :: .int .u8 0 :: .int .u8 0 :: .int .u8 0 :: .int .u8 0 :: .int .u8 0 :: .int .u8 0 :: .int .u8 0 :: .int .u8 0 :: .int .u8 0 :: .int .u8 0 :: .int .u8 0 :: .int .u8 0 :: .int .u8 0 :: .int .u8 0 :: .int .u8 0 :: .int .u8 0 :: .int .u8 0 :: .int .u8 0 :: .int .u8 0 :: .int .u8 0 :: .int .u8 0 :: .int .u8 0 :: .int .u8 0 :: .int .u8 0 :: .int .u8 0 :: .int .u8 0 :: .int .u8 0 :: .int .u8 0 :: .int .u8 0 :: .int .u8 0 :: .slice none 0 0 :: []).toArray.size := by rw [hms]; decide
  have IX := Lib.hid ix; have FX := Lib.hid fx
  clear ix fx
  have H3 := Lib.hid h3; have HB2 := Lib.hid hbuild; have HMS := Lib.hid hms; have HMC := Lib.hid hmc; have HO := Lib.hid hone
  clear h2 h3 hbuild HB hms hmc hone HLIT H1 CS0
  go_wp2_with (first
    | (with_reducible refine wpList_build_st rfl 53 _ rfl _ ?_ (HB2.out _) ?_; · go_simp)
    | (with_reducible refine wpList_store_st rfl 53 (.tmp 10) (.tmp 22) rfl (g := w1.heap.size) (off := 0) mc rfl rfl H3.out FX.out IX.out HO.out ?_; intro w2 h4; refine Hid.out ?_))
  refine Lib.hid ?_
  rw [setMany_whole _ _ (by rw [Array.length_toList, HMS.out]; rfl), Array.toArray_toList, HMC.out] at h4
  generalize w1.heap.size = bm at *
  have H4 := Lib.hid h4
  clear h4 H3 HB2 HMS HMC HO IX FX
  generalize hzc : (Value.string ⟨#[]⟩ :: .int .u64 0 :: .int .i64 0 :: .int .i64 0 :: .int .u8 0 :: .int .u8 0 :: .int .u8 0 :: .int .u8 0 :: .int .u8 0 :: .int .u8 0 :: .int .u8 0 :: .int .u8 0 :: .int .u8 0 :: .int .u8 0 :: .int .u8 0 :: .int .u8 0 :: .int .u8 0 :: .int .u8 0 :: .int .u8 0 :: .int .u8 0 :: .int .u8 0 :: .int .u8 0 :: .int .u8 0 :: .int .u8 0 :: .int .u8 0 :: .int .u8 0 :: .int .u8 0 :: .int .u8 0 :: .int .u8 0 :: .int .u8 0 :: .int .u8 0 :: .int .u8 0 :: .int .u8 0 :: .int .u8 0 :: .int .u8 0 :: .int .u8 0 :: .slice none 0 0 :: []).toArray = zc at *
  have HZC := Lib.hid hzc
  clear hzc
  have hzs : zc.size = 37 := by rw [← HZC.out]; rfl
  have hzo : zc.all (·.oneCell') = true := by rw [← HZC.out, ← zman_lit]; exact Man.one zman
  have hzi : (Tryd.prog.info? 53).map (·.size) = some zc.size := by rw [hzs]; kernel_rfl
  have hzf : 0 + zc.size ≤ zc.size := by omega
  have HZS := Lib.hid hzs; have HZO := Lib.hid hzo; have HZI := Lib.hid hzi; have HZF := Lib.hid hzf
  clear hzs hzo hzi hzf
  go_wp2_with fail
  refine (CC.out _).mono ?_
  rintro e w3 ⟨rfl, rfl⟩
  clear CC
  simp only [← hb8]
  clear hb8
  by_cases h64 : N ≤ 64
  · go_wp2_with fail
    have hok : ∀ (A : Option Addr) (k c : Nat), k ≤ 100 → (madeM prod ver ch bs A k c).Ok := fun A k c hk => madeM_ok v0 v1 c0 c1 hl (by omega)
    go_loopw [12] (fun i wr => ∃ (k : Nat) (A : Option Addr) (c : Nat) (L0 : List (Nat × Obj)), i = .int .i64 k ∧ k ≤ N ∧ Row 50 32 (.slice A k c) k (hcells (hashes bs ch.toNat k)) L0 ∧ St W wr I ((bm, .cells (madeM prod ver ch bs A k c).cells 53 (0, 0)) :: (L0 ++ ((b8, .cells zc 53 (0, 0)) :: F)))) (fun i _ => N - (intOf i).toNat)
    case atStart => exact ⟨0, none, 0, [], rfl, by omega, Row.nil _ _, H4.out⟩
    case round =>
      obtain ⟨k, A, c, L0, rfl, hk, hrow, hst⟩ := hrel
      clear H4
      by_cases hkl : k < N
      · have hN := HN.out
        have hcs : 1 ≤ ch ∧ 1 ≤ (bs.length : Int) := by
          unfold cntM at hN
          split at hN
          · omega
          · omega
        obtain ⟨s1, s2, s3⟩ := cntM_span bs.length ch hcs.2 hcs.1
        rw [hN] at s1 s2 s3
        obtain ⟨cn, rfl⟩ : ∃ cn : Nat, ch = (cn : Int) := ⟨ch.toNat, by omega⟩
        rw [Int.toNat_natCast] at hrow
        obtain ⟨M, hM⟩ : ∃ M, N = M + 1 := ⟨N - 1, by omega⟩
        have t2 : M * cn < bs.length := by
          rw [hM] at s2
          have : ((M + 1 : Nat) : Int) - 1 = (M : Int) := by omega
          rw [this, ← Int.natCast_mul] at s2
          omega
        have t3 : bs.length ≤ N * cn := by rw [← Int.natCast_mul] at s3; omega
        obtain ⟨P, hP⟩ : ∃ P, k * cn = P := ⟨_, rfl⟩
        have hPi : (k : Int) * (cn : Int) = (P : Int) := by rw [← Int.natCast_mul, hP]
        have hkP : P ≤ M * cn := by rw [← hP]; exact Nat.mul_le_mul_right _ (by omega)
        clear s1 s2 s3 hN
        by_cases hlast : k = M
        · have hE : P ≤ bs.length := by omega

          have ce : (chunkAt bs cn k).length = bs.length - P := by rw [← hP]; exact chunkAt_last bs cn k (by rw [show k + 1 = N by omega]; exact t3)
          have hin : Part.In ⟨subA A0 cap P, cap - P, chunkAt bs cn k⟩ W I := by
            unfold chunkAt
            rw [hP]
            exact Part.In_take (cap - P) cn (Part.In_drop (cap - P) P hcap HP.out)
          have sl := fun w => run_slice_mid Tryd.underlying27 Tryd.sizeOf5 A0 bs.length cap P bs.length hE (by omega) w
          obtain ⟨X, hX⟩ : ∃ X, HV (chunkAt bs cn k) = X := ⟨_, rfl⟩
          have hXs : X.size = 32 := by rw [← hX, HV, bcells_size, hashOf_len]
          have cS : ∀ v, St W v I ((bm, .cells (madeM prod ver (cn : Int) bs A k c).cells 53 (0, 0)) :: (L0 ++ ((b8, .cells zc 53 (0, 0)) :: F))) → Calls Tryd.prog 43 #[.slice (subA A0 cap P) (bs.length - P) (cap - P)] v (fun e w' => e = .returned (.agg X) ∧ St W w' I ((bm, .cells (madeM prod ver (cn : Int) bs A k c).cells 53 (0, 0)) :: (L0 ++ ((b8, .cells zc 53 (0, 0)) :: F)))) := fun v hv => by
            have h9 := refsum (w := v) ⟨subA A0 cap P, cap - P, chunkAt bs cn k⟩ hin (by simp only [ce]; omega) hv
            simp only [ce] at h9
            rw [← hX]
            exact h9
          have hone : ∀ u ∈ X.toList, u.oneCell' = true := by
            intro u hu
            have h1 := bcells_one (hashOf (chunkAt bs cn k))
            rw [← hX] at hu
            exact Array.all_eq_true_iff_forall_mem.1 h1 u (Array.mem_toList_iff.1 hu)
          have hadd : hcells (hashes bs cn k) ++ X.toList = hcells (hashes bs cn (k + 1)) := by
            rw [hashes_add, hcells_add, ← hX]
            simp [HV, bcells]
          have CS := Lib.hid cS; have HADD := Lib.hid hadd; have HONE := Lib.hid hone; have HROW := Lib.hid hrow; have HX := Lib.hid hX
          clear cS hadd hone hX hrow
          have facts : ∀ (v : World), St W v I ((bm, .cells (madeM prod ver (cn : Int) bs A k c).cells 53 (0, 0)) :: (L0 ++ ((b8, .cells zc 53 (0, 0)) :: F))) → v.cell? ⟨bm, 36, none⟩ = some (.slice A k c) ∧ v.frozen? ⟨bm, 36, none⟩ = false := fun v hv =>
            ⟨(hv.cell (g := bm) (t := 53) (fr := (0, 0)) (List.mem_cons_self ..) 36).trans (Man.g36 (hok A k c (by omega))), hv.frozen (g := bm) (t := 53) (List.mem_cons_self ..) 36⟩
          have HST := Lib.hid hst; have FACTS := Lib.hid facts
          clear hst facts
          have F0 : (0 : Int) ≤ (P : Int) := by omega
          have F1 : (P : Int) ≤ (bs.length : Int) := by omega
          have F2 : (bs.length : Int) ≤ (bs.length : Int) := by omega
          have F3 : (bs.length : Int) ≤ (cap : Int) := by omega
          have F4 : (k : Int) < (N : Int) := by omega
          have F5 : ¬ ((k : Int) < (N : Int) - 1) := by omega
          clear hM hP  hlast t2 t3 hkP
          have S0 : wr.drew.cell? ⟨bm, 36, none⟩ = some (.slice A k c) := (FACTS.out _ HST.out.drew1).1
          go_wp2_with fail
          go_region_law (first
            | (go_simp; go_at_call 43; refine (CS.out _ (by first | exact HST.out.drew1 | exact HST.out.drew _ | exact HST.out)).mono ?_; rintro e w5 ⟨rfl, h5⟩; have S5 := (FACTS.out _ h5).1; have S5a : ∀ o, (w5.alloc o).cell? ⟨bm, 36, none⟩ = some (.slice A k c) := fun o => cell_old S5; dsimp only)
            | (refine step_append_row (F := (bm, .cells (madeM prod ver (cn : Int) bs A k c).cells 53 (0, 0)) :: ((b8, .cells zc 53 (0, 0)) :: F)) rfl (.tmp 48) (.tmp 54) _ rfl 50 (.agg #[.int .u8 0, .int .u8 0, .int .u8 0, .int .u8 0, .int .u8 0, .int .u8 0, .int .u8 0, .int .u8 0, .int .u8 0, .int .u8 0, .int .u8 0, .int .u8 0, .int .u8 0, .int .u8 0, .int .u8 0, .int .u8 0, .int .u8 0, .int .u8 0, .int .u8 0, .int .u8 0, .int .u8 0, .int .u8 0, .int .u8 0, .int .u8 0, .int .u8 0, .int .u8 0, .int .u8 0, .int .u8 0, .int .u8 0, .int .u8 0, .int .u8 0, .int .u8 0]) 32 32 Tryd.underlying51 (by kernel_rfl) rfl (by omega) rfl HROW.out (St.swap (A := [_]) (St.alloc_ h5 _)) rfl (Src.newS _ 32 _ 50 rfl 1 (by rw [fold32 X hXs _ rfl]; exact hXs)) (by rw [fold32 X hXs _ rfl]; exact HONE.out) (k + 1) rfl (hcells (hashes bs cn (k + 1))) (by rw [fold32 X hXs _ rfl]; exact HADD.out) (by unfold maxLen; omega) (by omega) ?_; intro A6 c6 w6 L6 hr6 h6; have S6 : w6.cell? ⟨bm, 36, none⟩ = some (.slice A k c) := (h6.cell (g := bm) (t := 53) (fr := (0, 0)) (by simp) 36).trans (Man.g36 (hok A k c (by omega))); have Z6 : w6.frozen? ⟨bm, 36, none⟩ = false := h6.frozen (g := bm) (t := 53) (cs := (madeM prod ver (cn : Int) bs A k c).cells) (by simp) 36; dsimp only))
          all_goals
            have h7 := St.set (A := L6) (g := bm) h6 36 (.slice A6 (k + 1) c6)
            rw [man_set36 _ (hok A k c (by omega))] at h7
            have h9 := St.perm h7 List.perm_middle
            have H9 := Lib.hid h9; have HR6 := Lib.hid hr6
            clear h7 h9 hr6 h6 S6 Z6 S0
            go_wp2_with fail
            refine ⟨⟨k + 1, A6, c6, L6, by go_num, by omega, by rw [Int.toNat_natCast]; exact HR6.out, H9.out⟩, ?_⟩
            simp [intOf]; omega

        · have hE2 : P + cn ≤ M * cn := by
            have : (k + 1) * cn ≤ M * cn := Nat.mul_le_mul_right _ (by omega)
            have h2 : (k + 1) * cn = k * cn + cn := Nat.succ_mul k cn
            omega
          obtain ⟨E, hE⟩ : ∃ E, P + cn = E := ⟨_, rfl⟩
          have hEi : (P : Int) + (cn : Int) = (E : Int) := by omega
          have hPE : P ≤ E := by omega

          have ce : (chunkAt bs cn k).length = E - P := by rw [chunkAt_mid bs cn k (by rw [Nat.succ_mul, hP]; omega)]; omega
          have hin : Part.In ⟨subA A0 cap P, cap - P, chunkAt bs cn k⟩ W I := by
            unfold chunkAt
            rw [hP]
            exact Part.In_take (cap - P) cn (Part.In_drop (cap - P) P hcap HP.out)
          have sl := fun w => run_slice_mid Tryd.underlying27 Tryd.sizeOf5 A0 bs.length cap P E hPE (by omega) w
          obtain ⟨X, hX⟩ : ∃ X, HV (chunkAt bs cn k) = X := ⟨_, rfl⟩
          have hXs : X.size = 32 := by rw [← hX, HV, bcells_size, hashOf_len]
          have cS : ∀ v, St W v I ((bm, .cells (madeM prod ver (cn : Int) bs A k c).cells 53 (0, 0)) :: (L0 ++ ((b8, .cells zc 53 (0, 0)) :: F))) → Calls Tryd.prog 43 #[.slice (subA A0 cap P) (E - P) (cap - P)] v (fun e w' => e = .returned (.agg X) ∧ St W w' I ((bm, .cells (madeM prod ver (cn : Int) bs A k c).cells 53 (0, 0)) :: (L0 ++ ((b8, .cells zc 53 (0, 0)) :: F)))) := fun v hv => by
            have h9 := refsum (w := v) ⟨subA A0 cap P, cap - P, chunkAt bs cn k⟩ hin (by simp only [ce]; omega) hv
            simp only [ce] at h9
            rw [← hX]
            exact h9
          have hone : ∀ u ∈ X.toList, u.oneCell' = true := by
            intro u hu
            have h1 := bcells_one (hashOf (chunkAt bs cn k))
            rw [← hX] at hu
            exact Array.all_eq_true_iff_forall_mem.1 h1 u (Array.mem_toList_iff.1 hu)
          have hadd : hcells (hashes bs cn k) ++ X.toList = hcells (hashes bs cn (k + 1)) := by
            rw [hashes_add, hcells_add, ← hX]
            simp [HV, bcells]
          have CS := Lib.hid cS; have HADD := Lib.hid hadd; have HONE := Lib.hid hone; have HROW := Lib.hid hrow; have HX := Lib.hid hX
          clear cS hadd hone hX hrow
          have facts : ∀ (v : World), St W v I ((bm, .cells (madeM prod ver (cn : Int) bs A k c).cells 53 (0, 0)) :: (L0 ++ ((b8, .cells zc 53 (0, 0)) :: F))) → v.cell? ⟨bm, 36, none⟩ = some (.slice A k c) ∧ v.frozen? ⟨bm, 36, none⟩ = false := fun v hv =>
            ⟨(hv.cell (g := bm) (t := 53) (fr := (0, 0)) (List.mem_cons_self ..) 36).trans (Man.g36 (hok A k c (by omega))), hv.frozen (g := bm) (t := 53) (List.mem_cons_self ..) 36⟩
          have HST := Lib.hid hst; have FACTS := Lib.hid facts
          clear hst facts
          have F0 : (0 : Int) ≤ (P : Int) := by omega
          have F1 : (P : Int) ≤ (E : Int) := by omega
          have F2 : (E : Int) ≤ (bs.length : Int) := by omega
          have F3 : (E : Int) ≤ (cap : Int) := by omega
          have F4 : (k : Int) < (N : Int) := by omega
          have F5 : (k : Int) < (N : Int) - 1 := by omega
          clear hM hP hE2 hE hlast t2 t3 hkP
          have S0 : wr.drew.cell? ⟨bm, 36, none⟩ = some (.slice A k c) := (FACTS.out _ HST.out.drew1).1
          go_wp2_with fail
          go_region_law (first
            | (go_simp; go_at_call 43; refine (CS.out _ (by first | exact HST.out.drew1 | exact HST.out.drew _ | exact HST.out)).mono ?_; rintro e w5 ⟨rfl, h5⟩; have S5 := (FACTS.out _ h5).1; have S5a : ∀ o, (w5.alloc o).cell? ⟨bm, 36, none⟩ = some (.slice A k c) := fun o => cell_old S5; dsimp only)
            | (refine step_append_row (F := (bm, .cells (madeM prod ver (cn : Int) bs A k c).cells 53 (0, 0)) :: ((b8, .cells zc 53 (0, 0)) :: F)) rfl (.tmp 48) (.tmp 54) _ rfl 50 (.agg #[.int .u8 0, .int .u8 0, .int .u8 0, .int .u8 0, .int .u8 0, .int .u8 0, .int .u8 0, .int .u8 0, .int .u8 0, .int .u8 0, .int .u8 0, .int .u8 0, .int .u8 0, .int .u8 0, .int .u8 0, .int .u8 0, .int .u8 0, .int .u8 0, .int .u8 0, .int .u8 0, .int .u8 0, .int .u8 0, .int .u8 0, .int .u8 0, .int .u8 0, .int .u8 0, .int .u8 0, .int .u8 0, .int .u8 0, .int .u8 0, .int .u8 0, .int .u8 0]) 32 32 Tryd.underlying51 (by kernel_rfl) rfl (by omega) rfl HROW.out (St.swap (A := [_]) (St.alloc_ h5 _)) rfl (Src.newS _ 32 _ 50 rfl 1 (by rw [fold32 X hXs _ rfl]; exact hXs)) (by rw [fold32 X hXs _ rfl]; exact HONE.out) (k + 1) rfl (hcells (hashes bs cn (k + 1))) (by rw [fold32 X hXs _ rfl]; exact HADD.out) (by unfold maxLen; omega) (by omega) ?_; intro A6 c6 w6 L6 hr6 h6; have S6 : w6.cell? ⟨bm, 36, none⟩ = some (.slice A k c) := (h6.cell (g := bm) (t := 53) (fr := (0, 0)) (by simp) 36).trans (Man.g36 (hok A k c (by omega))); have Z6 : w6.frozen? ⟨bm, 36, none⟩ = false := h6.frozen (g := bm) (t := 53) (cs := (madeM prod ver (cn : Int) bs A k c).cells) (by simp) 36; dsimp only))
          all_goals
            have h7 := St.set (A := L6) (g := bm) h6 36 (.slice A6 (k + 1) c6)
            rw [man_set36 _ (hok A k c (by omega))] at h7
            have h9 := St.perm h7 List.perm_middle
            have H9 := Lib.hid h9; have HR6 := Lib.hid hr6
            clear h7 h9 hr6 h6 S6 Z6 S0
            go_wp2_with fail
            refine ⟨⟨k + 1, A6, c6, L6, by go_num, by omega, by rw [Int.toNat_natCast]; exact HR6.out, H9.out⟩, ?_⟩
            simp [intOf]; omega

      · obtain rfl : k = N := by omega
        have hrr := rright13 T.out (madeM prod ver ch bs A k c) (hok A k c (by omega)) hs hst
        have hmk : mkOk prod ver ch bs = rightM (madeM prod ver ch bs A k c) := by
          unfold mkOk rightM
          rw [HN'.out, decide_eq_true h64, Bool.true_and]
          rfl
        have hsz := Man.cells_size (hok A k c (by omega))
        have hmo := Man.one (madeM prod ver ch bs A k c)
        have hmi : (Tryd.prog.info? 53).map (·.size) = some (madeM prod ver ch bs A k c).cells.size := by rw [hsz]; kernel_rfl
        have hmf : 0 + (madeM prod ver ch bs A k c).cells.size ≤ zc.size := by rw [hsz, HZS.out]; omega
        have hval : (madeM prod ver ch bs A k c).val = .agg (madeM prod ver ch bs A k c).cells := rfl
        rw [hval] at hrr
        obtain ⟨R, hR⟩ : ∃ R, rightM (madeM prod ver ch bs A k c) = R := ⟨_, rfl⟩
        rw [hR] at hrr hmk
        obtain ⟨mk, hmkk⟩ : ∃ mk, mk = (madeM prod ver ch bs A k c).cells := ⟨_, rfl⟩
        rw [← hmkk] at hrr hmo hmi hmf hsz hval hst
        have HST := Lib.hid hst; have HRR := Lib.hid hrr; have HMK := Lib.hid hmk; have HMO := Lib.hid hmo; have HMI := Lib.hid hmi; have HMF := Lib.hid hmf; have HVAL := Lib.hid hval; have HROW := Lib.hid hrow; have HMS := Lib.hid hsz
        clear hst hrr hmk hmo hmi hmf hval hrow hsz hR hmkk hok
        go_wp2_with (with_reducible refine wpList_load_st rfl 53 (.tmp 10) rfl (g := bm) (off := 0) rfl HST.out (List.mem_cons_self ..) mk (fun j hj => by rw [Nat.zero_add]) _ Tryd.underlying53 rfl HMI.out ?_)
        refine HRR.out.mono ?_
        rintro e w4 ⟨rfl, h5⟩
        have h5s := St.swap (A := (bm, _) :: L0) (B := [_]) h5
        have H5 := Lib.hid h5; have H5S := Lib.hid h5s
        clear HST HRR h5 h5s
        cases R with
        | true =>
          go_wp2_with (first
            | (with_reducible refine wpList_load_st rfl 53 (.tmp 10) rfl (g := bm) (off := 0) rfl H5.out (List.mem_cons_self ..) mk (fun j hj => by rw [Nat.zero_add]) _ Tryd.underlying53 rfl HMI.out ?_)
            | (with_reducible refine wpList_store_st rfl 53 (.tmp 8) (.tmp 61) rfl (g := b8) (off := 0) mk rfl rfl H5S.out HMF.out HMI.out HMO.out ?_; intro w5 h6; refine Hid.out ?_))
          refine Lib.hid ?_
          rw [setMany_whole _ _ (by rw [Array.length_toList, HMS.out, HZS.out]), Array.toArray_toList] at h6
          have H6 := Lib.hid h6
          clear h6
          go_wp2_with fail
          refine bodyPost_ret (results_row_tmp rfl _ _ b8 53 mk (0, 0) _ rfl (H6.out.own (b8, _) (List.mem_cons_self ..)) Tryd.underlying53 rfl HMI.out) rfl ?_
          exact ⟨fun _ => ⟨A, c, L0, by rw [HN'.out, HVAL.out]; rfl, by rw [HN'.out]; exact HROW.out, St.weaken (A := [_, _]) H6.out⟩, fun h => absurd (HMK.out.symm.trans h) (by simp)⟩
        | false =>
          go_wp2_with (first
            | (with_reducible refine wpList_build_st rfl 53 _ rfl _ ?_ (HZ.out _) ?_; · go_simp)
            | (with_reducible refine wpList_store_st rfl 53 (.tmp 8) (.tmp 60) rfl (g := b8) (off := 0) zc rfl rfl H5S.out HZF.out HZI.out HZO.out ?_; intro w5 h6; refine Hid.out ?_))
          refine Lib.hid ?_
          rw [setMany_whole _ _ (by rw [Array.length_toList]), Array.toArray_toList] at h6
          have H6 := Lib.hid h6
          clear h6
          go_wp2_with fail
          refine bodyPost_ret (results_row_tmp rfl _ _ b8 53 zc (0, 0) _ rfl (H6.out.own (b8, _) (List.mem_cons_self ..)) Tryd.underlying53 rfl HZI.out) rfl ?_
          exact ⟨fun h => absurd (HMK.out.symm.trans h) (by simp), fun _ => ⟨by rw [Man.val, zman_lit, HZC.out]; rfl, St.weaken (A := (_, _) :: (_, _) :: L0) H6.out⟩⟩
  · have H4s := Lib.hid (St.swap (A := [_]) (B := [_]) H4.out)
    go_wp2_with (first
      | (with_reducible refine wpList_build_st rfl 53 _ rfl _ ?_ (HZ.out _) ?_; · go_simp)
      | (with_reducible refine wpList_store_st rfl 53 (.tmp 8) (.tmp 29) rfl (g := b8) (off := 0) zc rfl rfl H4s.out HZF.out HZI.out HZO.out ?_; intro w3 h5; refine Hid.out ?_))
    refine Lib.hid ?_
    rw [setMany_whole _ _ (by rw [Array.length_toList]), Array.toArray_toList] at h5
    have H5 := Lib.hid h5
    clear h5
    go_wp2_with fail
    have hmk : mkOk prod ver ch bs = false := by simp [mkOk, HN'.out, h64]
    refine bodyPost_ret (results_row_tmp rfl _ _ b8 53 zc (0, 0) _ rfl (H5.out.own (b8, _) (List.mem_cons_self ..)) Tryd.underlying53 rfl (by rw [HZS.out]; kernel_rfl)) rfl ?_
    exact ⟨fun h => absurd (hmk.symm.trans h) (by simp), fun _ => ⟨by rw [Man.val, zman_lit, HZC.out]; rfl, St.weaken (A := [_, _]) H5.out⟩⟩
end Go.Proofs.YtnhlpiomfljlcaaDoor
