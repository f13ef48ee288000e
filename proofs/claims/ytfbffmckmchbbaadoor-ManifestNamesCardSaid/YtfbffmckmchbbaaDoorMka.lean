/- manifest: Make (a range over slices.Chunk): walk. -/
import Derived.Test.YtfbffmckmchbbaaDoorMkR
import Derived.Test.YtfbffmckmchbbaaDoorRngM
import Derived.Test.YtfbffmckmchbbaaDoorDigs
import Derived.Test.YtfbffmckmchbbaaDoorManRS
namespace Go.Proofs.YtfbffmckmchbbaaDoor
set_option linter.unusedVariables false
set_option linter.unusedSimpArgs false
open Go.RowKit Go.Lib Go.Shelf
attribute [local go_sem] Oper.semAt_some

theorem chN_cnt (len q : Nat) (hl : 1 ≤ len) (hq : 1 ≤ q) : ((chN len q : Nat) : Int) = cntM len q := by
  unfold chN cntM
  rw [if_neg (by omega)]
  have h1 : len + q - 1 = (len - 1) + q := by omega
  rw [h1, Nat.add_div_right _ (by omega)]
  push_cast
  rw [Int.natCast_sub hl]
  rfl
def mz (prod : ByteArray) (ver ch : Int) (len : Nat) (dig : List UInt8) (A : Option Addr) (n c : Nat) : Man := ⟨prod, ver, len, ch, dig, A, n, c⟩
theorem mz_ok {prod : ByteArray} {ver ch : Int} {len : Nat} {dig : List UInt8} {A : Option Addr} {n c : Nat} (hd : dig.length = 32) (v0 : 0 ≤ ver) (v1 : ver ≤ 18446744073709551615) (c0 : -9223372036854775808 ≤ ch) (c1 : ch ≤ 9223372036854775807) (hl : len ≤ 1000000) (hn : n ≤ 9223372036854775807) : (mz prod ver ch len dig A n c).Ok :=
  ⟨hd, v0, v1, by simp only [mz]; omega, by simp only [mz]; omega, c0, c1, hn⟩

section
variable {W w : World} {I : Nat → Option Obj} {L : List (Nat × Obj)}
/-- A block that is no row, held with the others; it turns. -/
theorem St.keepD {D : Nat} {o : Obj} {B : Nat} (h : St W w I L) (hD : w.heap[D]? = some o) (ho : o.isCells = false) (hB : B ≤ D) (hI : ∀ b o, I b = some o → b < B) (hL : ∀ p ∈ L, p.1 < B ∨ p.2.isCells = true) : St W w I ((D, o) :: L) := by
  have hne : ∀ p ∈ L, p.1 ≠ D := fun p hp e => by
    rcases hL p hp with h1 | h1
    · omega
    · have h2 := h.own p hp
      rw [e, hD] at h2
      injection h2 with h2
      rw [← h2, ho] at h1
      cases h1
  refine ⟨h.os, h.tape, h.output, fun p hp => ?_, ?_, h.imm, fun p hp => ?_⟩
  · rcases List.mem_cons.1 hp with rfl | hp
    · exact hD
    · exact h.own p hp
  · simp only [List.map_cons, List.nodup_cons]
    refine ⟨fun hm => ?_, h.nodup⟩
    obtain ⟨p, hp, e⟩ := List.mem_map.1 hm
    exact hne p hp e
  · rcases List.mem_cons.1 hp with rfl | hp
    · cases hx : I D with
      | none => rfl
      | some o' => have := hI _ _ hx; omega
    · exact h.apart p hp
theorem St.putD {A B : List (Nat × Obj)} {D : Nat} {o o' : Obj} (h : St W w I (A ++ (D, o) :: B)) : St W (w.putObj D o') I (A ++ B) := by
  have hn := h.nodup
  rw [List.map_append, List.map_cons, List.nodup_append] at hn
  obtain ⟨n1, n2, n3⟩ := hn
  rw [List.nodup_cons] at n2
  have hne : ∀ p ∈ A ++ B, p.1 ≠ D := fun p hp e => by
    rcases List.mem_append.1 hp with hp | hp
    · exact n3 _ (List.mem_map_of_mem hp) D (List.mem_cons_self ..) e
    · have h1 := List.mem_map_of_mem (f := fun x : Nat × Obj => x.1) hp
      rw [e] at h1
      exact n2.1 h1
  have hI : I D = none := h.apart (D, o) (by simp)
  refine ⟨h.os, h.tape, h.output, fun p hp => ?_, ?_, fun b o2 hb => ?_, fun p hp => ?_⟩
  · rw [World.putObj_heap_other (hne p hp)]
    rcases List.mem_append.1 hp with hp | hp
    · exact h.own p (by simp [hp])
    · exact h.own p (by simp [hp])
  · rw [List.map_append, List.nodup_append]
    exact ⟨n1, n2.2, fun a ha b hb => n3 a ha b (List.mem_cons_of_mem _ hb)⟩
  · have : b ≠ D := by rintro rfl; rw [hI] at hb; cases hb
    rw [World.putObj_heap_other this]
    exact h.imm b o2 hb
  · rcases List.mem_append.1 hp with hp | hp
    · exact h.apart p (by simp [hp])
    · exact h.apart p (by simp [hp])
end

section
variable {W w : World} {I : Nat → Option Obj} {F : List (Nat × Obj)}
/-- The digest of one run of bytes. -/
theorem dsum1 (p : Part) (hp : p.In W I) (hl : p.bs.length ≤ 1000000) (h : St W w I F) :
    Calls Tryd.prog 43 #[.slice (some ⟨w.heap.size, 0, none⟩) 1 1] (w.alloc (.cells #[.slice p.A p.bs.length p.c] 22)) fun e w' => e = .returned (.agg (HV p.bs)) ∧ St W w' I F := by
  have hc : cat [p] = p.bs := by simp [cat]
  have h9 := ds_all [p] (in_cons hp in_nil) (Digs.nil h) (n0 := w.heap.size) (n := 1) rfl rfl (by rw [hc]; omega) (by omega)
  rw [hc] at h9
  exact h9.mono fun e w' ⟨he, hd⟩ => ⟨he, hd.frame⟩

/-- Between two rounds. -/
def MkI (W : World) (I : Nat → Option Obj) (F : List (Nat × Obj)) (M : Option Addr → Nat → Nat → Man) (bs : List UInt8) (q bm : Nat) (X : List (Nat × Obj)) (pre : List Nat) (W1 : World) : Prop :=
  ∃ A c L0, Row 26 32 (.slice A pre.length c) pre.length (hcells (pre.map fun i => hashOf (chunkAt bs q i))) L0 ∧ St W W1 I ((bm, .cells (M A pre.length c).cells 29 (0, 0)) :: (L0 ++ (X ++ F)))

theorem mk_step {M : Option Addr → Nat → Nat → Man} {bs : List UInt8} {q bm b1 b2 x g : Nat} {X : List (Nat × Obj)} {pre : List Nat} {W1 v : World} {J : Nat → Option Obj} {A A6 : Option Addr} {c c6 : Nat} {og : Obj} {L0 L6 : List (Nat × Obj)}
    (hrow : Row 26 32 (.slice A pre.length c) pre.length (hcells (pre.map fun i => hashOf (chunkAt bs q i))) L0) (hst : St W W1 I ((bm, .cells (M A pre.length c).cells 29 (0, 0)) :: (L0 ++ (X ++ F))))
    (hle : Le I J) (hall : ∀ b o, W1.heap[b]? = some o → (∀ p ∈ (bm, Obj.cells (M A pre.length c).cells 29 (0, 0)) :: (L0 ++ (X ++ F)), p.1 ≠ b) → J b = some o)
    (hX1 : ∃ o, (b1, o) ∈ X) (hX2 : ∃ o, (b2, o) ∈ X) (hg : W1.heap.size ≤ g)
    (hr6 : Row 26 32 (.slice A6 (pre.length + 1) c6) (pre.length + 1) (hcells ((pre ++ [x]).map fun i => hashOf (chunkAt bs q i))) L6)
    (hv : St W v J (L6 ++ ([(g, og), (bm, .cells (M A6 (pre.length + 1) c6).cells 29 (0, 0))] ++ (X ++ F)))) :
    KeepsOthers W1 v ∧ Kc b1 b2 W1 v ∧ MkI W I F M bs q bm X (pre ++ [x]) v := by
  have hsz : W1.heap.size ≤ v.heap.size := by
    have h1 := hv.lt (p := (g, og)) (by simp)
    simp only at h1
    omega
  refine ⟨St.keeps hall hsz (fun p hp hc => ?_) hst hv, fun k hk => ?_, A6, c6, L6, ?_, ?_⟩
  · rcases List.mem_cons.1 hp with rfl | hp
    · cases hc
    · rcases List.mem_append.1 hp with hp | hp
      · exfalso
        obtain ⟨_, ⟨_, _, rfl⟩ | ⟨g, off, cap, cur, _, rfl, _⟩⟩ := hrow
        · cases hp
        · simp at hp; subst hp; cases hc
      · exact List.mem_append.2 (.inr (List.mem_append.2 (.inr hp)))
  · obtain ⟨o, ho⟩ : ∃ o, (k, o) ∈ X := by
      rcases hk with rfl | rfl
      · exact hX1
      · exact hX2
    have h1 := hv.own (k, o) (by simp [ho])
    have h2 := hst.own (k, o) (by simp [ho])
    exact h1.trans h2.symm
  · rw [List.length_append]; exact hr6
  · rw [List.length_append]
    have h9 := (St.swap (A := L6) (B := [_, _]) hv).less hle
    exact St.weaken (A := [_]) h9

set_option maxRecDepth 100000 in
set_option maxHeartbeats 8000000 in
theorem mmake (t : TB W I) (prod : ByteArray) (hs : prod.size ≤ 1000000) (ver : Int) (v0 : 0 ≤ ver) (v1 : ver ≤ 18446744073709551615) (ch : Int) (c0 : -9223372036854775808 ≤ ch) (c1 : ch ≤ 9223372036854775807)
    (p : Part) (hp : p.In W I) (hl : p.bs.length ≤ 1000000) (hcap : p.bs.length ≤ p.c) (h : St W w I F) :
    Calls Tryd.prog 19 #[.string prod, .int .u64 ver, .int .i64 ch, .slice p.A p.bs.length p.c] w (MkPost W I F prod ver ch p.bs) := by
  obtain ⟨A0, cap, bs⟩ := p
  simp only at hl hcap ⊢
  have h1 := (h.alloc (.cells (Value.string ⟨#[]⟩ :: .int .u64 0 :: .int .i64 0 :: .int .i64 0 :: .int .u8 0 :: .int .u8 0 :: .int .u8 0 :: .int .u8 0 :: .int .u8 0 :: .int .u8 0 :: .int .u8 0 :: .int .u8 0 :: .int .u8 0 :: .int .u8 0 :: .int .u8 0 :: .int .u8 0 :: .int .u8 0 :: .int .u8 0 :: .int .u8 0 :: .int .u8 0 :: .int .u8 0 :: .int .u8 0 :: .int .u8 0 :: .int .u8 0 :: .int .u8 0 :: .int .u8 0 :: .int .u8 0 :: .int .u8 0 :: .int .u8 0 :: .int .u8 0 :: .int .u8 0 :: .int .u8 0 :: .int .u8 0 :: .int .u8 0 :: .int .u8 0 :: .int .u8 0 :: .slice none 0 0 :: []).toArray 29)).alloc (.cells (Value.string ⟨#[]⟩ :: .int .u64 0 :: .int .i64 0 :: .int .i64 0 :: .int .u8 0 :: .int .u8 0 :: .int .u8 0 :: .int .u8 0 :: .int .u8 0 :: .int .u8 0 :: .int .u8 0 :: .int .u8 0 :: .int .u8 0 :: .int .u8 0 :: .int .u8 0 :: .int .u8 0 :: .int .u8 0 :: .int .u8 0 :: .int .u8 0 :: .int .u8 0 :: .int .u8 0 :: .int .u8 0 :: .int .u8 0 :: .int .u8 0 :: .int .u8 0 :: .int .u8 0 :: .int .u8 0 :: .int .u8 0 :: .int .u8 0 :: .int .u8 0 :: .int .u8 0 :: .int .u8 0 :: .int .u8 0 :: .int .u8 0 :: .int .u8 0 :: .int .u8 0 :: .slice none 0 0 :: []).toArray 29)
  rw [World.size_alloc] at h1
  have hbuild := fun w => run_build_man4 prod ver bs.length ch w
  obtain ⟨M, hM⟩ : ∃ M : Option Addr → Nat → Nat → Man, M = mz prod ver ch bs.length z32 := ⟨_, rfl⟩
  have hMok : ∀ (A : Option Addr) (n c : Nat), n ≤ 1000000 → (M A n c).Ok := fun A n c hn => by rw [hM]; exact mz_ok rfl v0 v1 c0 c1 hl (by omega)
  have hset36 : ∀ (A : Option Addr) (n c : Nat), n ≤ 1000000 → ∀ (A' : Option Addr) (n' c' : Nat), (M A n c).cells.setIfInBounds 36 (.slice A' n' c') = (M A' n' c').cells := fun A n c hn A' n' c' => by
    rw [man_set36 _ (hMok A n c hn), hM]
    rfl
  have hm36 : ∀ (A : Option Addr) (n c : Nat), n ≤ 1000000 → (M A n c).cells[36]? = some (.slice A n c) := fun A n c hn => by
    rw [hM]
    exact Man.g36 (mz_ok rfl v0 v1 c0 c1 hl (by omega))
  obtain ⟨mc, hmc⟩ : ∃ mc, mc = (M none 0 0).cells := ⟨_, rfl⟩
  have hbuild : ∀ w, (Instr.build 29 #[(0, .string prod), (1, .int .u64 ver), (2, .int .i64 bs.length), (3, .int .i64 ch)]).run Tryd.prog w = .ok (.agg mc) w := fun w => by rw [hbuild w, hmc, hM]; rfl
  have hms : mc.size = 37 := by rw [hmc]; exact Man.cells_size (hMok none 0 0 (by omega))
  have hone : mc.all (·.oneCell') = true := by rw [hmc]; exact Man.one _
  have ix : (Tryd.prog.info? 29).map (·.size) = some mc.size := by rw [hms]; kernel_rfl
  have fx : 0 + mc.size ≤ ((Value.string ⟨#[]⟩ :: .int .u64 0 :: .int .i64 0 :: .int .i64 0 :: .int .u8 0 :: .int .u8 0 :: .int .u8 0 :: .int .u8 0 :: .int .u8 0 :: .int .u8 0 :: .int .u8 0 :: .int .u8 0 :: .int .u8 0 :: .int .u8 0 :: .int .u8 0 :: .int .u8 0 :: .int .u8 0 :: .int .u8 0 :: .int .u8 0 :: .int .u8 0 :: .int .u8 0 :: .int .u8 0 :: .int .u8 0 :: .int .u8 0 :: .int .u8 0 :: .int .u8 0 :: .int .u8 0 :: .int .u8 0 :: .int .u8 0 :: .int .u8 0 :: .int .u8 0 :: .int .u8 0 :: .int .u8 0 :: .int .u8 0 :: .int .u8 0 :: .int .u8 0 :: .slice none 0 0 :: []).toArray : Array Value).size := by rw [hms]; decide
  have kC := fun (v : World) => count_any bs.length ch (by omega) c1 v
  obtain ⟨N, hN⟩ : ∃ N : Nat, cntM bs.length ch = (N : Int) := ⟨(cntM bs.length ch).toNat, by
    have : 0 ≤ cntM bs.length ch := by
      unfold cntM
      split
      · omega
      · have := Int.ediv_nonneg (by omega : (0 : Int) ≤ (bs.length : Int) - 1) (by omega : 0 ≤ ch); omega
    omega⟩
  rw [hN] at kC
  have HB := Lib.hid hbuild; have HMS := Lib.hid hms; have HMC := Lib.hid hmc; have HO := Lib.hid hone; have IX := Lib.hid ix; have FX := Lib.hid fx; have KC := Lib.hid kC; have HN := Lib.hid hN; have H1 := Lib.hid h1; have HM := Lib.hid hM; have HMOK := Lib.hid hMok; have HS36 := Lib.hid hset36; have HM36 := Lib.hid hm36; have TT := Lib.hid t; have HP := Lib.hid hp
  clear h h1 hbuild hms hmc hone ix fx kC hN hM hMok hset36 hm36 t hp
  refine (callsIn_wide (n := 3)).1 ?_
  refine callsIn_of_wp_marks Tryd.func19 rfl trivial ?_ rfl
  simp only [Tryd.ntmps19, List.size_toArray, List.length_cons, List.length_nil, Nat.reduceAdd, Nat.reduceSub, Array.replicate_succ, Array.replicate_zero, List.push_toArray, List.append_toArray, List.nil_append, List.cons_append]
  rw [wpIn_wide]
  go_wp2_with (first
    | (with_reducible refine wpList_build_st rfl 29 _ rfl _ ?_ (HB.out _) ?_; · go_simp)
    | (with_reducible refine wpList_store_st rfl 29 (.tmp 10) (.tmp 18) rfl (g := w.heap.size + 1) (off := 0) mc rfl rfl H1.out FX.out IX.out HO.out ?_; intro w6 h6; refine Hid.out ?_))
  refine Lib.hid ?_
  rw [setMany_whole _ _ (by rw [Array.length_toList, HMS.out]; rfl), Array.toArray_toList] at h6
  have H7 := Lib.hid h6
  clear h6 H1 HB IX FX HO
  generalize w.heap.size = b8 at *
  generalize hzc : (Value.string ⟨#[]⟩ :: .int .u64 0 :: .int .i64 0 :: .int .i64 0 :: .int .u8 0 :: .int .u8 0 :: .int .u8 0 :: .int .u8 0 :: .int .u8 0 :: .int .u8 0 :: .int .u8 0 :: .int .u8 0 :: .int .u8 0 :: .int .u8 0 :: .int .u8 0 :: .int .u8 0 :: .int .u8 0 :: .int .u8 0 :: .int .u8 0 :: .int .u8 0 :: .int .u8 0 :: .int .u8 0 :: .int .u8 0 :: .int .u8 0 :: .int .u8 0 :: .int .u8 0 :: .int .u8 0 :: .int .u8 0 :: .int .u8 0 :: .int .u8 0 :: .int .u8 0 :: .int .u8 0 :: .int .u8 0 :: .int .u8 0 :: .int .u8 0 :: .int .u8 0 :: .slice none 0 0 :: []).toArray = zc at *
  have hzs : zc.size = 37 := by rw [← hzc]; rfl
  have hzl : zman.cells = zc := by rw [← hzc]; exact zman_lit
  have hzo : zc.all (·.oneCell') = true := by rw [← hzl]; exact Man.one zman
  have hzi : (Tryd.prog.info? 29).map (·.size) = some zc.size := by rw [hzs]; kernel_rfl
  have hzf : 0 + zc.size ≤ zc.size := by omega
  have HZL := Lib.hid hzl; have HZS := Lib.hid hzs; have HZO := Lib.hid hzo; have HZI := Lib.hid hzi; have HZF := Lib.hid hzf
  clear hzc hzs hzo hzi hzf hzl
  obtain ⟨bm, hbm⟩ : ∃ b, b8 + 1 = b := ⟨_, rfl⟩
  rw [hbm] at H7 ⊢
  have h7 : St W w6 I ((bm, .cells (M none 0 0).cells 29 (0, 0)) :: (b8, .cells zc 29 (0, 0)) :: F) := by rw [← HMC.out]; exact H7.out
  clear H7 HMC HMS hbm
  have hmz : ∀ (A : Option Addr) (n c : Nat), n ≤ 1000000 → setMany (M A n c).cells 4 (bcells (hashOf bs)).toList = (madeM prod ver ch bs A n c).cells := fun A n c hn => by
    rw [man_setdig _ (HMOK.out A n c hn) _ (hashOf_len bs), HM.out]
    rfl
  have hmok : ∀ (A : Option Addr) (n c : Nat), n ≤ 1000000 → (madeM prod ver ch bs A n c).Ok := fun A n c hn => madeM_ok v0 v1 c0 c1 hl (by omega)
  have H7 := Lib.hid h7; have HMZ := Lib.hid hmz; have HMK := Lib.hid hmok
  clear h7 hmz hmok
  go_wp2_with fail
  refine (KC.out _).mono ?_
  rintro e w7 ⟨rfl, rfl⟩
  clear KC
  have hN := HN.out
  by_cases hA : 1 ≤ N ∧ N ≤ 64
  · obtain ⟨hA1, hA2⟩ := hA
    have hA1i : (1 : Int) ≤ (N : Int) := by omega
    have hA2i : (N : Int) ≤ 64 := by omega
    have hcs : 1 ≤ ch ∧ 1 ≤ (bs.length : Int) := by
      unfold cntM at hN
      split at hN
      · omega
      · omega
    obtain ⟨q, rfl⟩ : ∃ q : Nat, ch = (q : Int) := ⟨ch.toNat, by omega⟩
    have hcn : chN bs.length q = N := by
      have h1 := chN_cnt bs.length q (by omega) (by omega)
      omega
    have hq1 : 1 ≤ q := by omega
    have kN := chunk_new A0 bs.length cap q hq1 H7.out
    have KN := Lib.hid kN; have HCN := Lib.hid hcn
    clear kN H7 hcn hN hcs
    go_wp2_with fail
    refine KN.out.mono ?_
    rintro e w4 ⟨b, rfl, h4⟩
    clear KN
    have hR : BoxAt A0 bs.length cap q b (b + 1) w4 := ⟨h4.own (b, _) (by simp), h4.own (b + 1, _) (by simp)⟩
    have hb1 : b < w4.heap.size := h4.lt (p := (b, .cells #[.slice A0 bs.length cap] 22 (0, 0))) (by simp)
    have hb2 : b + 1 < w4.heap.size := h4.lt (p := (b + 1, .cells #[.int .i64 (q : Nat)] 3 (0, 0))) (by simp)
    have hI := h4.ilt
    obtain ⟨X, hX⟩ : ∃ X, X = [(b + 1, Obj.cells #[.int .i64 (q : Nat)] 3 (0, 0)), (b, .cells #[.slice A0 bs.length cap] 22 (0, 0))] := ⟨_, rfl⟩
    obtain ⟨F8, hF8⟩ : ∃ F8, F8 = (b8, Obj.cells zc 29 (0, 0)) :: F := ⟨_, rfl⟩
    have h5 : MkI W I F8 M bs q bm X [] w4 := ⟨none, 0, [], Row.nil _ _, by rw [hX, hF8]; exact St.swap (A := [_, _]) (B := [_]) h4⟩
    have hXF : ∀ p ∈ X ++ F8, p.1 < w4.heap.size := by
      rw [hX, hF8]
      intro p hp
      refine h4.lt ?_
      simp only [List.mem_cons, List.mem_append, List.not_mem_nil, or_false] at hp ⊢
      rcases hp with (h | h) | h | h
      · exact .inl h
      · exact .inr (.inl h)
      · exact .inr (.inr (.inr (.inl h)))
      · exact .inr (.inr (.inr (.inr h)))
    have hbml : bm < w4.heap.size := h4.lt (p := (bm, .cells (M none 0 0).cells 29 (0, 0))) (by simp)
    have ownL : ∀ (A' : Option Addr) (n' c' : Nat) (xs' : List Value) (L0 : List (Nat × Obj)), Row 26 32 (.slice A' n' c') n' xs' L0 → ∀ (m : Array Value), ∀ p ∈ (bm, Obj.cells m 29 (0, 0)) :: (L0 ++ (X ++ F8)), p.1 < w4.heap.size ∨ p.2.isCells = true := by
      intro A' n' c' xs' L0 hr m p hp
      rcases List.mem_cons.1 hp with rfl | hp
      · exact .inl hbml
      · rcases List.mem_append.1 hp with hp | hp
        · refine .inr ?_
          obtain ⟨_, ⟨_, _, rfl⟩ | ⟨g, off, cap, cur, _, rfl, _⟩⟩ := hr
          · cases hp
          · simp at hp; subst hp; rfl
        · exact .inl (hXF p hp)
    have own : OwnFrom w4.heap.size (MkI W I F8 M bs q bm X) := by
      rintro s A B row ⟨A', c', L0, hr, hst⟩ hg hrow
      exact ⟨A', c', L0, hr, hst.grown hI (ownL _ _ _ _ _ hr _) hg hrow⟩
    have hX1 : ∃ o, (b, o) ∈ X := ⟨_, by rw [hX]; exact List.mem_cons_of_mem _ (List.mem_cons_self ..)⟩
    have hX2 : ∃ o, (b + 1, o) ∈ X := ⟨_, by rw [hX]; exact List.mem_cons_self ..⟩
    have OWNL := Lib.hid ownL; have H5 := Lib.hid h5; have HR := Lib.hid hR; have OWN := Lib.hid own; have HX := Lib.hid hX; have HF8 := Lib.hid hF8; have HX1 := Lib.hid hX1; have HX2 := Lib.hid hX2; have HI := Lib.hid hI
    clear h4 h5 hR own hX ownL hF8 hX1 hX2 hI hXF
    go_wp2_with fail
    refine (wpIn_wide (n := 3)).1 ?_
    refine' wpIn_rangeFunc_ownF (n := 3) rfl (by omega) (gf := 69) (lb := #[.pointer (some ⟨b, 0, none⟩), .pointer (some ⟨b + 1, 0, none⟩)]) rfl trivial (enters_of Tryd.func69 (by kernel_rfl) rfl)
      (chunk_stops 2 (by omega) b (b + 1) A0 cap bs.length q hq1 (by omega) hl hcap w4 hb1 hb2 HR.out) Kc_t (Kc_b hb1 hb2) (Below.refl _ _) (fun _ => rfl)
      (MkI W I F8 M bs q bm X) (fun _ _ _ => False) OWN.out (fun _ _ _ _ _ hs _ _ => hs) H5.out _ ?assign ?body ?done ?stop
    case assign =>
      intro l x W K hK
      gi_wp2
      exact hK
    case body =>
      rintro l pre x W1 ⟨A, c, L0, hrow, hst⟩ hlen
      rw [HCN.out] at hlen
      obtain ⟨J, hle, hall, hstJ⟩ := hst.others
      obtain ⟨ys, hys⟩ : ∃ ys, chunkAt bs q x = ys := ⟨_, rfl⟩
      have hyl : clen bs.length q x = ys.length := by rw [← hys, chunkAt_clen]
      have hyl2 : ys.length ≤ 1000000 := by rw [← hyl]; unfold clen; omega
      have hin := (cpart (q := q) HP.out hcap x).mono hle
      rw [hys, hyl] at hin
      obtain ⟨AX, hAX⟩ : ∃ AX, A0.map (·.add (x * q)) = AX := ⟨_, rfl⟩
      rw [hAX] at hin
      obtain ⟨LL, hLL⟩ : ∃ LL, LL = (bm, Obj.cells (M A pre.length c).cells 29 (0, 0)) :: (L0 ++ (X ++ F8)) := ⟨_, rfl⟩
      have kS : ∀ v, St W v J LL → Calls Tryd.prog 43 #[.slice (some ⟨v.heap.size, 0, none⟩) 1 1] (v.alloc (.cells #[.slice AX ys.length ys.length] 22)) fun e w' => e = .returned (.agg (HV ys)) ∧ St W w' J LL := fun v hv => dsum1 ⟨AX, ys.length, ys⟩ hin hyl2 hv
      obtain ⟨Y, hY⟩ : ∃ Y, HV ys = Y := ⟨_, rfl⟩
      rw [hY] at kS
      have hYs : Y.size = 32 := by rw [← hY, HV, bcells_size, hashOf_len]
      have hone : ∀ u ∈ Y.toList, u.oneCell' = true := by
        intro u hu
        have h1 := bcells_one (hashOf ys)
        rw [← hY] at hu
        exact Array.all_eq_true_iff_forall_mem.1 h1 u (Array.mem_toList_iff.1 hu)
      have hadd : hcells (pre.map fun i => hashOf (chunkAt bs q i)) ++ Y.toList = hcells ((pre ++ [x]).map fun i => hashOf (chunkAt bs q i)) := by
        rw [List.map_append, List.map_cons, List.map_nil, hcells_add, hys, ← hY]
        simp [HV, bcells]
      rw [← hLL] at hstJ
      have facts : ∀ v K, St W v J (K ++ LL) → v.cell? ⟨bm, 36, none⟩ = some (.slice A pre.length c) := fun v K hv => by
        rw [hLL] at hv
        exact (hv.cell (g := bm) (cs := (M A pre.length c).cells) (t := 29) (fr := (0, 0)) (by simp) 36).trans (HM36.out A pre.length c (by omega))
      have hd := hstJ.drew1
      have d36 := facts _ [] hd
      have d36a : ∀ o, (W1.drew.alloc o).cell? ⟨bm, 36, none⟩ = some (.slice A pre.length c) := fun o => cell_old d36
      have d36b : ∀ o, (W1.alloc o).drew.cell? ⟨bm, 36, none⟩ = some (.slice A pre.length c) := fun o => cell_old d36
      have HD := Lib.hid hd; have HST := Lib.hid hst; have HROW := Lib.hid hrow; have HLE := Lib.hid hle; have HALL := Lib.hid hall; have KS := Lib.hid kS; have HADD := Lib.hid hadd; have HONE := Lib.hid hone; have FACTS := Lib.hid facts; have HLL := Lib.hid hLL
      have hfold : Array.foldl (fun cs (x : Value × Nat) => cs.setIfInBounds x.snd x.fst) #[.int .u8 0, .int .u8 0, .int .u8 0, .int .u8 0, .int .u8 0, .int .u8 0, .int .u8 0, .int .u8 0, .int .u8 0, .int .u8 0, .int .u8 0, .int .u8 0, .int .u8 0, .int .u8 0, .int .u8 0, .int .u8 0, .int .u8 0, .int .u8 0, .int .u8 0, .int .u8 0, .int .u8 0, .int .u8 0, .int .u8 0, .int .u8 0, .int .u8 0, .int .u8 0, .int .u8 0, .int .u8 0, .int .u8 0, .int .u8 0, .int .u8 0, .int .u8 0] Y.zipIdx 0 32 = Y := fold32 Y hYs _ rfl
      simp only [hyl, hAX]
      clear hd hst hrow hle hall kS hadd hone facts hLL hstJ hin hyl hys hAX hyl2 hY
      gi_wp2_with fail
      refine wpIn_region_held (S := fun v => True) (by kernel_rfl) (by kernel_rfl) trivial fun hHeld => ?_
      refine wpAnyH_take (i := 0) (oi := ?_) (v := ?_) ?_ ?_ ?_ ?_ ?_ ?_ ?_ ?_
      rotate_left 2
      · (simp only [List.getElem?_toArray, List.getElem?_cons_succ, List.getElem?_cons_zero]; exact rfl)
      · kernel_rfl
      · kernel_rfl
      · kernel_rfl
      · exact fun _ _ _ h => h
      · (refine Or.inl ⟨by rfl, ?_⟩; intro w hSw; (try dsimp only at hSw); go_simp; try with_reducible rfl)
      · assumption
      try simp only [Act.put, List.setIfInBounds_toArray, List.set_cons_zero, List.set_cons_succ]
      refine wpAnyH_take (i := 2) (oi := ?_) (v := ?_) ?_ ?_ ?_ ?_ ?_ ?_ ?_ ?_
      rotate_left 2
      · (simp only [List.getElem?_toArray, List.getElem?_cons_succ, List.getElem?_cons_zero]; exact rfl)
      · kernel_rfl
      · kernel_rfl
      · kernel_rfl
      · exact fun _ _ _ h => h
      · (refine Or.inl ⟨by rfl, ?_⟩; intro w hSw; (try dsimp only at hSw); go_simp; try with_reducible rfl)
      · assumption
      try simp only [Act.put, List.setIfInBounds_toArray, List.set_cons_zero, List.set_cons_succ]
      refine wpAnyH_ready (rs := [1, 3]) (by kernel_rfl) (by simp) ?_
      refine AllReadyH.cons (o := ?_) ?_ (fun K hK => ?_) ?_
      rotate_left 1
      · (simp only [List.getElem?_toArray, List.getElem?_cons_succ, List.getElem?_cons_zero]; exact rfl)
      · go_simp
        refine hK.out _ _ ?_ (fun hHeld => ?_)
        · (try dsimp only) <;> (all_goals trivial)
        clear hK K
        try simp only [Act.put, List.setIfInBounds_toArray, List.set_cons_zero, List.set_cons_succ]
        refine wpAnyH_ready (rs := [3]) (by kernel_rfl) (by simp) ?_
        refine AllReadyH.cons (o := ?_) ?_ (fun K hK => ?_) ?_
        rotate_left 1
        · (simp only [List.getElem?_toArray, List.getElem?_cons_succ, List.getElem?_cons_zero]; exact rfl)
        · go_simp
          refine hK.out _ _ ?_ (fun hHeld => ?_)
          · (try dsimp only) <;> (all_goals trivial)
          clear hK K
          try simp only [Act.put, List.setIfInBounds_toArray, List.set_cons_zero, List.set_cons_succ]
          refine wpAnyH_ready (rs := [4]) (by kernel_rfl) (by simp) ?_
          refine AllReadyH.cons (o := ?_) ?_ (fun K hK => ?_) ?_
          rotate_left 1
          · (simp only [List.getElem?_toArray, List.getElem?_cons_succ, List.getElem?_cons_zero]; exact rfl)
          · go_simp
            (go_at_call 43; (refine (KS.out _ HD.out).mono ?_); rintro e wx ⟨rfl, h3⟩; have x36 := FACTS.out _ [] h3; have h4 := h3.alloc (.cells Y 26); have y36 := FACTS.out _ [_] h4; have HSZ1 : W1.heap.size ≤ wx.heap.size := St.size_le HALL.out (fun p hp => ⟨p, by rw [HLL.out]; exact hp, rfl⟩) h3; rw [HLL.out] at h4; have h4' := St.swap (A := [_, _]) (B := L0) h4; have H4 := Lib.hid h4'; clear h3 h4 h4'; dsimp only)
            refine hK.out _ _ ?_ (fun hHeld => ?_)
            · (try dsimp only) <;> (all_goals trivial)
            clear hK K
            try simp only [Act.put, List.setIfInBounds_toArray, List.set_cons_zero, List.set_cons_succ]
            refine wpAnyH_ready (rs := [5]) (by kernel_rfl) (by simp) ?_
            refine AllReadyH.cons (o := ?_) ?_ (fun K hK => ?_) ?_
            rotate_left 1
            · (simp only [List.getElem?_toArray, List.getElem?_cons_succ, List.getElem?_cons_zero]; exact rfl)
            · go_simp
              refine hK.out _ _ ?_ (fun hHeld => ?_)
              · (try dsimp only) <;> (all_goals trivial)
              clear hK K
              try simp only [Act.put, List.setIfInBounds_toArray, List.set_cons_zero, List.set_cons_succ]
              refine wpAnyH_ready (rs := [6]) (by kernel_rfl) (by simp) ?_
              refine AllReadyH.cons (o := ?_) ?_ (fun K hK => ?_) ?_
              rotate_left 1
              · (simp only [List.getElem?_toArray, List.getElem?_cons_succ, List.getElem?_cons_zero]; exact rfl)
              · ((refine step_append_row (F := [(wx.heap.size, .cells Y 26 (0, 0)), (bm, .cells (M A pre.length c).cells 29 (0, 0))] ++ (X ++ F8)) (L := L0) rfl (.tmp 34) (.tmp 38) 27 rfl 26 (.agg #[.int .u8 0, .int .u8 0, .int .u8 0, .int .u8 0, .int .u8 0, .int .u8 0, .int .u8 0, .int .u8 0, .int .u8 0, .int .u8 0, .int .u8 0, .int .u8 0, .int .u8 0, .int .u8 0, .int .u8 0, .int .u8 0, .int .u8 0, .int .u8 0, .int .u8 0, .int .u8 0, .int .u8 0, .int .u8 0, .int .u8 0, .int .u8 0, .int .u8 0, .int .u8 0, .int .u8 0, .int .u8 0, .int .u8 0, .int .u8 0, .int .u8 0, .int .u8 0]) 32 32 Tryd.underlying27 (by kernel_rfl) rfl (by omega) rfl HROW.out H4.out rfl (Src.newS _ 32 _ 26 rfl 1 hYs) HONE.out (pre.length + 1) rfl (hcells ((pre ++ [x]).map fun i => hashOf (chunkAt bs q i))) HADD.out (by unfold maxLen; omega) (by omega) ?_; intro A6 c6 w6 L6 hr6 h6; have g0 : w6.cell? ⟨bm, 36, none⟩ = some (.slice A pre.length c) := (h6.cell (g := bm) (cs := (M A pre.length c).cells) (t := 29) (fr := (0, 0)) (by simp) 36).trans (HM36.out A pre.length c (by omega)); have g1 : w6.frozen? ⟨bm, 36, none⟩ = false := h6.frozen (g := bm) (cs := (M A pre.length c).cells) (t := 29) (by simp) 36; have h7 := St.set (A := L6 ++ [(wx.heap.size, Obj.cells Y 26 (0, 0))]) (g := bm) (cs := (M A pre.length c).cells) (t := 29) (fr := (0, 0)) (B := X ++ F8) (by rw [List.append_assoc]; exact h6) 36 (.slice A6 (pre.length + 1) c6); rw [HS36.out A pre.length c (by omega), List.append_assoc] at h7; have H7 := Lib.hid h7; have HR6 := Lib.hid hr6; clear h6 h7 hr6; dsimp only))
                refine hK.out _ _ ?_ (fun hHeld => ?_)
                · (try dsimp only) <;> (all_goals trivial)
                clear hK K
                try simp only [Act.put, List.setIfInBounds_toArray, List.set_cons_zero, List.set_cons_succ]
                refine wpAnyH_take (i := 7) (oi := ?_) (v := ?_) ?_ ?_ ?_ ?_ ?_ ?_ ?_ ?_
                rotate_left 2
                · (simp only [List.getElem?_toArray, List.getElem?_cons_succ, List.getElem?_cons_zero]; exact rfl)
                · kernel_rfl
                · kernel_rfl
                · kernel_rfl
                · exact fun _ _ _ h => h
                · (refine Or.inl ⟨by rfl, ?_⟩; intro w hSw; (try dsimp only at hSw); go_simp; try with_reducible rfl)
                · assumption
                try simp only [Act.put, List.setIfInBounds_toArray, List.set_cons_zero, List.set_cons_succ]
                refine wpAnyH_ready (rs := [8]) (by kernel_rfl) (by simp) ?_
                refine AllReadyH.cons (o := ?_) ?_ (fun K hK => ?_) ?_
                rotate_left 1
                · (simp only [List.getElem?_toArray, List.getElem?_cons_succ, List.getElem?_cons_zero]; exact rfl)
                · go_simp
                  refine hK.out _ _ ?_ (fun hHeld => ?_)
                  · (try dsimp only) <;> (all_goals trivial)
                  clear hK K
                  try simp only [Act.put, List.setIfInBounds_toArray, List.set_cons_zero, List.set_cons_succ]
                  refine wpAnyH_done (by kernel_rfl) ?_ _
                  refine ⟨rfl, ?_⟩
                  exact mk_step HROW.out HST.out HLE.out HALL.out HX1.out HX2.out HSZ1 HR6.out H7.out
                exact AllReadyH.nil
              exact AllReadyH.nil
            exact AllReadyH.nil
          exact AllReadyH.nil
        exact AllReadyH.nil
      refine AllReadyH.cons (o := ?_) ?_ (fun K hK => ?_) ?_
      rotate_left 1
      · (simp only [List.getElem?_toArray, List.getElem?_cons_succ, List.getElem?_cons_zero]; exact rfl)
      · go_simp
        refine hK.out _ _ ?_ (fun hHeld => ?_)
        · (try dsimp only) <;> (all_goals trivial)
        clear hK K
        try simp only [Act.put, List.setIfInBounds_toArray, List.set_cons_zero, List.set_cons_succ]
        refine wpAnyH_ready (rs := [1, 4]) (by kernel_rfl) (by simp) ?_
        refine AllReadyH.cons (o := ?_) ?_ (fun K hK => ?_) ?_
        rotate_left 1
        · (simp only [List.getElem?_toArray, List.getElem?_cons_succ, List.getElem?_cons_zero]; exact rfl)
        · go_simp
          refine hK.out _ _ ?_ (fun hHeld => ?_)
          · (try dsimp only) <;> (all_goals trivial)
          clear hK K
          try simp only [Act.put, List.setIfInBounds_toArray, List.set_cons_zero, List.set_cons_succ]
          refine wpAnyH_ready (rs := [4]) (by kernel_rfl) (by simp) ?_
          refine AllReadyH.cons (o := ?_) ?_ (fun K hK => ?_) ?_
          rotate_left 1
          · (simp only [List.getElem?_toArray, List.getElem?_cons_succ, List.getElem?_cons_zero]; exact rfl)
          · go_simp
            (go_at_call 43; (refine (KS.out _ HD.out).mono ?_); rintro e wx ⟨rfl, h3⟩; have x36 := FACTS.out _ [] h3; have h4 := h3.alloc (.cells Y 26); have y36 := FACTS.out _ [_] h4; have HSZ1 : W1.heap.size ≤ wx.heap.size := St.size_le HALL.out (fun p hp => ⟨p, by rw [HLL.out]; exact hp, rfl⟩) h3; rw [HLL.out] at h4; have h4' := St.swap (A := [_, _]) (B := L0) h4; have H4 := Lib.hid h4'; clear h3 h4 h4'; dsimp only)
            refine hK.out _ _ ?_ (fun hHeld => ?_)
            · (try dsimp only) <;> (all_goals trivial)
            clear hK K
            try simp only [Act.put, List.setIfInBounds_toArray, List.set_cons_zero, List.set_cons_succ]
            refine wpAnyH_ready (rs := [5]) (by kernel_rfl) (by simp) ?_
            refine AllReadyH.cons (o := ?_) ?_ (fun K hK => ?_) ?_
            rotate_left 1
            · (simp only [List.getElem?_toArray, List.getElem?_cons_succ, List.getElem?_cons_zero]; exact rfl)
            · go_simp
              refine hK.out _ _ ?_ (fun hHeld => ?_)
              · (try dsimp only) <;> (all_goals trivial)
              clear hK K
              try simp only [Act.put, List.setIfInBounds_toArray, List.set_cons_zero, List.set_cons_succ]
              refine wpAnyH_ready (rs := [6]) (by kernel_rfl) (by simp) ?_
              refine AllReadyH.cons (o := ?_) ?_ (fun K hK => ?_) ?_
              rotate_left 1
              · (simp only [List.getElem?_toArray, List.getElem?_cons_succ, List.getElem?_cons_zero]; exact rfl)
              · ((refine step_append_row (F := [(wx.heap.size, .cells Y 26 (0, 0)), (bm, .cells (M A pre.length c).cells 29 (0, 0))] ++ (X ++ F8)) (L := L0) rfl (.tmp 34) (.tmp 38) 27 rfl 26 (.agg #[.int .u8 0, .int .u8 0, .int .u8 0, .int .u8 0, .int .u8 0, .int .u8 0, .int .u8 0, .int .u8 0, .int .u8 0, .int .u8 0, .int .u8 0, .int .u8 0, .int .u8 0, .int .u8 0, .int .u8 0, .int .u8 0, .int .u8 0, .int .u8 0, .int .u8 0, .int .u8 0, .int .u8 0, .int .u8 0, .int .u8 0, .int .u8 0, .int .u8 0, .int .u8 0, .int .u8 0, .int .u8 0, .int .u8 0, .int .u8 0, .int .u8 0, .int .u8 0]) 32 32 Tryd.underlying27 (by kernel_rfl) rfl (by omega) rfl HROW.out H4.out rfl (Src.newS _ 32 _ 26 rfl 1 hYs) HONE.out (pre.length + 1) rfl (hcells ((pre ++ [x]).map fun i => hashOf (chunkAt bs q i))) HADD.out (by unfold maxLen; omega) (by omega) ?_; intro A6 c6 w6 L6 hr6 h6; have g0 : w6.cell? ⟨bm, 36, none⟩ = some (.slice A pre.length c) := (h6.cell (g := bm) (cs := (M A pre.length c).cells) (t := 29) (fr := (0, 0)) (by simp) 36).trans (HM36.out A pre.length c (by omega)); have g1 : w6.frozen? ⟨bm, 36, none⟩ = false := h6.frozen (g := bm) (cs := (M A pre.length c).cells) (t := 29) (by simp) 36; have h7 := St.set (A := L6 ++ [(wx.heap.size, Obj.cells Y 26 (0, 0))]) (g := bm) (cs := (M A pre.length c).cells) (t := 29) (fr := (0, 0)) (B := X ++ F8) (by rw [List.append_assoc]; exact h6) 36 (.slice A6 (pre.length + 1) c6); rw [HS36.out A pre.length c (by omega), List.append_assoc] at h7; have H7 := Lib.hid h7; have HR6 := Lib.hid hr6; clear h6 h7 hr6; dsimp only))
                refine hK.out _ _ ?_ (fun hHeld => ?_)
                · (try dsimp only) <;> (all_goals trivial)
                clear hK K
                try simp only [Act.put, List.setIfInBounds_toArray, List.set_cons_zero, List.set_cons_succ]
                refine wpAnyH_take (i := 7) (oi := ?_) (v := ?_) ?_ ?_ ?_ ?_ ?_ ?_ ?_ ?_
                rotate_left 2
                · (simp only [List.getElem?_toArray, List.getElem?_cons_succ, List.getElem?_cons_zero]; exact rfl)
                · kernel_rfl
                · kernel_rfl
                · kernel_rfl
                · exact fun _ _ _ h => h
                · (refine Or.inl ⟨by rfl, ?_⟩; intro w hSw; (try dsimp only at hSw); go_simp; try with_reducible rfl)
                · assumption
                try simp only [Act.put, List.setIfInBounds_toArray, List.set_cons_zero, List.set_cons_succ]
                refine wpAnyH_ready (rs := [8]) (by kernel_rfl) (by simp) ?_
                refine AllReadyH.cons (o := ?_) ?_ (fun K hK => ?_) ?_
                rotate_left 1
                · (simp only [List.getElem?_toArray, List.getElem?_cons_succ, List.getElem?_cons_zero]; exact rfl)
                · go_simp
                  refine hK.out _ _ ?_ (fun hHeld => ?_)
                  · (try dsimp only) <;> (all_goals trivial)
                  clear hK K
                  try simp only [Act.put, List.setIfInBounds_toArray, List.set_cons_zero, List.set_cons_succ]
                  refine wpAnyH_done (by kernel_rfl) ?_ _
                  refine ⟨rfl, ?_⟩
                  exact mk_step HROW.out HST.out HLE.out HALL.out HX1.out HX2.out HSZ1 HR6.out H7.out
                exact AllReadyH.nil
              exact AllReadyH.nil
            exact AllReadyH.nil
          exact AllReadyH.nil
        refine AllReadyH.cons (o := ?_) ?_ (fun K hK => ?_) ?_
        rotate_left 1
        · (simp only [List.getElem?_toArray, List.getElem?_cons_succ, List.getElem?_cons_zero]; exact rfl)
        · go_simp
          (go_at_call 43; (refine (KS.out _ HD.out).mono ?_); rintro e wx ⟨rfl, h3⟩; have x36 := FACTS.out _ [] h3; have h4 := h3.alloc (.cells Y 26); have y36 := FACTS.out _ [_] h4; have HSZ1 : W1.heap.size ≤ wx.heap.size := St.size_le HALL.out (fun p hp => ⟨p, by rw [HLL.out]; exact hp, rfl⟩) h3; rw [HLL.out] at h4; have h4' := St.swap (A := [_, _]) (B := L0) h4; have H4 := Lib.hid h4'; clear h3 h4 h4'; dsimp only)
          refine hK.out _ _ ?_ (fun hHeld => ?_)
          · (try dsimp only) <;> (all_goals trivial)
          clear hK K
          try simp only [Act.put, List.setIfInBounds_toArray, List.set_cons_zero, List.set_cons_succ]
          refine wpAnyH_ready (rs := [1, 5]) (by kernel_rfl) (by simp) ?_
          refine AllReadyH.cons (o := ?_) ?_ (fun K hK => ?_) ?_
          rotate_left 1
          · (simp only [List.getElem?_toArray, List.getElem?_cons_succ, List.getElem?_cons_zero]; exact rfl)
          · go_simp
            refine hK.out _ _ ?_ (fun hHeld => ?_)
            · (try dsimp only) <;> (all_goals trivial)
            clear hK K
            try simp only [Act.put, List.setIfInBounds_toArray, List.set_cons_zero, List.set_cons_succ]
            refine wpAnyH_ready (rs := [5]) (by kernel_rfl) (by simp) ?_
            refine AllReadyH.cons (o := ?_) ?_ (fun K hK => ?_) ?_
            rotate_left 1
            · (simp only [List.getElem?_toArray, List.getElem?_cons_succ, List.getElem?_cons_zero]; exact rfl)
            · go_simp
              refine hK.out _ _ ?_ (fun hHeld => ?_)
              · (try dsimp only) <;> (all_goals trivial)
              clear hK K
              try simp only [Act.put, List.setIfInBounds_toArray, List.set_cons_zero, List.set_cons_succ]
              refine wpAnyH_ready (rs := [6]) (by kernel_rfl) (by simp) ?_
              refine AllReadyH.cons (o := ?_) ?_ (fun K hK => ?_) ?_
              rotate_left 1
              · (simp only [List.getElem?_toArray, List.getElem?_cons_succ, List.getElem?_cons_zero]; exact rfl)
              · ((refine step_append_row (F := [(wx.heap.size, .cells Y 26 (0, 0)), (bm, .cells (M A pre.length c).cells 29 (0, 0))] ++ (X ++ F8)) (L := L0) rfl (.tmp 34) (.tmp 38) 27 rfl 26 (.agg #[.int .u8 0, .int .u8 0, .int .u8 0, .int .u8 0, .int .u8 0, .int .u8 0, .int .u8 0, .int .u8 0, .int .u8 0, .int .u8 0, .int .u8 0, .int .u8 0, .int .u8 0, .int .u8 0, .int .u8 0, .int .u8 0, .int .u8 0, .int .u8 0, .int .u8 0, .int .u8 0, .int .u8 0, .int .u8 0, .int .u8 0, .int .u8 0, .int .u8 0, .int .u8 0, .int .u8 0, .int .u8 0, .int .u8 0, .int .u8 0, .int .u8 0, .int .u8 0]) 32 32 Tryd.underlying27 (by kernel_rfl) rfl (by omega) rfl HROW.out H4.out rfl (Src.newS _ 32 _ 26 rfl 1 hYs) HONE.out (pre.length + 1) rfl (hcells ((pre ++ [x]).map fun i => hashOf (chunkAt bs q i))) HADD.out (by unfold maxLen; omega) (by omega) ?_; intro A6 c6 w6 L6 hr6 h6; have g0 : w6.cell? ⟨bm, 36, none⟩ = some (.slice A pre.length c) := (h6.cell (g := bm) (cs := (M A pre.length c).cells) (t := 29) (fr := (0, 0)) (by simp) 36).trans (HM36.out A pre.length c (by omega)); have g1 : w6.frozen? ⟨bm, 36, none⟩ = false := h6.frozen (g := bm) (cs := (M A pre.length c).cells) (t := 29) (by simp) 36; have h7 := St.set (A := L6 ++ [(wx.heap.size, Obj.cells Y 26 (0, 0))]) (g := bm) (cs := (M A pre.length c).cells) (t := 29) (fr := (0, 0)) (B := X ++ F8) (by rw [List.append_assoc]; exact h6) 36 (.slice A6 (pre.length + 1) c6); rw [HS36.out A pre.length c (by omega), List.append_assoc] at h7; have H7 := Lib.hid h7; have HR6 := Lib.hid hr6; clear h6 h7 hr6; dsimp only))
                refine hK.out _ _ ?_ (fun hHeld => ?_)
                · (try dsimp only) <;> (all_goals trivial)
                clear hK K
                try simp only [Act.put, List.setIfInBounds_toArray, List.set_cons_zero, List.set_cons_succ]
                refine wpAnyH_take (i := 7) (oi := ?_) (v := ?_) ?_ ?_ ?_ ?_ ?_ ?_ ?_ ?_
                rotate_left 2
                · (simp only [List.getElem?_toArray, List.getElem?_cons_succ, List.getElem?_cons_zero]; exact rfl)
                · kernel_rfl
                · kernel_rfl
                · kernel_rfl
                · exact fun _ _ _ h => h
                · (refine Or.inl ⟨by rfl, ?_⟩; intro w hSw; (try dsimp only at hSw); go_simp; try with_reducible rfl)
                · assumption
                try simp only [Act.put, List.setIfInBounds_toArray, List.set_cons_zero, List.set_cons_succ]
                refine wpAnyH_ready (rs := [8]) (by kernel_rfl) (by simp) ?_
                refine AllReadyH.cons (o := ?_) ?_ (fun K hK => ?_) ?_
                rotate_left 1
                · (simp only [List.getElem?_toArray, List.getElem?_cons_succ, List.getElem?_cons_zero]; exact rfl)
                · go_simp
                  refine hK.out _ _ ?_ (fun hHeld => ?_)
                  · (try dsimp only) <;> (all_goals trivial)
                  clear hK K
                  try simp only [Act.put, List.setIfInBounds_toArray, List.set_cons_zero, List.set_cons_succ]
                  refine wpAnyH_done (by kernel_rfl) ?_ _
                  refine ⟨rfl, ?_⟩
                  exact mk_step HROW.out HST.out HLE.out HALL.out HX1.out HX2.out HSZ1 HR6.out H7.out
                exact AllReadyH.nil
              exact AllReadyH.nil
            exact AllReadyH.nil
          refine AllReadyH.cons (o := ?_) ?_ (fun K hK => ?_) ?_
          rotate_left 1
          · (simp only [List.getElem?_toArray, List.getElem?_cons_succ, List.getElem?_cons_zero]; exact rfl)
          · go_simp
            refine hK.out _ _ ?_ (fun hHeld => ?_)
            · (try dsimp only) <;> (all_goals trivial)
            clear hK K
            try simp only [Act.put, List.setIfInBounds_toArray, List.set_cons_zero, List.set_cons_succ]
            refine wpAnyH_ready (rs := [1]) (by kernel_rfl) (by simp) ?_
            refine AllReadyH.cons (o := ?_) ?_ (fun K hK => ?_) ?_
            rotate_left 1
            · (simp only [List.getElem?_toArray, List.getElem?_cons_succ, List.getElem?_cons_zero]; exact rfl)
            · go_simp
              refine hK.out _ _ ?_ (fun hHeld => ?_)
              · (try dsimp only) <;> (all_goals trivial)
              clear hK K
              try simp only [Act.put, List.setIfInBounds_toArray, List.set_cons_zero, List.set_cons_succ]
              refine wpAnyH_ready (rs := [6]) (by kernel_rfl) (by simp) ?_
              refine AllReadyH.cons (o := ?_) ?_ (fun K hK => ?_) ?_
              rotate_left 1
              · (simp only [List.getElem?_toArray, List.getElem?_cons_succ, List.getElem?_cons_zero]; exact rfl)
              · ((refine step_append_row (F := [(wx.heap.size, .cells Y 26 (0, 0)), (bm, .cells (M A pre.length c).cells 29 (0, 0))] ++ (X ++ F8)) (L := L0) rfl (.tmp 34) (.tmp 38) 27 rfl 26 (.agg #[.int .u8 0, .int .u8 0, .int .u8 0, .int .u8 0, .int .u8 0, .int .u8 0, .int .u8 0, .int .u8 0, .int .u8 0, .int .u8 0, .int .u8 0, .int .u8 0, .int .u8 0, .int .u8 0, .int .u8 0, .int .u8 0, .int .u8 0, .int .u8 0, .int .u8 0, .int .u8 0, .int .u8 0, .int .u8 0, .int .u8 0, .int .u8 0, .int .u8 0, .int .u8 0, .int .u8 0, .int .u8 0, .int .u8 0, .int .u8 0, .int .u8 0, .int .u8 0]) 32 32 Tryd.underlying27 (by kernel_rfl) rfl (by omega) rfl HROW.out H4.out rfl (Src.newS _ 32 _ 26 rfl 1 hYs) HONE.out (pre.length + 1) rfl (hcells ((pre ++ [x]).map fun i => hashOf (chunkAt bs q i))) HADD.out (by unfold maxLen; omega) (by omega) ?_; intro A6 c6 w6 L6 hr6 h6; have g0 : w6.cell? ⟨bm, 36, none⟩ = some (.slice A pre.length c) := (h6.cell (g := bm) (cs := (M A pre.length c).cells) (t := 29) (fr := (0, 0)) (by simp) 36).trans (HM36.out A pre.length c (by omega)); have g1 : w6.frozen? ⟨bm, 36, none⟩ = false := h6.frozen (g := bm) (cs := (M A pre.length c).cells) (t := 29) (by simp) 36; have h7 := St.set (A := L6 ++ [(wx.heap.size, Obj.cells Y 26 (0, 0))]) (g := bm) (cs := (M A pre.length c).cells) (t := 29) (fr := (0, 0)) (B := X ++ F8) (by rw [List.append_assoc]; exact h6) 36 (.slice A6 (pre.length + 1) c6); rw [HS36.out A pre.length c (by omega), List.append_assoc] at h7; have H7 := Lib.hid h7; have HR6 := Lib.hid hr6; clear h6 h7 hr6; dsimp only))
                refine hK.out _ _ ?_ (fun hHeld => ?_)
                · (try dsimp only) <;> (all_goals trivial)
                clear hK K
                try simp only [Act.put, List.setIfInBounds_toArray, List.set_cons_zero, List.set_cons_succ]
                refine wpAnyH_take (i := 7) (oi := ?_) (v := ?_) ?_ ?_ ?_ ?_ ?_ ?_ ?_ ?_
                rotate_left 2
                · (simp only [List.getElem?_toArray, List.getElem?_cons_succ, List.getElem?_cons_zero]; exact rfl)
                · kernel_rfl
                · kernel_rfl
                · kernel_rfl
                · exact fun _ _ _ h => h
                · (refine Or.inl ⟨by rfl, ?_⟩; intro w hSw; (try dsimp only at hSw); go_simp; try with_reducible rfl)
                · assumption
                try simp only [Act.put, List.setIfInBounds_toArray, List.set_cons_zero, List.set_cons_succ]
                refine wpAnyH_ready (rs := [8]) (by kernel_rfl) (by simp) ?_
                refine AllReadyH.cons (o := ?_) ?_ (fun K hK => ?_) ?_
                rotate_left 1
                · (simp only [List.getElem?_toArray, List.getElem?_cons_succ, List.getElem?_cons_zero]; exact rfl)
                · go_simp
                  refine hK.out _ _ ?_ (fun hHeld => ?_)
                  · (try dsimp only) <;> (all_goals trivial)
                  clear hK K
                  try simp only [Act.put, List.setIfInBounds_toArray, List.set_cons_zero, List.set_cons_succ]
                  refine wpAnyH_done (by kernel_rfl) ?_ _
                  refine ⟨rfl, ?_⟩
                  exact mk_step HROW.out HST.out HLE.out HALL.out HX1.out HX2.out HSZ1 HR6.out H7.out
                exact AllReadyH.nil
              exact AllReadyH.nil
            exact AllReadyH.nil
          exact AllReadyH.nil
        exact AllReadyH.nil
      exact AllReadyH.nil
    case done =>
      rintro D ys W1 hD rfl ⟨A, c, L0, hrow, hst⟩ hK
      rw [List.length_range, HCN.out] at hrow hst
      have hD2 := St.keepD hst hK rfl hD HI.out (OWNL.out _ _ _ _ _ hrow _)
      have hD3 := St.swap (A := [_]) (B := (bm, _) :: L0) hD2
      obtain ⟨Y, hY⟩ : ∃ Y, Y = (D, Obj.deferred (some [])) :: X := ⟨_, rfl⟩
      have hT : St W W1 I ((bm, .cells (M A N c).cells 29 (0, 0)) :: (L0 ++ (Y ++ ((b8, .cells zc 29 (0, 0)) :: F)))) := by
        rw [hY, ← HF8.out]
        exact hD3
      have hmkk : mkOk prod ver (q : Int) bs = rightM (madeM prod ver (q : Int) bs A N c) := by
        unfold mkOk rightM mkN
        rw [HN.out, Int.toNat_natCast, decide_eq_true hA2, Bool.true_and]
        rfl
      have hmn : mkN (q : Int) bs = N := by unfold mkN; rw [HN.out, Int.toNat_natCast]
      have hrow2 : Row 26 32 (.slice A N c) N (hcells (hashes bs q N)) L0 := hrow
      have HT := Lib.hid hT; have HROW := Lib.hid hrow2; have HMKK := Lib.hid hmkk; have HY := Lib.hid hY; have HMN := Lib.hid hmn
      have hn : N ≤ 1000000 := by omega
      clear hK hst hrow hD2 hD3 hY hrow2 hmkk hT hmn
      go_wp2_with fail
      refine (dsum1 ⟨A0, cap, bs⟩ HP.out hl HT.out).mono ?_
      rintro e w9 ⟨rfl, h9⟩
      simp only
      have hds : (bcells (hashOf bs)).size = 32 := by rw [bcells_size, hashOf_len]
      have hsz0 := Man.cells_size (HMOK.out A N c hn)
      have hdi : (Tryd.prog.info? 26).map (·.size) = some (bcells (hashOf bs)).size := by rw [hds]; kernel_rfl
      have hdf : 4 + (bcells (hashOf bs)).size ≤ (M A N c).cells.size := by rw [hds, hsz0]; decide
      have hdo := bcells_one (hashOf bs)
      have hset := HMZ.out A N c hn
      have okM := HMK.out A N c hn
      obtain ⟨mk, hmk⟩ : ∃ mk, mk = (madeM prod ver (q : Int) bs A N c).cells := ⟨_, rfl⟩
      have hmks : mk.size = 37 := by rw [hmk]; exact Man.cells_size okM
      have hmo : mk.all (·.oneCell') = true := by rw [hmk]; exact Man.one _
      have hmi : (Tryd.prog.info? 29).map (·.size) = some mk.size := by rw [hmks]; kernel_rfl
      have hmf : 0 + mk.size ≤ zc.size := by rw [hmks, HZS.out]; omega
      have hval : (madeM prod ver (q : Int) bs A N c).val = .agg mk := by rw [hmk]; rfl
      have kR := fun (v : World) (L : List (Nat × Obj)) (hv : St W v I L) => right_own (w := v) TT.out (madeM prod ver (q : Int) bs A N c) okM (show prod.size ≤ _ by omega) hv
      rw [hval, ← HMKK.out] at kR
      rw [← hmk] at hset
      obtain ⟨R, hR⟩ : ∃ R, mkOk prod ver (q : Int) bs = R := ⟨_, rfl⟩
      rw [hR] at kR
      have hHV : HV bs = bcells (hashOf bs) := rfl
      rw [hHV]
      obtain ⟨dg, hdg⟩ : ∃ dg, bcells (hashOf bs) = dg := ⟨_, rfl⟩
      rw [hdg] at hdi hdf hdo hset ⊢
      have H9 := Lib.hid h9; have HDI := Lib.hid hdi; have HDF := Lib.hid hdf; have HDO := Lib.hid hdo; have HSET := Lib.hid hset; have HMKS := Lib.hid hmks; have HMO := Lib.hid hmo; have HMI := Lib.hid hmi; have HMF := Lib.hid hmf; have HVAL := Lib.hid hval; have KR := Lib.hid kR; have HRR := Lib.hid hR
      clear h9 hds hsz0 hdi hdf hdo hset okM hmk hmks hmo hmi hmf hval kR hR hHV hdg HT
      go_wp2_with (first
        | (with_reducible refine wpList_store_st rfl 26 (.tmp 44) (.tmp 43) rfl (g := bm) (off := 4) dg rfl rfl H9.out HDF.out HDI.out HDO.out ?_; intro w10 h10; refine Hid.out ?_))
      refine Lib.hid ?_
      rw [HSET.out] at h10
      have H10 := Lib.hid h10
      clear h10 H9 HDF HDI HDO HSET
      go_wp2_with (with_reducible refine wpList_load_st rfl 29 (.tmp 10) rfl (g := bm) (off := 0) rfl H10.out (List.mem_cons_self ..) mk (fun j hj => by rw [Nat.zero_add]) _ Tryd.underlying29 rfl HMI.out ?_)
      refine (KR.out _ _ H10.out).mono ?_
      rintro e w11 ⟨rfl, h11⟩
      have h12 : St W w11 I ((b8, .cells zc 29 (0, 0)) :: (((bm, .cells mk 29 (0, 0)) :: L0) ++ (Y ++ F))) := by
        have h13 : St W w11 I ((((bm, .cells mk 29 (0, 0)) :: L0) ++ Y) ++ ([(b8, .cells zc 29 (0, 0))] ++ F)) := by rw [List.append_assoc]; exact h11
        have h14 := St.swap h13
        rw [List.append_assoc] at h14
        exact h14
      have H11 := Lib.hid h11; have H12 := Lib.hid h12
      clear h11 h12 H10 KR
      cases R with
      | true =>
        go_wp2_with (first
          | (with_reducible refine wpList_load_st rfl 29 (.tmp 10) rfl (g := bm) (off := 0) rfl H11.out (List.mem_cons_self ..) mk (fun j hj => by rw [Nat.zero_add]) _ Tryd.underlying29 rfl HMI.out ?_)
          | (with_reducible refine wpList_store_st rfl 29 (.tmp 8) (.tmp 49) rfl (g := b8) (off := 0) mk rfl rfl H12.out HMF.out HMI.out HMO.out ?_; intro w13 h13; refine Hid.out ?_))
        refine Lib.hid ?_
        rw [setMany_whole _ _ (by rw [Array.length_toList, HMKS.out, HZS.out]), Array.toArray_toList] at h13
        have H13 := Lib.hid h13
        clear h13
        go_wp2_with fail
        have h14 := H13.out
        rw [HY.out] at h14
        have hDo : w13.heap[D]? = some (.deferred (some [])) := h14.own (D, .deferred (some [])) (by simp)
        have h15 := St.putD (A := (b8, .cells mk 29 (0, 0)) :: (bm, .cells mk 29 (0, 0)) :: L0) (B := X ++ F) (o' := .deferred none) h14
        refine ⟨by simp, .inl ⟨_, _, rfl, run_takeDeferred hDo, ?_⟩⟩
        refine ⟨_, results_row_tmp rfl _ _ b8 29 mk (0, 0) _ rfl (h15.own (b8, _) (List.mem_cons_self ..)) Tryd.underlying29 rfl HMI.out, ?_⟩
        refine ⟨fun _ => ⟨A, c, L0, ?_, ?_, ?_⟩, fun h => absurd (HRR.out.symm.trans h) (by simp)⟩
        · rw [HMN.out, HVAL.out]; rfl
        · rw [HMN.out, Int.toNat_natCast]; exact HROW.out
        · exact St.mid (A := L0) (B := X) (St.weaken (A := [_, _]) h15)
      | false =>
        have HZ : Hid (∀ w, (Instr.build 29 #[]).run Tryd.prog w = .ok (.agg zc) w) := Lib.hid (fun w => by
          have h := run_build_zero w
          rw [HZL.out] at h
          exact h)
        go_wp2_with (first
          | (with_reducible refine wpList_build_st rfl 29 _ rfl _ ?_ (HZ.out _) ?_; · go_simp)
          | (with_reducible refine wpList_store_st rfl 29 (.tmp 8) (.tmp 48) rfl (g := b8) (off := 0) zc rfl rfl H12.out HZF.out HZI.out HZO.out ?_; intro w13 h13; refine Hid.out ?_))
        refine Lib.hid ?_
        rw [setMany_whole _ _ (by rw [Array.length_toList]), Array.toArray_toList] at h13
        have H13 := Lib.hid h13
        clear h13
        go_wp2_with fail
        have h14 := H13.out
        rw [HY.out] at h14
        have hDo : w13.heap[D]? = some (.deferred (some [])) := h14.own (D, .deferred (some [])) (by simp)
        have h15 := St.putD (A := (b8, .cells zc 29 (0, 0)) :: (bm, .cells mk 29 (0, 0)) :: L0) (B := X ++ F) (o' := .deferred none) h14
        refine ⟨by simp, .inl ⟨_, _, rfl, run_takeDeferred hDo, ?_⟩⟩
        refine ⟨_, results_row_tmp rfl _ _ b8 29 zc (0, 0) _ rfl (h15.own (b8, _) (List.mem_cons_self ..)) Tryd.underlying29 rfl HZI.out, ?_⟩
        refine ⟨fun h => absurd (HRR.out.symm.trans h) (by simp), fun _ => ⟨?_, ?_⟩⟩
        · rw [Man.val, HZL.out]; rfl
        · exact St.weaken (A := X) (St.weaken (A := L0) (St.weaken (A := [_, _]) h15))
    case stop =>
      rintro D c pre W1 _ _ h _
      exact h.elim
  · have hmkk : mkOk prod ver ch bs = rightM (madeM prod ver ch bs none 0 0) := by
      have h0 : rightM (madeM prod ver ch bs none 0 0) = false := by
        refine rightM_no _ fun hh => ?_
        obtain ⟨r1, r2, r3, r4, r5, r6, r7, r8, r9, r10⟩ := hh
        simp only [madeM] at r4 r5 r6 r7 r9
        have h9 := cntM_span bs.length ch r4 (by omega)
        omega
      rw [h0]
      unfold mkOk mkN
      rw [HN.out, Int.toNat_natCast]
      by_cases h64 : N ≤ 64
      · rw [decide_eq_true h64, Bool.true_and]
        refine (rightM_no ⟨prod, ver, bs.length, ch, [], none, N, 0⟩ fun hh => ?_)
        obtain ⟨r1, r2, r3, r4, r5, r6, r7, r8, r9, r10⟩ := hh
        simp only at r4 r5 r6 r7 r9
        have h9 := cntM_span bs.length ch r4 (by omega)
        omega
      · rw [decide_eq_false h64, Bool.false_and]
    have hmf0 : rightM (madeM prod ver ch bs none 0 0) = false := by
      refine rightM_no _ fun hh => ?_
      obtain ⟨r1, r2, r3, r4, r5, r6, r7, r8, r9, r10⟩ := hh
      simp only [madeM] at r4 r5 r6 r7 r9
      have h9 := cntM_span bs.length ch r4 (by omega)
      omega
    obtain ⟨A, hAn⟩ : ∃ A : Option Addr, A = none := ⟨_, rfl⟩
    obtain ⟨L0, hL0⟩ : ∃ L0 : List (Nat × Obj), L0 = [] := ⟨_, rfl⟩
    obtain ⟨Y, hY⟩ : ∃ Y : List (Nat × Obj), Y = [] := ⟨_, rfl⟩
    have hT : St W w6 I ((bm, .cells (M none 0 0).cells 29 (0, 0)) :: (L0 ++ (Y ++ ((b8, .cells zc 29 (0, 0)) :: F)))) := by
      rw [hL0, hY]
      exact H7.out
    have HT := Lib.hid hT; have HMKK := Lib.hid hmkk; have HMF0 := Lib.hid hmf0; have HY := Lib.hid hY; have HL0 := Lib.hid hL0
    have hn : 0 ≤ 1000000 := by omega
    clear hT hmkk hY hL0 hmf0 hAn A H7
    by_cases h1 : 1 ≤ N
    · have h1i : (1 : Int) ≤ (N : Int) := by omega
      have h2i : ¬ (N : Int) ≤ 64 := by omega
      have h2j : (64 : Int) < (N : Int) := by omega
      go_wp2_with fail
      refine (dsum1 ⟨A0, cap, bs⟩ HP.out hl HT.out).mono ?_
      rintro e w9 ⟨rfl, h9⟩
      simp only
      have hds : (bcells (hashOf bs)).size = 32 := by rw [bcells_size, hashOf_len]
      have hsz0 := Man.cells_size (HMOK.out none 0 0 hn)
      have hdi : (Tryd.prog.info? 26).map (·.size) = some (bcells (hashOf bs)).size := by rw [hds]; kernel_rfl
      have hdf : 4 + (bcells (hashOf bs)).size ≤ (M none 0 0).cells.size := by rw [hds, hsz0]; decide
      have hdo := bcells_one (hashOf bs)
      have hset := HMZ.out none 0 0 hn
      have okM := HMK.out none 0 0 hn
      obtain ⟨mk, hmk⟩ : ∃ mk, mk = (madeM prod ver ch bs none 0 0).cells := ⟨_, rfl⟩
      have hmks : mk.size = 37 := by rw [hmk]; exact Man.cells_size okM
      have hmo : mk.all (·.oneCell') = true := by rw [hmk]; exact Man.one _
      have hmi : (Tryd.prog.info? 29).map (·.size) = some mk.size := by rw [hmks]; kernel_rfl
      have hmf : 0 + mk.size ≤ zc.size := by rw [hmks, HZS.out]; omega
      have hval : (madeM prod ver ch bs none 0 0).val = .agg mk := by rw [hmk]; rfl
      have kR := fun (v : World) (L : List (Nat × Obj)) (hv : St W v I L) => right_own (w := v) TT.out (madeM prod ver ch bs none 0 0) okM (show prod.size ≤ _ by omega) hv
      rw [hval, ← HMKK.out] at kR
      rw [← hmk] at hset
      obtain ⟨R, hR⟩ : ∃ R, mkOk prod ver ch bs = R := ⟨_, rfl⟩
      rw [hR] at kR
      have hHV : HV bs = bcells (hashOf bs) := rfl
      rw [hHV]
      obtain ⟨dg, hdg⟩ : ∃ dg, bcells (hashOf bs) = dg := ⟨_, rfl⟩
      rw [hdg] at hdi hdf hdo hset ⊢
      have H9 := Lib.hid h9; have HDI := Lib.hid hdi; have HDF := Lib.hid hdf; have HDO := Lib.hid hdo; have HSET := Lib.hid hset; have HMKS := Lib.hid hmks; have HMO := Lib.hid hmo; have HMI := Lib.hid hmi; have HMF := Lib.hid hmf; have HVAL := Lib.hid hval; have KR := Lib.hid kR; have HRR := Lib.hid hR
      clear h9 hds hsz0 hdi hdf hdo hset okM hmk hmks hmo hmi hmf hval kR hR hHV hdg HT
      go_wp2_with (first
        | (with_reducible refine wpList_store_st rfl 26 (.tmp 44) (.tmp 43) rfl (g := bm) (off := 4) dg rfl rfl H9.out HDF.out HDI.out HDO.out ?_; intro w10 h10; refine Hid.out ?_))
      refine Lib.hid ?_
      rw [HSET.out] at h10
      have H10 := Lib.hid h10
      clear h10 H9 HDF HDI HDO HSET
      go_wp2_with (with_reducible refine wpList_load_st rfl 29 (.tmp 10) rfl (g := bm) (off := 0) rfl H10.out (List.mem_cons_self ..) mk (fun j hj => by rw [Nat.zero_add]) _ Tryd.underlying29 rfl HMI.out ?_)
      refine (KR.out _ _ H10.out).mono ?_
      rintro e w11 ⟨rfl, h11⟩
      have h12 : St W w11 I ((b8, .cells zc 29 (0, 0)) :: (((bm, .cells mk 29 (0, 0)) :: L0) ++ (Y ++ F))) := by
        have h13 : St W w11 I ((((bm, .cells mk 29 (0, 0)) :: L0) ++ Y) ++ ([(b8, .cells zc 29 (0, 0))] ++ F)) := by rw [List.append_assoc]; exact h11
        have h14 := St.swap h13
        rw [List.append_assoc] at h14
        exact h14
      have H11 := Lib.hid h11; have H12 := Lib.hid h12
      clear h11 h12 H10 KR
      cases R with
      | true =>
        go_wp2_with (first
          | (with_reducible refine wpList_load_st rfl 29 (.tmp 10) rfl (g := bm) (off := 0) rfl H11.out (List.mem_cons_self ..) mk (fun j hj => by rw [Nat.zero_add]) _ Tryd.underlying29 rfl HMI.out ?_)
          | (with_reducible refine wpList_store_st rfl 29 (.tmp 8) (.tmp 49) rfl (g := b8) (off := 0) mk rfl rfl H12.out HMF.out HMI.out HMO.out ?_; intro w13 h13; refine Hid.out ?_))
        refine Lib.hid ?_
        rw [setMany_whole _ _ (by rw [Array.length_toList, HMKS.out, HZS.out]), Array.toArray_toList] at h13
        have H13 := Lib.hid h13
        clear h13
        go_wp2_with fail
        exact absurd (HRR.out.symm.trans (HMKK.out.trans HMF0.out)) (by simp)
      | false =>
        have HZ : Hid (∀ w, (Instr.build 29 #[]).run Tryd.prog w = .ok (.agg zc) w) := Lib.hid (fun w => by
          have h := run_build_zero w
          rw [HZL.out] at h
          exact h)
        go_wp2_with (first
          | (with_reducible refine wpList_build_st rfl 29 _ rfl _ ?_ (HZ.out _) ?_; · go_simp)
          | (with_reducible refine wpList_store_st rfl 29 (.tmp 8) (.tmp 48) rfl (g := b8) (off := 0) zc rfl rfl H12.out HZF.out HZI.out HZO.out ?_; intro w13 h13; refine Hid.out ?_))
        refine Lib.hid ?_
        rw [setMany_whole _ _ (by rw [Array.length_toList]), Array.toArray_toList] at h13
        have H13 := Lib.hid h13
        clear h13
        go_wp2_with fail
        (try simp only [Exit.inBlock, Exit.then])
        have h14 := H13.out
        rw [HY.out, HL0.out] at h14
        refine ⟨_, results_row_tmp rfl _ _ b8 29 zc (0, 0) _ rfl (h14.own (b8, _) (List.mem_cons_self ..)) Tryd.underlying29 rfl HZI.out, ?_⟩
        refine ⟨fun h => absurd (HRR.out.symm.trans h) (by simp), fun _ => ⟨?_, ?_⟩⟩
        · rw [Man.val, HZL.out]; rfl
        · exact St.weaken (A := [_, _]) h14
    · have h1i : ¬ (1 : Int) ≤ (N : Int) := by omega
      have h1j : (N : Int) < 1 := by omega
      go_wp2_with fail
      refine (dsum1 ⟨A0, cap, bs⟩ HP.out hl HT.out).mono ?_
      rintro e w9 ⟨rfl, h9⟩
      simp only
      have hds : (bcells (hashOf bs)).size = 32 := by rw [bcells_size, hashOf_len]
      have hsz0 := Man.cells_size (HMOK.out none 0 0 hn)
      have hdi : (Tryd.prog.info? 26).map (·.size) = some (bcells (hashOf bs)).size := by rw [hds]; kernel_rfl
      have hdf : 4 + (bcells (hashOf bs)).size ≤ (M none 0 0).cells.size := by rw [hds, hsz0]; decide
      have hdo := bcells_one (hashOf bs)
      have hset := HMZ.out none 0 0 hn
      have okM := HMK.out none 0 0 hn
      obtain ⟨mk, hmk⟩ : ∃ mk, mk = (madeM prod ver ch bs none 0 0).cells := ⟨_, rfl⟩
      have hmks : mk.size = 37 := by rw [hmk]; exact Man.cells_size okM
      have hmo : mk.all (·.oneCell') = true := by rw [hmk]; exact Man.one _
      have hmi : (Tryd.prog.info? 29).map (·.size) = some mk.size := by rw [hmks]; kernel_rfl
      have hmf : 0 + mk.size ≤ zc.size := by rw [hmks, HZS.out]; omega
      have hval : (madeM prod ver ch bs none 0 0).val = .agg mk := by rw [hmk]; rfl
      have kR := fun (v : World) (L : List (Nat × Obj)) (hv : St W v I L) => right_own (w := v) TT.out (madeM prod ver ch bs none 0 0) okM (show prod.size ≤ _ by omega) hv
      rw [hval, ← HMKK.out] at kR
      rw [← hmk] at hset
      obtain ⟨R, hR⟩ : ∃ R, mkOk prod ver ch bs = R := ⟨_, rfl⟩
      rw [hR] at kR
      have hHV : HV bs = bcells (hashOf bs) := rfl
      rw [hHV]
      obtain ⟨dg, hdg⟩ : ∃ dg, bcells (hashOf bs) = dg := ⟨_, rfl⟩
      rw [hdg] at hdi hdf hdo hset ⊢
      have H9 := Lib.hid h9; have HDI := Lib.hid hdi; have HDF := Lib.hid hdf; have HDO := Lib.hid hdo; have HSET := Lib.hid hset; have HMKS := Lib.hid hmks; have HMO := Lib.hid hmo; have HMI := Lib.hid hmi; have HMF := Lib.hid hmf; have HVAL := Lib.hid hval; have KR := Lib.hid kR; have HRR := Lib.hid hR
      clear h9 hds hsz0 hdi hdf hdo hset okM hmk hmks hmo hmi hmf hval kR hR hHV hdg HT
      go_wp2_with (first
        | (with_reducible refine wpList_store_st rfl 26 (.tmp 44) (.tmp 43) rfl (g := bm) (off := 4) dg rfl rfl H9.out HDF.out HDI.out HDO.out ?_; intro w10 h10; refine Hid.out ?_))
      refine Lib.hid ?_
      rw [HSET.out] at h10
      have H10 := Lib.hid h10
      clear h10 H9 HDF HDI HDO HSET
      go_wp2_with (with_reducible refine wpList_load_st rfl 29 (.tmp 10) rfl (g := bm) (off := 0) rfl H10.out (List.mem_cons_self ..) mk (fun j hj => by rw [Nat.zero_add]) _ Tryd.underlying29 rfl HMI.out ?_)
      refine (KR.out _ _ H10.out).mono ?_
      rintro e w11 ⟨rfl, h11⟩
      have h12 : St W w11 I ((b8, .cells zc 29 (0, 0)) :: (((bm, .cells mk 29 (0, 0)) :: L0) ++ (Y ++ F))) := by
        have h13 : St W w11 I ((((bm, .cells mk 29 (0, 0)) :: L0) ++ Y) ++ ([(b8, .cells zc 29 (0, 0))] ++ F)) := by rw [List.append_assoc]; exact h11
        have h14 := St.swap h13
        rw [List.append_assoc] at h14
        exact h14
      have H11 := Lib.hid h11; have H12 := Lib.hid h12
      clear h11 h12 H10 KR
      cases R with
      | true =>
        go_wp2_with (first
          | (with_reducible refine wpList_load_st rfl 29 (.tmp 10) rfl (g := bm) (off := 0) rfl H11.out (List.mem_cons_self ..) mk (fun j hj => by rw [Nat.zero_add]) _ Tryd.underlying29 rfl HMI.out ?_)
          | (with_reducible refine wpList_store_st rfl 29 (.tmp 8) (.tmp 49) rfl (g := b8) (off := 0) mk rfl rfl H12.out HMF.out HMI.out HMO.out ?_; intro w13 h13; refine Hid.out ?_))
        refine Lib.hid ?_
        rw [setMany_whole _ _ (by rw [Array.length_toList, HMKS.out, HZS.out]), Array.toArray_toList] at h13
        have H13 := Lib.hid h13
        clear h13
        go_wp2_with fail
        exact absurd (HRR.out.symm.trans (HMKK.out.trans HMF0.out)) (by simp)
      | false =>
        have HZ : Hid (∀ w, (Instr.build 29 #[]).run Tryd.prog w = .ok (.agg zc) w) := Lib.hid (fun w => by
          have h := run_build_zero w
          rw [HZL.out] at h
          exact h)
        go_wp2_with (first
          | (with_reducible refine wpList_build_st rfl 29 _ rfl _ ?_ (HZ.out _) ?_; · go_simp)
          | (with_reducible refine wpList_store_st rfl 29 (.tmp 8) (.tmp 48) rfl (g := b8) (off := 0) zc rfl rfl H12.out HZF.out HZI.out HZO.out ?_; intro w13 h13; refine Hid.out ?_))
        refine Lib.hid ?_
        rw [setMany_whole _ _ (by rw [Array.length_toList]), Array.toArray_toList] at h13
        have H13 := Lib.hid h13
        clear h13
        go_wp2_with fail
        (try simp only [Exit.inBlock, Exit.then])
        have h14 := H13.out
        rw [HY.out, HL0.out] at h14
        refine ⟨_, results_row_tmp rfl _ _ b8 29 zc (0, 0) _ rfl (h14.own (b8, _) (List.mem_cons_self ..)) Tryd.underlying29 rfl HZI.out, ?_⟩
        refine ⟨fun h => absurd (HRR.out.symm.trans h) (by simp), fun _ => ⟨?_, ?_⟩⟩
        · rw [Man.val, HZL.out]; rfl
        · exact St.weaken (A := [_, _]) h14
end
end Go.Proofs.YtfbffmckmchbbaaDoor
