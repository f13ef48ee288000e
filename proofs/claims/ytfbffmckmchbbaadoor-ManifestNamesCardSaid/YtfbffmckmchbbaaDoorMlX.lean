/- manifest: what the laws hang on, in plain Lean. manifest: what Make and Parse hand back, as data. manifestAlive: walk. The laws' arguments: manifests, what one is made of. ManifestMakes: the walk of the law. -/
import Derived.Test.YtfbffmckmchbbaaDoorMbP
import Derived.Test.YtfbffmckmchbbaaDoorMbH
import Derived.Test.YtfbffmckmchbbaaDoorMsa
import Derived.Test.YtfbffmckmchbbaaDoorMka
import Derived.Test.YtfbffmckmchbbaaDoorRpa
import Derived.Test.YtfbffmckmchbbaaDoorRsa
namespace Go.Proofs.YtfbffmckmchbbaaDoor
section
set_option linter.unusedVariables false
set_option linter.unusedSimpArgs false
open Go.RowKit Go.Lib

theorem mBy_iff {m1 m2 : Man} (ok1 : m1.Ok) (ok2 : m2.Ok) {hs1 hs2 : List (List UInt8)} (n1 : m1.n = hs1.length) (n2 : m2.n = hs2.length) (h1 : ∀ h ∈ hs1, h.length = 32) (h2 : ∀ h ∈ hs2, h.length = 32) (r1 : rightM m1 = true) (r2 : rightM m2 = true) :
    decide (mBy m1 hs1 = mBy m2 hs2) = sameM m1 m2 hs1 hs2 := by
  have v1 := ok1.v0; have v2 := ok2.v0
  obtain ⟨_, a1, _, a2, _, a3, _⟩ := (rightM_iff m1).1 r1
  obtain ⟨_, b1, _, b2, _, b3, _⟩ := (rightM_iff m2).1 r2
  have q1 : rightB m1.prod m1.ver.toNat m1.size.toNat m1.chunk.toNat hs1.length = true := by
    unfold rightM at r1
    rw [Int.toNat_of_nonneg (by omega), Int.toNat_of_nonneg (by omega), Int.toNat_of_nonneg (by omega), ← n1]
    exact r1
  have q2 : rightB m2.prod m2.ver.toNat m2.size.toNat m2.chunk.toNat hs2.length = true := by
    unfold rightM at r2
    rw [Int.toNat_of_nonneg (by omega), Int.toNat_of_nonneg (by omega), Int.toNat_of_nonneg (by omega), ← n2]
    exact r2
  unfold sameM
  by_cases h : mBy m1 hs1 = mBy m2 hs2
  · rw [decide_eq_true h, eq_comm, decide_eq_true_eq]
    obtain ⟨e1, e2, e3, e4, e5, e6⟩ := mbytes_inj ok1.dig ok2.dig h1 h2 q1 q2 h
    exact ⟨e1, by omega, by omega, by omega, e5, e6⟩
  · rw [decide_eq_false h, eq_comm, decide_eq_false_iff_not]
    rintro ⟨e1, e2, e3, e4, e5, e6⟩
    refine h ?_
    unfold mBy
    rw [e1, e2, e3, e4, e5, e6]
theorem sameM_self (m : Man) (hs : List (List UInt8)) : sameM m m hs hs = true := by unfold sameM; simp
theorem sameM_comm (m1 m2 : Man) (hs1 hs2 : List (List UInt8)) : sameM m1 m2 hs1 hs2 = sameM m2 m1 hs2 hs1 := by
  unfold sameM
  congr 1
  apply propext
  constructor
  · rintro ⟨a, b, c, d, e, f⟩; exact ⟨a.symm, b.symm, c.symm, d.symm, e.symm, f.symm⟩
  · rintro ⟨a, b, c, d, e, f⟩; exact ⟨a.symm, b.symm, c.symm, d.symm, e.symm, f.symm⟩
end

section
set_option linter.unusedVariables false
set_option linter.unusedSimpArgs false
open Go.RowKit Go.Lib

/-- A manifest whose chunks lie in memory that turns no more. -/
structure MI (m : Man) (hs : List (List UInt8)) (W : World) (J : Nat → Option Obj) : Prop where
  ok : m.Ok
  n : m.n = hs.length
  hin : HsIn m.A hs W J
  len : hs.length ≤ 1000
  psz : m.prod.size ≤ 500000
theorem MI.mono {m : Man} {hs : List (List UInt8)} {W : World} {I J : Nat → Option Obj} (h : MI m hs W I) (hle : Le I J) : MI m hs W J := ⟨h.ok, h.n, h.hin.mono hle, h.len, h.psz⟩
abbrev MDat := ByteArray × Int × Int × Int × List UInt8 × List (List UInt8)
instance decD1 : DecidableEq (Int × List UInt8 × List (List UInt8)) := inferInstance
instance decD2 : DecidableEq (Int × Int × List UInt8 × List (List UInt8)) := inferInstance
instance decD3 : DecidableEq (Int × Int × Int × List UInt8 × List (List UInt8)) := inferInstance
instance decD : DecidableEq MDat := inferInstance
def mdat (m : Man) (hs : List (List UInt8)) : MDat := (m.prod, m.ver, m.size, m.chunk, m.dig, hs)
theorem sameM_dat (m1 m2 : Man) (hs1 hs2 : List (List UInt8)) : sameM m1 m2 hs1 hs2 = decide (mdat m1 hs1 = mdat m2 hs2) := by
  unfold sameM mdat
  simp only [Prod.mk.injEq]
def mkD (prod : ByteArray) (ver ch : Int) (bs : List UInt8) : MDat × Int := if mkOk prod ver ch bs = true then ((prod, ver, (bs.length : Int), ch, hashOf bs, hashes bs ch.toNat (mkN ch bs)), 0) else (mdat zman [], 131)
def paD (bs : List UInt8) : MDat × Int := if ownGood bs = true then ((pA (hd 96 bs).prod, ((hd 96 bs).ver : Int), ((hd 96 bs).size : Int), ((hd 96 bs).chunk : Int), (hd 96 bs).dig, hsOf (hd 96 bs).rest (pcnt (hd 96 bs))), 0) else (mdat zman [], 131)
def MPost (W : World) (I : Nat → Option Obj) (F : List (Nat × Obj)) (D : MDat × Int) (e : Ending) (w' : World) : Prop :=
  ∃ J m hs, Le I J ∧ e = .returned (.tuple #[m.val, .int .i64 D.2]) ∧ MI m hs W J ∧ mdat m hs = D.1 ∧ St W w' J F
section
variable {W w : World} {I : Nat → Option Obj} {F : List (Nat × Obj)} {e : Ending}
theorem MI.zero : MI zman [] W I := ⟨zman_ok, rfl, HsIn.nil, by simp, by decide⟩
theorem MPost.of_mk {prod : ByteArray} {ver ch : Int} {bs : List UInt8} (h : MkPost W I F prod ver ch bs e w) (v0 : 0 ≤ ver) (v1 : ver ≤ 18446744073709551615) (c0 : -9223372036854775808 ≤ ch) (c1 : ch ≤ 9223372036854775807) (hl : bs.length ≤ 1000000) (hps : prod.size ≤ 500000) : MPost W I F (mkD prod ver ch bs) e w := by
  unfold mkD
  cases hk : mkOk prod ver ch bs with
  | true =>
    obtain ⟨A, c, L0, rfl, hr, hst⟩ := h.1 hk
    have hn : mkN ch bs ≤ 64 := by
      unfold mkOk at hk
      rw [Bool.and_eq_true, decide_eq_true_eq] at hk
      exact hk.1
    have h32 : ∀ h ∈ hashes bs ch.toNat (mkN ch bs), h.length = 32 := by
      intro h hh
      obtain ⟨k, _, rfl⟩ := List.mem_map.1 hh
      exact hashOf_len _
    have hl' := hashes_len bs ch.toNat (mkN ch bs)
    obtain ⟨J, hle, hin, hst2⟩ := hs_freeze (hs := hashes bs ch.toNat (mkN ch bs)) h32 (by rw [hl']; exact hr) hst
    rw [if_pos rfl]
    exact ⟨J, _, _, hle, rfl, ⟨madeM_ok v0 v1 c0 c1 hl (by omega), hl'.symm, hin, by omega, hps⟩, rfl, hst2⟩
  | false =>
    obtain ⟨rfl, hst⟩ := h.2 hk
    exact ⟨I, zman, [], Le.refl I, rfl, MI.zero, rfl, hst⟩
theorem MPost.of_pa {bs : List UInt8} (h : PaPost W I F bs e w) : MPost W I F (paD bs) e w := by
  unfold paD
  cases hk : ownGood bs with
  | true =>
    obtain ⟨A, c, L0, rfl, hr, hst⟩ := h.1 hk
    have hn := pcnt_le (hd 96 bs)
    have hl' := hsOf_len (hd 96 bs).rest (pcnt (hd 96 bs))
    obtain ⟨J, hle, hin, hst2⟩ := hs_freeze (hs := hsOf (hd 96 bs).rest (pcnt (hd 96 bs))) (hsOf_32 _ _) (by rw [hl']; exact hr) hst
    rw [if_pos rfl]
    refine ⟨J, _, _, hle, rfl, ⟨hdM_ok (pad32_len (tk_len _ _)) _ _ _ (by omega), hl'.symm, hin, by omega, ?_⟩, rfl, hst2⟩
    have h1 := leV_tk2 (some bs)
    have h2 : (hd 96 bs).prod.length ≤ _ := tk_len _ _
    have h3 : leV (hd1 bs).1 < 65536 := h1
    show (pA (hd 96 bs).prod).size ≤ _
    rw [pA_size]
    omega
  | false =>
    obtain ⟨rfl, hst⟩ := h.2 hk
    exact ⟨I, zman, [], Le.refl I, rfl, MI.zero, rfl, hst⟩
/-- A manifest's bytes, read. -/
theorem paD_mBy {m : Man} {hs : List (List UInt8)} (ok : m.Ok) (hn : m.n = hs.length) (h32 : ∀ h ∈ hs, h.length = 32) (hr : rightM m = true) : ownGood (mBy m hs) = true ∧ paD (mBy m hs) = (mdat m hs, 0) := by
  have v0 := ok.v0
  obtain ⟨_, a1, _, a2, _, a3, _⟩ := (rightM_iff m).1 hr
  have q1 : rightB m.prod m.ver.toNat m.size.toNat m.chunk.toNat hs.length = true := by
    unfold rightM at hr
    rw [Int.toNat_of_nonneg (by omega), Int.toNat_of_nonneg (by omega), Int.toNat_of_nonneg (by omega), ← hn]
    exact hr
  obtain ⟨o1, o2, o3, o4⟩ := own_mbytes (v := m.ver.toNat) (s := m.size.toNat) (c := m.chunk.toNat) ok.dig h32 q1
  have o1' : ownGood (mBy m hs) = true := o1
  have o2' : hd 96 (mBy m hs) = ⟨sB m.prod, m.ver.toNat, m.size.toNat, m.chunk.toNat, m.dig, some hs.flatten⟩ := o2
  have o3' : pcnt (hd 96 (mBy m hs)) = hs.length := o3
  refine ⟨o1', ?_⟩
  unfold paD
  rw [if_pos o1', o3', o2']
  simp only
  rw [o4]
  unfold mdat
  rw [Int.toNat_of_nonneg (by omega), Int.toNat_of_nonneg (by omega), Int.toNat_of_nonneg (by omega)]
  rfl
theorem paD_mBy' {m : Man} {hs : List (List UInt8)} (h : MI m hs W I) (hr : rightM m = true) : ownGood (mBy m hs) = true ∧ paD (mBy m hs) = (mdat m hs, 0) := paD_mBy h.ok h.n h.hin.len hr
theorem mBy_len {m : Man} {hs : List (List UInt8)} (h : MI m hs W I) : (mBy m hs).length = 48 + m.prod.size + 32 * hs.length := by
  have h1 := mByK_len h.ok h.hin.len hs.length (Nat.le_refl _)
  rw [← h1]
  unfold mByK
  rw [List.take_length]
  exact congrArg List.length (mBy_eq m hs).symm

/-! ### The contracts, by data -/
theorem pmk (t : TB W I) (prod : ByteArray) (hs : prod.size ≤ 500000) (ver : Int) (v0 : 0 ≤ ver) (v1 : ver ≤ 18446744073709551615) (ch : Int) (c0 : -9223372036854775808 ≤ ch) (c1 : ch ≤ 9223372036854775807)
    (p : Part) (hp : p.In W I) (hl : p.bs.length ≤ 1000000) (hcap : p.bs.length ≤ p.c) (h : St W w I F) :
    Calls Tryd.prog 19 #[.string prod, .int .u64 ver, .int .i64 ch, .slice p.A p.bs.length p.c] w (MPost W I F (mkD prod ver ch p.bs)) :=
  (mmake t prod (by omega) ver v0 v1 ch c0 c1 p hp hl hcap h).mono fun _ _ h => MPost.of_mk h v0 v1 c0 c1 hl hs
theorem prmk (t : TB W I) (prod : ByteArray) (hs : prod.size ≤ 500000) (ver : Int) (v0 : 0 ≤ ver) (v1 : ver ≤ 18446744073709551615) (ch : Int) (c0 : -9223372036854775808 ≤ ch) (c1 : ch ≤ 9223372036854775807)
    (p : Part) (hp : p.In W I) (hl : p.bs.length ≤ 1000000) (hcap : p.bs.length ≤ p.c) (h : St W w I F) :
    Calls Tryd.prog 20 #[.string prod, .int .u64 ver, .int .i64 ch, .slice p.A p.bs.length p.c] w (MPost W I F (mkD prod ver ch p.bs)) :=
  (rmake t prod (by omega) ver v0 v1 ch c0 c1 p hp hl hcap h).mono fun _ _ h => MPost.of_mk h v0 v1 c0 c1 hl hs
theorem ppa (t : TB W I) (p : Part) (hp : p.In W I) (hl : p.bs.length ≤ 100000) (hcap : p.bs.length ≤ p.c) (h : St W w I F) :
    Calls Tryd.prog 12 #[.slice p.A p.bs.length p.c] w (MPost W I F (paD p.bs)) := (mparse t p hp hl hcap h).mono fun _ _ h => MPost.of_pa h
theorem prpa (t : TB W I) (p : Part) (hp : p.In W I) (hl : p.bs.length ≤ 100000) (hcap : p.bs.length ≤ p.c) (h : St W w I F) :
    Calls Tryd.prog 13 #[.slice p.A p.bs.length p.c] w (MPost W I F (paD p.bs)) := (rparse t p hp hl hcap h).mono fun _ _ h => MPost.of_pa h
theorem psame {m1 m2 : Man} {hs1 hs2 : List (List UInt8)} (h1 : MI m1 hs1 W I) (h2 : MI m2 hs2 W I) (h : St W w I F) :
    Calls Tryd.prog 15 #[m1.val, m2.val] w fun e w' => e = .returned (.bool (decide (mdat m1 hs1 = mdat m2 hs2))) ∧ St W w' I F := by
  rw [← sameM_dat]
  exact msame m1 m2 h1.ok h2.ok hs1 hs2 h1.n h2.n h1.hin h2.hin (by have := h1.len; omega) (by have := h2.len; omega) h
theorem prsame {m1 m2 : Man} {hs1 hs2 : List (List UInt8)} (h1 : MI m1 hs1 W I) (h2 : MI m2 hs2 W I) (h : St W w I F) :
    Calls Tryd.prog 14 #[m1.val, m2.val] w fun e w' => e = .returned (.bool (decide (mdat m1 hs1 = mdat m2 hs2))) ∧ St W w' I F := by
  rw [← sameM_dat]
  exact rsame13 m1 m2 h1.ok h2.ok hs1 hs2 h1.n h2.n h1.hin h2.hin (by have := h1.len; omega) (by have := h2.len; omega) h
theorem pbytes (t : TB W I) {m : Man} {hs : List (List UInt8)} (hm : MI m hs W I) (h : St W w I F) :
    Calls Tryd.prog 18 #[m.val] w fun e w' => ∃ v, e = .returned v ∧ FreshB W w' I F (if rightM m = true then mBy m hs else []) v :=
  (mbytes_own t m hm.ok hs hm.n hm.hin hm.psz h).mono fun e w' hp => by
    cases hr : rightM m with
    | true => rw [if_pos rfl]; exact hp.2 hr
    | false =>
      obtain ⟨he, hst⟩ := hp.1 hr
      exact ⟨_, he, FreshB.nil hst⟩
theorem prbytes (t : TB W I) {m : Man} {hs : List (List UInt8)} (hm : MI m hs W I) (h : St W w I F) :
    Calls Tryd.prog 27 #[m.val] w fun e w' => ∃ v, e = .returned v ∧ FreshB W w' I F (if rightM m = true then mBy m hs else []) v :=
  rbytes t m hm.ok hs hm.n hm.hin hm.psz h
end
end

section
set_option linter.unusedVariables false
set_option linter.unusedSimpArgs false
open Go.RowKit Go.Lib

theorem man_store {m : Man} (ok : m.Ok) : m.cells.all (·.oneCell') = true ∧ (Tryd.prog.info? 29).map (·.size) = some m.cells.size ∧ 0 + m.cells.size ≤ ((Value.string ⟨#[]⟩ :: .int .u64 0 :: .int .i64 0 :: .int .i64 0 :: .int .u8 0 :: .int .u8 0 :: .int .u8 0 :: .int .u8 0 :: .int .u8 0 :: .int .u8 0 :: .int .u8 0 :: .int .u8 0 :: .int .u8 0 :: .int .u8 0 :: .int .u8 0 :: .int .u8 0 :: .int .u8 0 :: .int .u8 0 :: .int .u8 0 :: .int .u8 0 :: .int .u8 0 :: .int .u8 0 :: .int .u8 0 :: .int .u8 0 :: .int .u8 0 :: .int .u8 0 :: .int .u8 0 :: .int .u8 0 :: .int .u8 0 :: .int .u8 0 :: .int .u8 0 :: .int .u8 0 :: .int .u8 0 :: .int .u8 0 :: .int .u8 0 :: .int .u8 0 :: .slice none 0 0 :: []).toArray : Array Value).size ∧ setMany (Value.string ⟨#[]⟩ :: .int .u64 0 :: .int .i64 0 :: .int .i64 0 :: .int .u8 0 :: .int .u8 0 :: .int .u8 0 :: .int .u8 0 :: .int .u8 0 :: .int .u8 0 :: .int .u8 0 :: .int .u8 0 :: .int .u8 0 :: .int .u8 0 :: .int .u8 0 :: .int .u8 0 :: .int .u8 0 :: .int .u8 0 :: .int .u8 0 :: .int .u8 0 :: .int .u8 0 :: .int .u8 0 :: .int .u8 0 :: .int .u8 0 :: .int .u8 0 :: .int .u8 0 :: .int .u8 0 :: .int .u8 0 :: .int .u8 0 :: .int .u8 0 :: .int .u8 0 :: .int .u8 0 :: .int .u8 0 :: .int .u8 0 :: .int .u8 0 :: .int .u8 0 :: .slice none 0 0 :: []).toArray 0 m.cells.toList = m.cells := by
  have hms := Man.cells_size ok
  exact ⟨Man.one m, by rw [hms]; kernel_rfl, by rw [hms]; decide, by rw [setMany_whole _ _ (by rw [Array.length_toList, hms]; rfl), Array.toArray_toList]⟩
theorem name_core : nameOk ⟨#[99, 111, 114, 101]⟩ = true := by kernel_rfl
theorem core_mk (bs : List UInt8) (hl : bs.length = 65) : mkD ⟨#[99, 111, 114, 101]⟩ 7 64 bs = ((⟨#[99, 111, 114, 101]⟩, 7, 65, 64, hashOf bs, hashes bs 64 2), 0) := by
  have h1 : mkN 64 bs = 2 := by unfold mkN; rw [hl]; decide
  have h2 : mkOk ⟨#[99, 111, 114, 101]⟩ 7 64 bs = true := by
    unfold mkOk rightB
    rw [h1, name_core, hl]
    simp [cntM]
  unfold mkD
  rw [if_pos h2, h1, hl]
  rfl
theorem core_rightM {m : Man} {h : List UInt8} {hs hs' : List (List UInt8)} (hd : mdat m hs = (⟨#[99, 111, 114, 101]⟩, 7, 65, 64, h, hs')) (hn : m.n = 2) : rightM m = true := by
  obtain ⟨p, v, s, c, d, A, n, k⟩ := m
  unfold mdat at hd
  simp only [Prod.mk.injEq] at hd hn
  obtain ⟨rfl, rfl, rfl, rfl, _, _⟩ := hd
  subst hn
  unfold rightM rightB
  simp only
  rw [name_core]
  simp [cntM]
theorem spanM_yes {m : Man} {i : Int} (h : rightM m = true) (h0 : 0 ≤ i) (h1 : i < m.n) : spanM m i = (i * m.chunk, min m.chunk (m.size - i * m.chunk)) := by
  unfold spanM
  rw [if_pos ⟨h, h0, h1⟩]

section
variable {W w : World} {I : Nat → Option Obj} {F : List (Nat × Obj)}
set_option maxRecDepth 100000 in
set_option maxHeartbeats 4000000 in
theorem man_alive (t : TB W I) (h : St W w I F) : Calls Tryd.prog 11 #[] w fun e w' => e = .returned (.bool true) ∧ St W w' I F := by
  have hmk := run_make_repl (P := Tryd.prog) 22 5 (.int .u8 0) 1 Tryd.underlying22 (by kernel_rfl) rfl 65 (by omega) (by omega)
  have h1 := h.alloc (.cells (Array.replicate 65 (.int .u8 0)) 5)
  obtain ⟨bs, hbs⟩ : ∃ bs : List UInt8, bs = List.replicate 65 0 := ⟨_, rfl⟩
  have hbc : bs.map bval = (Array.replicate 65 (Value.int .u8 0)).toList := by rw [hbs, Array.toList_replicate, List.map_replicate]; rfl
  have hbl : bs.length = 65 := by rw [hbs]; rfl
  obtain ⟨J, hle, hJ, h2⟩ := St.freeze h1
  have hin : Part.In ⟨some ⟨w.heap.size, 0, none⟩, 65, bs⟩ W J := part_lit hJ (fun j u hu => by rw [hbc, Array.getElem?_toList] at hu; exact hu)
  obtain ⟨b0, hb0⟩ : ∃ b, w.heap.size = b := ⟨_, rfl⟩
  rw [hb0] at hin
  have tJ := t.more hle
  have hmak := pmk tJ ⟨#[99, 111, 114, 101]⟩ (by decide) 7 (by omega) (by omega) 64 (by omega) (by omega) ⟨some ⟨b0, 0, none⟩, 65, bs⟩ hin (by simp only; omega) (by simp only; omega) h2
  rw [core_mk bs hbl, hbl] at hmak
  generalize hV : (Array.replicate 65 (Value.int .u8 0)) = V at *
  have hmk65 : ∀ w, (Instr.makeSlice 22 (.int .i64 65) (.int .i64 65)).run Tryd.prog w = .ok (.slice (some ⟨w.heap.size, 0, none⟩) 65 65) (w.alloc (.cells V 5)) := fun w => hmk w
  have HMAK := Lib.hid hmak; have TT := Lib.hid tJ; have HLE := Lib.hid hle
  have hsl := hashes_len bs 64 2
  have HSL := Lib.hid hsl
  clear h h1 h2 hbc hJ hbs hin t tJ hle hmak hV hmk hbl hsl
  go_enter Tryd.func11, Tryd.ntmps11
  go_wp2_with fail
  refine HMAK.out.mono ?_
  rintro e w1 ⟨J1, m, hs, hle1, rfl, mi, hd, h1⟩
  simp only at hd ⊢
  have hd0 := hd
  have hhs : hs = hashes bs 64 2 := by
    have := congrArg (fun d : MDat => d.2.2.2.2.2) hd
    exact this
  have hn2 : m.n = 2 := by rw [mi.n, hhs]; exact HSL.out
  have hr := core_rightM hd hn2
  have hd1 : m.ver = 7 ∧ m.size = 65 ∧ m.chunk = 64 := by
    unfold mdat at hd
    simp only [Prod.mk.injEq] at hd
    exact ⟨hd.2.1, hd.2.2.1, hd.2.2.2.1⟩
  obtain ⟨e1, e2, e3⟩ := hd1
  have hsp : spanM m 1 = (64, 1) := by
    rw [spanM_yes hr (by omega) (by rw [hn2]; decide), e2, e3]
    decide
  have HR := Lib.hid hr; have HSP := Lib.hid hsp; have HN2 := Lib.hid hn2; have HE1 := Lib.hid e1; have MI1 := Lib.hid mi; have HLE1 := Lib.hid hle1
  clear hd hd0 hhs hn2 hr e1 e2 e3 hsp hle1 HMAK hb0
  have hA := (h1).alloc (.cells zman.cells 29)
  rw [zman_lit] at hA
  obtain ⟨hmo, hmi, hfx, hsm⟩ := man_store (mi).ok
  have HA := Lib.hid hA; have HMO := Lib.hid hmo; have HMI2 := Lib.hid hmi; have HFX := Lib.hid hfx; have HSM := Lib.hid hsm
  rw [show m.val = .agg m.cells from rfl]
  clear hA hmo hmi hfx hsm 
  go_wp2_with (with_reducible refine wpList_store_st rfl 29 (.tmp 1) (.tmp 10) rfl (g := w1.heap.size) (off := 0) m.cells rfl rfl HA.out HFX.out HMI2.out HMO.out ?_; intro w2 h2; refine Hid.out ?_)
  refine Lib.hid ?_
  rw [HSM.out] at h2
  generalize w1.heap.size = b2 at *
  have H2 := Lib.hid h2
  clear HA HMO HFX HSM h2
  clear mi h1
  have kB := pbytes (TT.out.more HLE1.out) MI1.out H2.out
  rw [show m.val = .agg m.cells from rfl] at kB
  rw [HR.out, if_pos rfl] at kB
  have KB := Lib.hid kB
  clear kB
  go_wp2_with (with_reducible refine wpList_load_st rfl 29 (.tmp 1) rfl (g := b2) (off := 0) rfl H2.out (cs := m.cells) (t := 29) (fr := (0, 0)) (by simp) m.cells (fun j hj => by rw [Nat.zero_add]) _ Tryd.underlying29 rfl HMI2.out ?_)
  refine KB.out.mono ?_
  rintro e w3 ⟨v, rfl, A3, c3, L3, rfl, hr3, h3⟩
  obtain ⟨J3, hle3, hin3, h4⟩ := part_freeze hr3 h3
  have hbl := mBy_len MI1.out
  have hp32 : m.prod.size ≤ 500000 := MI1.out.psz
  have hhl : hs.length ≤ 1000 := MI1.out.len
  obtain ⟨h9, c9⟩ : ∃ c, c = (mBy m hs).length ∧ c ≤ 1000000 := ⟨_, rfl, by omega⟩
  have hps : m.prod.size ≤ 100 := by
    have h := (rightM_iff m).1 HR.out
    have := name_short h.1
    omega
  have h64 : hs.length ≤ 64 := by
    have h := (rightM_iff m).1 HR.out
    have := MI1.out.n
    omega
  have hcap : (mBy m hs).length ≤ c3 := by
    obtain ⟨_, ⟨hv, h0, hx⟩ | ⟨g, off, cap, cur, hv, hL, hc1, hc2, hc3, hc4⟩⟩ := hr3
    · omega
    · injection hv with _ _ q
      omega
  have tJ3 := (TT.out.more HLE1.out).more hle3
  have kP := ppa tJ3 ⟨A3, c3, mBy m hs⟩ hin3 (by simp only; omega) hcap h4
  rw [(paD_mBy' MI1.out HR.out).2] at kP
  have KP := Lib.hid kP; have TJ3 := Lib.hid tJ3; have HLE3 := Lib.hid hle3
  clear kP tJ3 hle3 h3 hr3 h4 hin3 KB H2 hbl hp32 hhl h9 c9 hps h64 hcap
  go_wp2_with fail
  refine KP.out.mono ?_
  rintro e w4 ⟨J4, m4, hs4, hle4, rfl, mi4, hd4, h4⟩
  simp only at hd4 ⊢
  have HLE4 := Lib.hid hle4; have HD4 := Lib.hid hd4; have MI4 := Lib.hid mi4
  clear KP hle4 hd4
  have hA := (h4).alloc (.cells zman.cells 29)
  rw [zman_lit] at hA
  obtain ⟨hmo, hmi, hfx, hsm⟩ := man_store (mi4).ok
  have HA := Lib.hid hA; have HMO := Lib.hid hmo; have HMI5 := Lib.hid hmi; have HFX := Lib.hid hfx; have HSM := Lib.hid hsm
  rw [show m4.val = .agg m4.cells from rfl]
  clear hA hmo hmi hfx hsm 
  go_wp2_with (with_reducible refine wpList_store_st rfl 29 (.tmp 3) (.tmp 16) rfl (g := w4.heap.size) (off := 0) m4.cells rfl rfl HA.out HFX.out HMI5.out HMO.out ?_; intro w5 h5; refine Hid.out ?_)
  refine Lib.hid ?_
  rw [HSM.out] at h5
  generalize w4.heap.size = b5 at *
  have H5 := Lib.hid h5
  clear HA HMO HFX HSM h5
  clear mi4 h4
  have MIa : Hid (MI m hs W J4) := Lib.hid ((MI1.out.mono HLE3.out).mono HLE4.out)
  have kSp := span_own (w := w5) (TJ3.out.more HLE4.out) m MI1.out.ok (by have := MI1.out.psz; omega) 1 H5.out
  rw [HSP.out, show m.val = .agg m.cells from rfl] at kSp
  have KSP := Lib.hid kSp
  clear kSp
  go_wp2_with (with_reducible refine wpList_load_st rfl 29 (.tmp 1) rfl (g := b2) (off := 0) rfl H5.out (cs := m.cells) (t := 29) (fr := (0, 0)) (by simp) m.cells (fun j hj => by rw [Nat.zero_add]) _ Tryd.underlying29 rfl HMI2.out ?_)
  refine KSP.out.mono ?_
  rintro e w6 ⟨rfl, h6⟩
  have e7 : m4.ver = 7 := by
    have h9 := HD4.out
    unfold mdat at h9
    simp only [Prod.mk.injEq] at h9
    rw [h9.2.1, HE1.out]
  have d36 : w6.cell? ⟨b2, 36, none⟩ = some (.slice m.A 2 m.c) := by
    have := (man_cells MI1.out.ok h6 (b := b2) (by simp)).2.2.2.2
    rw [HN2.out] at this
    exact this
  have d1 : w6.cell? ⟨b5, 1, none⟩ = some (.int .u64 7) := by
    have := (man_cells MI4.out.ok h6 (b := b5) (by simp)).2.1
    rw [e7] at this
    exact this
  have kS := psame MIa.out MI4.out h6
  rw [decide_eq_true HD4.out.symm, show m.val = .agg m.cells from rfl, show m4.val = .agg m4.cells from rfl] at kS
  have H6 := Lib.hid h6; have KS := Lib.hid kS
  clear h6 kS KSP H5 e7
  go_wp2_with (first
    | (refine wpList_load_g (by rfl) 29 (.tmp 1) rfl (g := b2) (off := 0) rfl H6.out (cs := m.cells) (t := 29) (fr := (0, 0)) (by simp) m.cells (fun j hj => by rw [Nat.zero_add]) _ Tryd.underlying29 rfl HMI2.out ?_)
    | (refine wpList_load_g (by rfl) 29 (.tmp 3) rfl (g := b5) (off := 0) rfl H6.out (cs := m4.cells) (t := 29) (fr := (0, 0)) (by simp) m4.cells (fun j hj => by rw [Nat.zero_add]) _ Tryd.underlying29 rfl HMI5.out ?_))
  refine KS.out.mono ?_
  rintro e w7 ⟨rfl, h7⟩
  have d1 : w7.cell? ⟨b5, 1, none⟩ = some (.int .u64 7) := by
    have := (man_cells MI4.out.ok h7 (b := b5) (by simp)).2.1
    have h9 := HD4.out
    unfold mdat at h9
    simp only [Prod.mk.injEq] at h9
    rw [h9.2.1, HE1.out] at this
    exact this
  have H7 := Lib.hid h7
  clear h7 KS H6 d36
  go_wp2_with fail
  go_ret
  exact ⟨rfl, (St.weaken (A := [_, _]) H7.out).less (((HLE.out.trans HLE1.out).trans HLE3.out).trans HLE4.out)⟩
end
end

section
set_option linter.unusedVariables false
set_option linter.unusedSimpArgs false
open Go.RowKit Go.Lib Go.Deep

/-- Bytes, as they were read. -/
def PIn (p : Part) (W : World) : Prop := p.In W (fun b => W.heap[b]?) ∧ p.bs.length ≤ p.c ∧ p.c ≤ maxLen
/-- A manifest, as it was read. -/
structure ManIn (m : Man) (hs : List (List UInt8)) (W : World) : Prop where
  ok : m.Ok
  n : m.n = hs.length
  hs : HsIn m.A hs W (fun b => W.heap[b]?)
  len : m.prod.size ≤ maxLen
section
variable {H : Type} {enc : TypeId × Value → H} {W : World}
theorem cel_hash {cs : List Value} (h : Cel enc Tryd.prog W 26 cs) : ∃ xs : List UInt8, xs.length = 32 ∧ cs = xs.map bval := by
  obtain ⟨hl, hf⟩ := h.array_ Tryd.underlying26
  have hl : cs.length = 32 := by rw [hl]; kernel_rfl
  have c8 : Tryd.prog.cellsOf 5 = 1 := by kernel_rfl
  rw [c8] at hf
  have key : ∀ i, i < 32 → ∃ b : UInt8, cs[i]? = some (bval b) := by
    intro i hi
    have h1 : Cel enc Tryd.prog W 5 ((cs.drop (i * 1)).take 1) := hf i hi
    rw [Nat.mul_one] at h1
    obtain ⟨b, hb⟩ := h1.byte Tryd.underlying5
    have h3 := congrArg (fun l => l[0]?) hb
    exact ⟨b, by simpa [List.getElem?_take, List.getElem?_drop] using h3⟩
  obtain ⟨f, hf'⟩ := choose_lt key
  refine ⟨(List.range 32).map f, by simp, ?_⟩
  apply List.ext_getElem?
  intro i
  by_cases hi : i < 32
  · rw [hf' i hi, List.getElem?_map, List.getElem?_map, List.getElem?_range hi]
    rfl
  · rw [List.getElem?_eq_none (by omega), List.getElem?_eq_none (by simp; omega)]
theorem cel_hashes {cs : List Value} (h : Cel enc Tryd.prog W 27 cs) : ∃ A c hs, cs = [.slice A hs.length c] ∧ HsIn A hs W (fun b => W.heap[b]?) ∧ hs.length ≤ maxLen := by
  obtain ⟨A, n, c, xs, rfl, hs⟩ := h.slice (α := List UInt8) (Q := fun cs x => x.length = 32 ∧ cs = x.map bval) (size := 32) Tryd.underlying27 (by kernel_rfl) (by omega) (fun cs hcs => cel_hash hcs)
  have hn := hs.len
  subst hn
  have h32 : ∀ h ∈ xs, h.length = 32 := by
    intro x hx
    obtain ⟨i, hi⟩ := List.mem_iff_getElem?.1 hx
    obtain ⟨_, _, _, _, _, _, h4⟩ := hs.at_ i x hi
    exact h4.1
  refine ⟨A, c, xs, rfl, ⟨h32, fun w L hst j u hj => ?_⟩, Nat.le_trans hs.cap hs.cap'⟩
  have hj32 : j < xs.length * 32 := by have := (List.getElem?_eq_some_iff.1 hj).1; rw [hcells_length xs h32] at this; exact this
  have hi : j / 32 < xs.length := by omega
  obtain ⟨b, off, cs, h1, h2, h3, h4, h5⟩ := hs.at_ (j / 32) (xs[j / 32]) (List.getElem?_eq_getElem hi)
  subst h5
  refine ⟨b, off, h1, ?_⟩
  have h6 := h3 (j % 32) (by omega)
  have h7 := hcells_get xs (j / 32) (j % 32) _ h32 (List.getElem?_eq_getElem hi) (by omega)
  rw [show j / 32 * 32 + j % 32 = j by omega, hj] at h7
  rw [← h7] at h6
  have h8 := hst.ro h6
  rw [show off + j / 32 * 32 + j % 32 = off + j by omega] at h8
  exact h8
theorem cel_bytes {cs : List Value} (h : Cel enc Tryd.prog W 22 cs) : ∃ p : Part, cs = [.slice p.A p.bs.length p.c] ∧ PIn p W := by
  obtain ⟨A, n, c, xs, rfl, hs⟩ := h.slice (α := UInt8) (Q := fun cs b => cs = [bval b]) (size := 1) Tryd.underlying22 (by kernel_rfl) (by omega) (fun cs hcs => hcs.byte Tryd.underlying5)
  have hn := hs.len
  subst hn
  exact ⟨⟨A, c, xs⟩, rfl, part_of_slc hs, hs.cap, hs.cap'⟩
theorem cel_manifest {cs : List Value} (h : Cel enc Tryd.prog W 29 cs) : ∃ m hs, cs = m.cells.toList ∧ ManIn m hs W := by
  obtain ⟨hl, hf⟩ := h.struct_ Tryd.underlying29
  have hl : cs.length = 37 := by rw [hl]; kernel_rfl
  have f0 : Cel enc Tryd.prog W 9 ((cs.drop 0).take (Tryd.prog.cellsOf 9)) := hf 0 _ rfl
  rw [show Tryd.prog.cellsOf 9 = 1 by kernel_rfl] at f0
  have f1 : Cel enc Tryd.prog W 24 ((cs.drop 1).take (Tryd.prog.cellsOf 24)) := hf 1 _ rfl
  rw [show Tryd.prog.cellsOf 24 = 1 by kernel_rfl] at f1
  have f2 : Cel enc Tryd.prog W 3 ((cs.drop 2).take (Tryd.prog.cellsOf 3)) := hf 2 _ rfl
  rw [show Tryd.prog.cellsOf 3 = 1 by kernel_rfl] at f2
  have f3 : Cel enc Tryd.prog W 3 ((cs.drop 3).take (Tryd.prog.cellsOf 3)) := hf 3 _ rfl
  rw [show Tryd.prog.cellsOf 3 = 1 by kernel_rfl] at f3
  have f4 : Cel enc Tryd.prog W 26 ((cs.drop 4).take (Tryd.prog.cellsOf 26)) := hf 4 _ rfl
  rw [show Tryd.prog.cellsOf 26 = 32 by kernel_rfl] at f4
  have f5 : Cel enc Tryd.prog W 27 ((cs.drop 36).take (Tryd.prog.cellsOf 27)) := hf 5 _ rfl
  rw [show Tryd.prog.cellsOf 27 = 1 by kernel_rfl] at f5
  obtain ⟨s, e0, hs⟩ := f0.string Tryd.underlying9
  obtain ⟨v, e1, hv⟩ := f1.int Tryd.underlying24
  obtain ⟨z, e2, hz⟩ := f2.int Tryd.underlying3
  obtain ⟨k, e3, hk⟩ := f3.int Tryd.underlying3
  obtain ⟨d, hd, e4⟩ := cel_hash f4
  obtain ⟨A, c, hh, e5, hin, hlen⟩ := cel_hashes f5
  obtain ⟨v0, v1⟩ : 0 ≤ v ∧ v ≤ 18446744073709551615 := by
    have := hv
    simp [Lit.wf, IntKind.min, IntKind.max, IntKind.signed, IntKind.bits] at this
    exact this
  obtain ⟨z0, z1⟩ := wf_i64 hz
  obtain ⟨k0, k1⟩ := wf_i64 hk
  refine ⟨⟨s, v, z, k, d, A, hh.length, c⟩, hh, ?_, ⟨⟨hd, v0, v1, z0, z1, k0, k1, by unfold maxLen at hlen; exact hlen⟩, rfl, hin, hs⟩⟩
  have hsplit : cs = (cs.drop 0).take 1 ++ ((cs.drop 1).take 1 ++ ((cs.drop 2).take 1 ++ ((cs.drop 3).take 1 ++ ((cs.drop 4).take 32 ++ (cs.drop 36).take 1)))) := by
    have a5 : (cs.drop 36).take 1 = cs.drop 36 := List.take_of_length_le (by rw [List.length_drop]; omega)
    have st : ∀ n k, (cs.drop n).take k ++ cs.drop (n + k) = cs.drop n := fun n k => by rw [← List.drop_drop, List.take_append_drop]
    rw [a5, st 4 32, st 3 1, st 2 1, st 1 1, st 0 1, List.drop_zero]
  rw [hsplit, e0, e1, e2, e3, e4, e5]
  simp [Man.cells]
theorem Arg.manifest {v : Value} (h : Arg enc Tryd.prog W 29 v) : ∃ m hs, v = m.val ∧ ManIn m hs W := by
  obtain ⟨cs, rfl, hl, _⟩ := h.struct_ Tryd.underlying29
  have h2 : Cel enc Tryd.prog W 29 cs := by simpa [Value.cells] using h.reads
  obtain ⟨m, hs, rfl, hm⟩ := cel_manifest h2
  exact ⟨m, hs, by simp [Man.val], hm⟩
/-- What an image's manifest is made of. -/
structure Asked where
  prod : ByteArray
  ver : Int
  ch : Int
  p : Part
def Asked.cells (a : Asked) : Array Value := #[.string a.prod, .int .u64 a.ver, .int .i64 a.ch, .slice a.p.A a.p.bs.length a.p.c]
theorem Arg.asked {v : Value} (h : Arg enc Tryd.prog W 40 v) : ∃ a : Asked, v = .agg a.cells ∧ PIn a.p W ∧ a.prod.size ≤ maxLen ∧ 0 ≤ a.ver ∧ a.ver ≤ 18446744073709551615 ∧ -9223372036854775808 ≤ a.ch ∧ a.ch ≤ 9223372036854775807 := by
  obtain ⟨cs, rfl, -, -⟩ := h.struct_ Tryd.underlying40
  have hcs : Cel enc Tryd.prog W 40 cs := by simpa [Value.cells] using h.reads
  obtain ⟨hl, hf⟩ := hcs.ones Tryd.underlying40 (by kernel_rfl) (by kernel_rfl)
  obtain ⟨c0, e0, h0⟩ := hf 0 _ rfl
  obtain ⟨c1, e1, h1⟩ := hf 1 _ rfl
  obtain ⟨c2, e2, h2⟩ := hf 2 _ rfl
  obtain ⟨c3, e3, h3⟩ := hf 3 _ rfl
  obtain ⟨s, q0, hs⟩ := Cel.string (t := 9) Tryd.underlying9 h0
  obtain ⟨v, q1, hv⟩ := Cel.int (t := 24) Tryd.underlying24 h1
  obtain ⟨k, q2, hk⟩ := Cel.int (t := 3) Tryd.underlying3 h2
  obtain ⟨p, q3, hpi⟩ := cel_bytes h3
  obtain ⟨v0, v1⟩ : 0 ≤ v ∧ v ≤ 18446744073709551615 := by
    have := hv
    simp [Lit.wf, IntKind.min, IntKind.max, IntKind.signed, IntKind.bits] at this
    exact this
  obtain ⟨k0, k1⟩ := wf_i64 hk
  have hl' : cs.length = 4 := hl
  clear h hcs hf h0 h1 h2 h3 hl hv hk
  match cs, hl' with
  | [x0, x1, x2, x3], _ =>
    simp at e0 e1 e2 e3 q0 q1 q2 q3
    refine ⟨⟨s, v, k, p⟩, ?_, hpi, hs, v0, v1, k0, k1⟩
    simp only [Asked.cells]
    rw [e0, e1, e2, e3, q0, q1, q2, q3]

end

section
variable {W w : World} {I : Nat → Option Obj} {L : List (Nat × Obj)}
set_option maxRecDepth 100000 in
set_option maxHeartbeats 1000000 in
theorem great_any (m : Man) (ok : m.Ok) (h : St W w I L) : Calls Tryd.prog 16 #[m.val] w fun e w' => e = .returned (.bool (decide (300 < m.prod.size) || decide (100 < m.n))) ∧ St W w' I L := by
  obtain ⟨G, hG⟩ : ∃ G, (decide (300 < m.prod.size) || decide (100 < m.n)) = G := ⟨_, rfl⟩
  have h1 := h.alloc (.cells m.cells 29)
  obtain ⟨d0, _, _, _, d4⟩ := man_cells ok h1 (List.mem_cons_self ..)
  have n1 := ok.n1
  have hval : m.val = .agg m.cells := rfl
  rw [hG, hval]
  generalize m.cells = mc at *
  generalize m.prod = prod at *
  generalize m.n = n at *
  have H1 := Lib.hid h1; have HG := Lib.hid hG
  clear h h1 hG hval ok
  by_cases g1 : (300 : Int) < prod.size
  · have hg : G = true := by rw [← HG.out, decide_eq_true (by omega)]; rfl
    subst hg
    clear HG
    go_enter Tryd.func16, Tryd.ntmps16
    go_wp2_with fail
    go_ret
    exact ⟨rfl, St.weaken (A := [_]) H1.out⟩
  · by_cases g2 : (100 : Int) < n
    · have hg : G = true := by rw [← HG.out, decide_eq_true (show 100 < n by omega), Bool.or_true]
      subst hg
      clear HG
      go_enter Tryd.func16, Tryd.ntmps16
      go_wp2_with fail
      go_ret
      exact ⟨rfl, St.weaken (A := [_]) H1.out⟩
    · have hg : G = false := by rw [← HG.out, decide_eq_false (by omega), decide_eq_false (by omega)]; rfl
      subst hg
      clear HG
      go_enter Tryd.func16, Tryd.ntmps16
      go_wp2_with fail
      go_ret
      exact ⟨rfl, St.weaken (A := [_]) H1.out⟩
theorem ManIn.mi {m : Man} {hs : List (List UInt8)} {W : World} (h : ManIn m hs W) (h1 : m.prod.size ≤ 300) (h2 : m.n ≤ 100) : MI m hs W (fun b => W.heap[b]?) := ⟨h.ok, h.n, h.hs, by have := h.n; omega, by omega⟩
end
end

section
set_option linter.unusedVariables false
set_option linter.unusedSimpArgs false
open Go.RowKit Go.Lib

theorem asked_facts {a : Asked} {b : Nat} {v W : World} {J : Nat → Option Obj} {L : List (Nat × Obj)} (h : St W v J L) (hm : (b, Obj.cells a.cells 40 (0, 0)) ∈ L) :
    v.cell? ⟨b, 0, none⟩ = some (.string a.prod) ∧ v.cell? ⟨b, 1, none⟩ = some (.int .u64 a.ver) ∧ v.cell? ⟨b, 2, none⟩ = some (.int .i64 a.ch) ∧ v.cell? ⟨b, 3, none⟩ = some (.slice a.p.A a.p.bs.length a.p.c) := by
  have hc := fun i => h.cell hm i
  exact ⟨hc 0, hc 1, hc 2, hc 3⟩
theorem part_conv {p : Part} {W v : World} {J : Nat → Option Obj} {L : List (Nat × Obj)} (hp : p.In W J) (h : St W v J L) : (convert 22 9 (.slice p.A p.bs.length p.c)).run Tryd.prog v = .ok (.string (pA p.bs)) v :=
  conv_str (P := Tryd.prog) Tryd.underlying22 Tryd.underlying5 Tryd.underlying9 (c := p.c) (hp _ _ h)

set_option maxRecDepth 100000 in
set_option maxHeartbeats 4000000 in
theorem walk_manifestMakes (W : World) (tabs : Tabs W) {H : Type} {enc : TypeId × Value → H} {v0 : Value} (a0 : Arg enc Tryd.prog W 40 v0) :
    Calls Tryd.prog 5 #[v0] W fun e w' => e = .returned (.bool true) ∧ Below W.heap.size W w' := by
  obtain ⟨a, rfl, ⟨hin, hcap, hcm⟩, hps, v0, v1, c0, c1⟩ := a0.asked
  have t := TB.start tabs
  have h0 := (St.start W).alloc (.cells a.cells 40)
  have kA := man_alive t h0
  obtain ⟨ba, hba⟩ : ∃ b, W.heap.size = b := ⟨_, rfl⟩
  rw [hba] at h0 kA
  have kA2 : Calls Tryd.prog 11 #[] (W.alloc (.cells a.cells 40)) fun e w' => e = .returned (.bool true) ∧ St W w' (fun b => W.heap[b]?) [(ba, .cells a.cells 40 (0, 0))] := kA
  have KA := Lib.hid kA2; have HIN := Lib.hid hin; have TT := Lib.hid t; have HBA := Lib.hid hba
  have hfacts := fun (v : World) (J : Nat → Option Obj) (L : List (Nat × Obj)) (h : St W v J L) (hm : (ba, Obj.cells a.cells 40 (0, 0)) ∈ L) => asked_facts h hm
  have FA := Lib.hid hfacts
  clear hfacts kA kA2 h0 hin t a0 tabs
  generalize hac : a.cells = ac at *
  obtain ⟨prod, ver, ch, ⟨A, c, bs⟩⟩ := a
  simp only at *
  clear hac
  go_enter Tryd.func5, Tryd.ntmps5
  go_wp2_with fail
  refine KA.out.mono ?_
  rintro e w1 ⟨rfl, h1⟩
  obtain ⟨d0, d1, d2, d3⟩ := FA.out _ _ _ h1 (by simp)
  clear hba
  have HF : Hid (Below W.heap.size W w1) := Lib.hid (h1.below (Le.refl _))
  by_cases g1 : (300 : Int) < prod.size
  · clear KA h1
    go_wp2_with fail
    go_ret
    exact ⟨rfl, HF.out⟩
  by_cases g2 : (3000 : Int) < bs.length
  · clear KA h1
    go_wp2_with fail
    go_ret
    exact ⟨rfl, HF.out⟩
  have hcv := part_conv (p := ⟨A, c, bs⟩) HIN.out h1
  simp only at hcv
  have kM := pmk TT.out prod (by omega) ver v0 v1 ch c0 c1 ⟨A, c, bs⟩ HIN.out (by simp only; omega) hcap h1
  obtain ⟨D, hD⟩ : ∃ D, mkD prod ver ch bs = D := ⟨_, rfl⟩
  simp only [hD] at kM
  have KM := Lib.hid kM; have H1 := Lib.hid h1; have HDD := Lib.hid hD
  clear kM h1 KA hD HF
  obtain ⟨sb, hsb⟩ : ∃ s, pA bs = s := ⟨_, rfl⟩
  rw [hsb] at hcv
  have HSB := Lib.hid hsb
  clear hsb
  go_wp2_with fail
  refine KM.out.mono ?_
  rintro e w2 ⟨J1, m, hs, hle1, rfl, mi, hd, h2⟩
  have HLE1 := Lib.hid hle1; have MI1 := Lib.hid mi; have HD1 := Lib.hid hd
  clear KM hle1 hd hcv H1 d0 d1 d2 d3
  have hA := (h2).alloc (.cells zman.cells 29)
  rw [zman_lit] at hA
  obtain ⟨hmo, hmi, hfx, hsm⟩ := man_store (mi).ok
  have HA := Lib.hid hA; have HMO := Lib.hid hmo; have HMI3 := Lib.hid hmi; have HFX := Lib.hid hfx; have HSM := Lib.hid hsm
  rw [show m.val = .agg m.cells from rfl]
  clear hA hmo hmi hfx hsm 
  go_wp2_with (with_reducible refine wpList_store_st rfl 29 (.tmp 4) (.tmp 33) rfl (g := w2.heap.size) (off := 0) m.cells rfl rfl HA.out HFX.out HMI3.out HMO.out ?_; intro w3 h3; refine Hid.out ?_)
  refine Lib.hid ?_
  rw [HSM.out] at h3
  generalize w2.heap.size = b3 at *
  have H3 := Lib.hid h3
  clear HA HMO HFX HSM h3
  clear mi h2
  obtain ⟨d0, d1, d2, d3⟩ := FA.out _ _ _ H3.out (by simp)
  have kR := prmk (TT.out.more HLE1.out) prod (by omega) ver v0 v1 ch c0 c1 ⟨A, c, bs⟩ (HIN.out.mono HLE1.out) (by simp only; omega) hcap H3.out
  simp only [HDD.out] at kR
  have KR := Lib.hid kR
  clear kR H3
  go_wp2_with fail
  refine KR.out.mono ?_
  rintro e w4 ⟨J2, m2, hs2, hle2, rfl, mi2, hd2, h4⟩
  have HLE2 := Lib.hid hle2; have MI2 := Lib.hid mi2; have HD2 := Lib.hid hd2
  clear KR hle2 hd2 d0 d1 d2 d3
  have hA := (h4).alloc (.cells zman.cells 29)
  rw [zman_lit] at hA
  obtain ⟨hmo, hmi, hfx, hsm⟩ := man_store (mi2).ok
  have HA := Lib.hid hA; have HMO := Lib.hid hmo; have HMI5 := Lib.hid hmi; have HFX := Lib.hid hfx; have HSM := Lib.hid hsm
  rw [show m2.val = .agg m2.cells from rfl]
  clear hA hmo hmi hfx hsm 
  go_wp2_with (with_reducible refine wpList_store_st rfl 29 (.tmp 6) (.tmp 45) rfl (g := w4.heap.size) (off := 0) m2.cells rfl rfl HA.out HFX.out HMI5.out HMO.out ?_; intro w5 h5; refine Hid.out ?_)
  refine Lib.hid ?_
  rw [HSM.out] at h5
  generalize w4.heap.size = b5 at *
  have H5 := Lib.hid h5
  clear HA HMO HFX HSM h5
  clear mi2 h4
  obtain ⟨d0, d1, d2, d3⟩ := FA.out _ _ _ H5.out (by simp)
  have kS := prsame (MI1.out.mono HLE2.out) MI2.out H5.out
  rw [decide_eq_true (HD1.out.trans HD2.out.symm), show m.val = .agg m.cells from rfl, show m2.val = .agg m2.cells from rfl] at kS
  have KS := Lib.hid kS
  clear kS
  go_wp2_with (first
    | (refine wpList_load_g (by rfl) 29 (.tmp 4) rfl (g := b3) (off := 0) rfl H5.out (cs := m.cells) (t := 29) (fr := (0, 0)) (by simp) m.cells (fun j hj => by rw [Nat.zero_add]) _ Tryd.underlying29 rfl HMI3.out ?_)
    | (refine wpList_load_g (by rfl) 29 (.tmp 6) rfl (g := b5) (off := 0) rfl H5.out (cs := m2.cells) (t := 29) (fr := (0, 0)) (by simp) m2.cells (fun j hj => by rw [Nat.zero_add]) _ Tryd.underlying29 rfl HMI5.out ?_))
  refine KS.out.mono ?_
  rintro e w6 ⟨rfl, h6⟩
  obtain ⟨e0, e1, e2, e3⟩ := FA.out _ _ _ h6 (by simp)
  have hcv := part_conv (p := ⟨A, c, bs⟩) ((HIN.out.mono HLE1.out).mono HLE2.out) h6
  simp only [HSB.out] at hcv
  have HF : Hid (Below W.heap.size W w6) := Lib.hid (h6.below (HLE1.out.trans HLE2.out))
  clear h6 KS H5 d0 d1 d2 d3
  go_wp2_with fail
  go_ret
  exact ⟨by first | rfl | simp, HF.out⟩
end
end Go.Proofs.YtfbffmckmchbbaaDoor
