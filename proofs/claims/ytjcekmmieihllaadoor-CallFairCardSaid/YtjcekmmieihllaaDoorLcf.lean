/- CallFair: the walk of the law. -/
import Derived.Test.YtjcekmmieihllaaDoorFairP
namespace Go.Proofs.YtjcekmmieihllaaDoor
set_option linter.unusedVariables false
set_option linter.unusedSimpArgs false
set_option linter.unnecessarySimpa false
open Go.RowKit Go.Lib

def seenC (bs : List Bool) : Array Value := (bs.map Value.bool ++ List.replicate (8 - bs.length) (Value.bool false)).toArray
theorem seenC_get {bs : List Bool} {i : Nat} {b : Bool} (h : bs[i]? = some b) : (seenC bs)[i]? = some (.bool b) := by
  have hl := (List.getElem?_eq_some_iff.1 h).1
  unfold seenC
  rw [List.getElem?_toArray, List.getElem?_append_left (by rw [List.length_map]; exact hl), List.getElem?_map, h]
  rfl
theorem seenC_set {bs : List Bool} {i : Nat} (h : i < bs.length) : (seenC bs).setIfInBounds i (.bool true) = seenC (bs.set i true) := by
  unfold seenC
  apply Array.toList_inj.1
  rw [Array.toList_setIfInBounds]
  show (bs.map Value.bool ++ _).set i _ = _
  rw [List.set_append_left _ _ (by rw [List.length_map]; exact h), List.length_set, List.map_set]
theorem seenC_zero (m : Nat) (h : m ≤ 8) : seenC (List.replicate m false) = #[.bool false, .bool false, .bool false, .bool false, .bool false, .bool false, .bool false, .bool false] := by
  rcases (by omega : m = 0 ∨ m = 1 ∨ m = 2 ∨ m = 3 ∨ m = 4 ∨ m = 5 ∨ m = 6 ∨ m = 7 ∨ m = 8) with rfl | rfl | rfl | rfl | rfl | rfl | rfl | rfl | rfl <;> rfl
theorem fair_next0 (k m : Nat) (h : k < m) : nextD (fairD 0 (List.replicate k true ++ List.replicate (m - k) false)) 0 = (fairD 0 (List.replicate (k + 1) true ++ List.replicate (m - (k + 1)) false), ((k : Int) + 1, nC (k : Int) 3 0, true)) := by
  have hw : waitD (fairD 0 (List.replicate k true ++ List.replicate (m - k) false)) = m - k := by rw [fairD_wait, freeN_two]
  have hf := fairD_first k 0 (List.replicate (m - (k + 1)) false)
  have e1 : List.replicate (m - k) false = false :: List.replicate (m - (k + 1)) false := by rw [← List.replicate_succ]; congr 1; omega
  have e2 : List.replicate (k + 1) true ++ List.replicate (m - (k + 1)) false = List.replicate k true ++ true :: List.replicate (m - (k + 1)) false := by
    rw [List.replicate_succ' (n := k)]
    simp
  unfold nextD
  rw [if_neg (by rw [hw]; omega), hw, show (max (0 : Int) 0).toNat = 0 from rfl, Nat.zero_mod, e1, hf, e2, Nat.zero_add]
theorem fair_next (bs : List Bool) (p : Int) (h : 0 < freeN bs) : ∃ i, bs[i]? = some false ∧ nextD (fairD 0 bs) p = (fairD 0 (bs.set i true), (((i : Nat) : Int) + 1, nC ((i : Nat) : Int) 3 0, true)) := by
  have hw := fairD_wait 0 bs
  obtain ⟨i, h1, h2⟩ := fairD_pick 0 bs ((max p 0).toNat % freeN bs) (Nat.mod_lt _ h)
  refine ⟨i, h1, ?_⟩
  unfold nextD
  rw [if_neg (by rw [hw]; omega), hw, h2, Nat.zero_add]
theorem fair_none (bs : List Bool) (h : freeN bs = 0) : nextD (fairD 0 bs) 0 = (fairD 0 bs, (0, zC, false)) := by
  unfold nextD
  rw [if_pos (by rw [fairD_wait]; exact h)]
set_option maxRecDepth 100000 in
set_option maxHeartbeats 16000000 in
theorem walk_callFair (W : World) (cv : CV0 W) {H : Type} {enc : TypeId × Value → H} {v0 v1 : Value} (a0 : Arg enc Tryd.prog W 3 v0) (a1 : Arg enc Tryd.prog W 67 v1) :
    Calls Tryd.prog 7 #[v0, v1] W fun e w' => e = .returned (.bool true) ∧ Below W.heap.size W w' := by
  obtain ⟨n, rfl, hn⟩ := a0.int Tryd.underlying3
  obtain ⟨A, pl, pc, xs, rfl, hsl⟩ := a1.slice (α := Int) (Q := fun cs x => cs = [.int .i64 x] ∧ x ≤ 9223372036854775807) (size := 1) Tryd.underlying67 (by kernel_rfl) (by decide) (fun cs h => by
    obtain ⟨x, rfl, hx⟩ := h.int Tryd.underlying3
    exact ⟨x, rfl, (wf_i64 hx).2⟩)
  have hpk : ∀ k, k < pl → ∃ b off x, A = some ⟨b, off, none⟩ ∧ roCell (fun b => W.heap[b]?) ⟨b, off + k, none⟩ = some (.int .i64 x) ∧ x ≤ 9223372036854775807 := fun k hk => by
    obtain ⟨b, off, cs, h1, h2, h3, h4, h5⟩ := hsl.at_ k _ (List.getElem?_eq_getElem (by rw [hsl.len]; exact hk))
    have h6 := h3 0 (by omega)
    rw [h4, Nat.mul_one, Nat.add_zero] at h6
    exact ⟨b, off, _, h1, h6, h5⟩
  have hpc := hsl.cap
  obtain ⟨m, hm⟩ : ∃ m : Nat, max 1 (min n 8) = (m : Int) := ⟨(max 1 (min n 8)).toNat, by omega⟩
  have m1 : 1 ≤ m := by omega
  have m8 : m ≤ 8 := by omega
  have h0 := St.start W
  have kA := call_alive cv (fun J k => cv.more k) h0
  have kN := fun (v : World) (F : List (Nat × Obj)) (hv : St W v (fun b => W.heap[b]?) F) => desk_new n m hm hv
  have kK := fun (k : Nat) (hk : k < 10) (v : World) (gd gc : Nat) (F : List (Nat × Obj)) (hv : St W v (fun b => W.heap[b]?) (DeskL gd gc (askL k m) ((min k m : Nat) : Int) ++ F)) => desk_ask cv.t cv.t4 (askL_ok k m m8) (by rw [askL_len]; exact m8) (by omega) (by omega) (nC (k : Int) 3 0) (nC_ok _ _ _ (by omega) (by decide) (by decide)) (by show empB.size ≤ 1000000; decide) hv
  have KA := Lib.hid kA; have KN := Lib.hid kN; have KK := Lib.hid kK; have HPK := Lib.hid hpk; have CVV := Lib.hid cv
  clear kA kN kK hpk h0 cv a0 a1 hsl hn
  go_enter Tryd.func7, Tryd.ntmps7
  go_wp2_with fail
  refine KA.out.mono ?_
  rintro e w1 ⟨rfl, h1⟩
  have hf : Below W.heap.size W w1 := h1.below (Le.refl _)
  have H1 := Lib.hid h1; have HF := Lib.hid hf
  clear h1 hf KA
  by_cases g1 : 20 < pl
  · have g1' : (20 : Int) < (pl : Int) := by omega
    clear g1
    go_wp2_with fail
    go_ret
    exact ⟨rfl, HF.out⟩
  have g1' : ¬ ((20 : Int) < (pl : Int)) := by omega
  clear HF
  go_wp2_with fail
  refine (KN.out _ _ H1.out).mono ?_
  rintro e w2 ⟨gd, gc, rfl, h2⟩
  have H2 := Lib.hid h2
  clear h2 H1
  go_wp2_with fail
  refine (KN.out _ _ H2.out).mono ?_
  rintro e w3 ⟨ge, gf, rfl, h3⟩
  have h4 : St W w3 (fun b => W.heap[b]?) (DeskL gd gc (askL 0 m) ((min 0 m : Nat) : Int) ++ (DeskL ge gf (askL 0 m) ((min 0 m : Nat) : Int) ++ [])) := by
    rw [askL_zero]
    unfold DeskL
    rw [List.length_replicate, Nat.zero_min]
    exact St.swap (A := [_, _]) (B := [_, _]) (F := []) h3
  have H4 := Lib.hid h4
  clear h3 h4 H2 KN
  go_wp2_with fail
  go_loopw [8] (fun i wr => ∃ k : Nat, i = .int .i64 k ∧ k ≤ 10 ∧ St W wr (fun b => W.heap[b]?) (DeskL gd gc (askL k m) ((min k m : Nat) : Int) ++ (DeskL ge gf (askL k m) ((min k m : Nat) : Int) ++ []))) (fun i _ => 10 - (intOf i).toNat)
  case atStart => exact ⟨0, rfl, by omega, H4.out⟩
  case round =>
    obtain ⟨k, rfl, hk, hst⟩ := hrel
    clear H4
    by_cases hlt : k < 10
    · have hltI : (k : Int) < 10 := by omega
      obtain ⟨an, ae, hask, ha1, ha2⟩ := fair_ask k m m8 (by omega)
      have kk : ∀ (v : World) (gd gc : Nat) (F : List (Nat × Obj)), St W v (fun b => W.heap[b]?) (DeskL gd gc (askL k m) ((min k m : Nat) : Int) ++ F) → Calls Tryd.prog 17 #[.pointer (some ⟨gd, 0, none⟩), .agg #[Value.int .i64 (k : Nat), .int .i64 3, .int .i64 0, .int .i64 0, .string ⟨#[]⟩]] v fun e w' => e = .returned (.tuple #[.int .i64 an, .int .i64 ae]) ∧ St W w' (fun b => W.heap[b]?) (DeskL gd gc (askL (k + 1) m) ((min (k + 1) m : Nat) : Int) ++ F) := fun v gd gc F hv => by
        have h := KK.out k hlt v gd gc F hv
        rw [hask] at h
        exact h
      have K2 := Lib.hid kk; have H5 := Lib.hid hst
      clear kk hst hask
      go_wp2_with fail
      refine (K2.out _ _ _ _ H5.out).mono ?_
      rintro e u1 ⟨rfl, h6⟩
      have H6 := Lib.hid h6.swap
      clear h6 H5
      go_wp2_with fail
      refine (K2.out _ _ _ _ H6.out).mono ?_
      rintro e u2 ⟨rfl, h7⟩
      have H7 := Lib.hid h7.swap
      clear h7 H6 K2
      have h9 : ∃ k' : Nat, Value.int .i64 ((k : Int) + 1) = .int .i64 k' ∧ k' ≤ 10 ∧ St W u2 (fun b => W.heap[b]?) (DeskL gd gc (askL k' m) ((min k' m : Nat) : Int) ++ (DeskL ge gf (askL k' m) ((min k' m : Nat) : Int) ++ [])) := ⟨k + 1, rfl, by omega, H7.out⟩
      have H9 := Lib.hid h9
      clear h9 H7
      by_cases hkm : k < m
      · have hkmI : (k : Int) < (m : Int) := by omega
        obtain rfl := ha1 hkm
        clear ha1 ha2 hkm
        go_wp2_with fail
        exact ⟨H9.out, by simp [intOf]; omega⟩
      · have hkmI : ¬ ((k : Int) < (m : Int)) := by omega
        have hae : (ae == 0) = false := beq_eq_false_iff_ne.2 (ha2 hkm)
        have hae2 : (ae == ae) = true := beq_self_eq_true _
        clear ha1 ha2 hkm
        go_wp2_with fail
        exact ⟨H9.out, by simp [intOf]; omega⟩
    · have hk10 : k = 10 := by omega
      rw [show min k m = m by omega, askL_all k m (by omega)] at hst
      obtain ⟨K, hK⟩ : ∃ K : Int, (k : Int) = K := ⟨_, rfl⟩
      have hK10 : ¬ K < 10 := by omega
      rw [hK]
      clear hK hk10 hlt hk
      have h6 := hst.alloc (.cells #[.bool false, .bool false, .bool false, .bool false, .bool false, .bool false, .bool false, .bool false] 70)
      obtain ⟨n13, hn13⟩ : ∃ x, wr.heap.size = x := ⟨_, rfl⟩
      rw [hn13, ← seenC_zero m m8] at h6
      have h7 : St W (wr.alloc (.cells #[.bool false, .bool false, .bool false, .bool false, .bool false, .bool false, .bool false, .bool false] 70)) (fun b => W.heap[b]?) (DeskL gd gc (fairD 0 (List.replicate 0 true ++ List.replicate (m - 0) false)) (m : Int) ++ (DeskL ge gf (fairD 0 (List.replicate m false)) (m : Int) ++ [(n13, .cells (seenC (List.replicate m false)) 70 (0, 0))])) := by
        rw [seenC_zero m m8] at h6 ⊢
        exact h6.perm (List.perm_append_comm (l₁ := [_]) (l₂ := DeskL gd gc (fairD 0 (List.replicate m false)) (m : Int) ++ (DeskL ge gf (fairD 0 (List.replicate m false)) (m : Int) ++ [])))
      have H7 := Lib.hid h7
      clear hst h6 h7 KK
      go_wp2_with fail
      go_loopw [14] (fun i wr => ∃ (k : Nat) (bs : List Bool), i = .int .i64 k ∧ k ≤ m ∧ bs.length = m ∧ freeN bs + k = m ∧ St W wr (fun b => W.heap[b]?) (DeskL gd gc (fairD 0 (List.replicate k true ++ List.replicate (m - k) false)) (m : Int) ++ (DeskL ge gf (fairD 0 bs) (m : Int) ++ [(n13, .cells (seenC bs) 70 (0, 0))]))) (fun i _ => m - (intOf i).toNat)
      case atStart => exact ⟨0, List.replicate m false, rfl, by omega, List.length_replicate, by rw [freeN_rep]; omega, H7.out⟩
      case round =>
        obtain ⟨k, bs, rfl, hk, hbl, hfr, hst⟩ := hrel
        clear H7
        have okd : AllOk (fairD 0 (List.replicate k true ++ List.replicate (m - k) false)) := fairD_ok 0 _ (by simp; omega)
        have okx : AllOk (fairD 0 bs) := fairD_ok 0 _ (by rw [hbl]; omega)
        have ld : (fairD 0 (List.replicate k true ++ List.replicate (m - k) false)).length = m := by rw [fairD_len]; simp; omega
        have lx : (fairD 0 bs).length = m := by rw [fairD_len, hbl]
        by_cases hlt : k < m
        · have hltI : (k : Int) < (m : Int) := by omega
          have kD : ∀ (v : World) (F : List (Nat × Obj)), St W v (fun b => W.heap[b]?) (DeskL gd gc (fairD 0 (List.replicate k true ++ List.replicate (m - k) false)) (m : Int) ++ F) → Calls Tryd.prog 19 #[.pointer (some ⟨gd, 0, none⟩), .int .i64 0] v fun e w' => e = .returned (.tuple #[.int .i64 ((k : Int) + 1), .agg #[Value.int .i64 (k : Nat), .int .i64 3, .int .i64 0, .int .i64 0, .string ⟨#[]⟩], .bool true]) ∧ St W w' (fun b => W.heap[b]?) (DeskL gd gc (fairD 0 (List.replicate (k + 1) true ++ List.replicate (m - (k + 1)) false)) (m : Int) ++ F) := fun v F hv => by
            have h := desk_next okd (by rw [ld]; exact m8) 0 (by decide) hv
            rw [fair_next0 k m hlt] at h
            exact h
          have KD := Lib.hid kD; have H5 := Lib.hid hst; have OKX := Lib.hid okx; have LX := Lib.hid lx; have HBL := Lib.hid hbl; have HFR := Lib.hid hfr
          clear kD hst okd okx ld lx hbl hfr
          go_wp2_with fail
          refine (KD.out _ _ H5.out).mono ?_
          rintro e u1 ⟨rfl, h6⟩
          have h7 := h6.alloc (.cells #[Value.int .i64 (k : Nat), .int .i64 3, .int .i64 0, .int .i64 0, .string ⟨#[]⟩] 23)
          obtain ⟨n16, hn16⟩ : ∃ x, u1.heap.size = x := ⟨_, rfl⟩
          rw [hn16] at h7
          have e16 := h7.cell (g := n16) (cs := #[Value.int .i64 (k : Nat), .int .i64 3, .int .i64 0, .int .i64 0, .string ⟨#[]⟩]) (t := 23) (fr := (0, 0)) (by simp) 0
          simp at e16
          have hkk : (!((k : Int) == (k : Int))) = false := by simp
          have h8 : St W (u1.alloc (.cells #[Value.int .i64 (k : Nat), .int .i64 3, .int .i64 0, .int .i64 0, .string ⟨#[]⟩] 23)) (fun b => W.heap[b]?) (DeskL ge gf (fairD 0 bs) (m : Int) ++ (((n16, Obj.cells #[Value.int .i64 (k : Nat), .int .i64 3, .int .i64 0, .int .i64 0, .string ⟨#[]⟩] 23 (0, 0)) :: DeskL gd gc (fairD 0 (List.replicate (k + 1) true ++ List.replicate (m - (k + 1)) false)) (m : Int)) ++ [(n13, .cells (seenC bs) 70 (0, 0))])) := St.swap (A := (n16, Obj.cells #[Value.int .i64 (k : Nat), .int .i64 3, .int .i64 0, .int .i64 0, .string ⟨#[]⟩] 23 (0, 0)) :: DeskL gd gc (fairD 0 (List.replicate (k + 1) true ++ List.replicate (m - (k + 1)) false)) (m : Int)) h7
          have H8 := Lib.hid h8
          clear h6 h7 h8 H5 KD
          by_cases hpl : k < pl
          · have hplI : (k : Int) < (pl : Int) := by omega
            obtain ⟨pb, po, px, rfl, hpr, hpx⟩ := HPK.out k hpl
            have q1 := H8.out.ro hpr
            clear hpr
            obtain ⟨j, hj, hnx⟩ := fair_next bs px (by have := HFR.out; omega)
            have hjm : j < m := by have := (List.getElem?_eq_some_iff.1 hj).1; rw [HBL.out] at this; exact this
            have kX : ∀ (v : World) (F : List (Nat × Obj)), St W v (fun b => W.heap[b]?) (DeskL ge gf (fairD 0 bs) (m : Int) ++ F) → Calls Tryd.prog 19 #[.pointer (some ⟨ge, 0, none⟩), .int .i64 px] v fun e w' => e = .returned (.tuple #[.int .i64 ((j : Int) + 1), .agg #[Value.int .i64 (j : Nat), .int .i64 3, .int .i64 0, .int .i64 0, .string ⟨#[]⟩], .bool true]) ∧ St W w' (fun b => W.heap[b]?) (DeskL ge gf (fairD 0 (bs.set j true)) (m : Int) ++ F) := fun v F hv => by
              have h := desk_next OKX.out (by rw [LX.out]; exact m8) px hpx hv
              rw [hnx] at h
              exact h
            have FZ : Hid (0 + (#[Value.int .i64 (j : Nat), .int .i64 3, .int .i64 0, .int .i64 0, .string ⟨#[]⟩]).size ≤ (#[Value.int .i64 (k : Nat), .int .i64 3, .int .i64 0, .int .i64 0, .string ⟨#[]⟩] : Array Value).size) := Lib.hid (call_fit (nC (k : Int) 3 0) (nC (j : Int) 3 0)).1
            have MZ : Hid (setMany #[Value.int .i64 (k : Nat), .int .i64 3, .int .i64 0, .int .i64 0, .string ⟨#[]⟩] 0 (#[Value.int .i64 (j : Nat), .int .i64 3, .int .i64 0, .int .i64 0, .string ⟨#[]⟩] : Array Value).toList = #[Value.int .i64 (j : Nat), .int .i64 3, .int .i64 0, .int .i64 0, .string ⟨#[]⟩]) := Lib.hid (call_fit (nC (k : Int) 3 0) (nC (j : Int) 3 0)).2
            have IZ : Hid ((Tryd.prog.info? 23).map (·.size) = some (#[Value.int .i64 (j : Nat), .int .i64 3, .int .i64 0, .int .i64 0, .string ⟨#[]⟩] : Array Value).size) := Lib.hid (call_info (nC (j : Int) 3 0))
            have OZ : Hid ((#[Value.int .i64 (j : Nat), .int .i64 3, .int .i64 0, .int .i64 0, .string ⟨#[]⟩] : Array Value).all (·.oneCell') = true) := Lib.hid (Cl.one (nC (j : Int) 3 0))
            have KX := Lib.hid kX; have HJ := Lib.hid hj
            clear kX hj hnx
            go_wp2_with fail
            refine (KX.out _ _ H8.out).mono ?_
            rintro e u2 ⟨rfl, h9⟩
            have h10 : St W u2 (fun b => W.heap[b]?) ((n16, Obj.cells #[Value.int .i64 (k : Nat), .int .i64 3, .int .i64 0, .int .i64 0, .string ⟨#[]⟩] 23 (0, 0)) :: (DeskL gd gc (fairD 0 (List.replicate (k + 1) true ++ List.replicate (m - (k + 1)) false)) (m : Int) ++ (DeskL ge gf (fairD 0 (bs.set j true)) (m : Int) ++ [(n13, .cells (seenC bs) 70 (0, 0))]))) := St.swap (A := DeskL ge gf (fairD 0 (bs.set j true)) (m : Int)) (B := (n16, Obj.cells #[Value.int .i64 (k : Nat), .int .i64 3, .int .i64 0, .int .i64 0, .string ⟨#[]⟩] 23 (0, 0)) :: DeskL gd gc (fairD 0 (List.replicate (k + 1) true ++ List.replicate (m - (k + 1)) false)) (m : Int)) h9
            have H10 := Lib.hid h10
            have hj0 : ¬ ((j : Int) < 0) := by omega
            have hj1 : ¬ ((m : Int) ≤ (j : Int)) := by omega
            have hj8 : (j : Int) < 8 := by omega
            have hjn8 : j < 8 := by omega
            clear h9 h10 H8 KX
            go_wp2_with (with_reducible refine wpList_store_st rfl 23 (.tmp 16) (.tmp 96) rfl (off := 0) #[Value.int .i64 (j : Nat), .int .i64 3, .int .i64 0, .int .i64 0, .string ⟨#[]⟩] rfl rfl H10.out FZ.out IZ.out OZ.out ?_; intro w9 h9; rw [MZ.out] at h9; have e0 := h9.cell (g := n16) (cs := #[Value.int .i64 (j : Nat), .int .i64 3, .int .i64 0, .int .i64 0, .string ⟨#[]⟩]) (t := 23) (fr := (0, 0)) (by simp) 0; simp at e0; have e1 := (h9.cell (g := n13) (cs := seenC bs) (t := 70) (fr := (0, 0)) (by simp) j).trans (seenC_get HJ.out); have f1 := h9.frozen (g := n13) (cs := seenC bs) (t := 70) (by simp) j; have h11 := St.set (A := (n16, Obj.cells #[Value.int .i64 (j : Nat), .int .i64 3, .int .i64 0, .int .i64 0, .string ⟨#[]⟩] 23 (0, 0)) :: (DeskL gd gc (fairD 0 (List.replicate (k + 1) true ++ List.replicate (m - (k + 1)) false)) (m : Int) ++ DeskL ge gf (fairD 0 (bs.set j true)) (m : Int))) (B := []) h9 j (.bool true); have H11 := Lib.hid h11; clear h9 h11)
            have hfs := freeN_set bs j HJ.out
            have h12 := H11.out
            rw [seenC_set (by rw [HBL.out]; exact hjm)] at h12
            refine ⟨⟨k + 1, bs.set j true, rfl, by omega, by rw [List.length_set, HBL.out], by have := HFR.out; omega, St.weaken (A := [_]) h12⟩, by simp [intOf]; omega⟩
          · have hplI : ¬ ((k : Int) < (pl : Int)) := by omega
            have hpx : (0 : Int) ≤ 9223372036854775807 := by decide
            obtain ⟨j, hj, hnx⟩ := fair_next bs 0 (by have := HFR.out; omega)
            have hjm : j < m := by have := (List.getElem?_eq_some_iff.1 hj).1; rw [HBL.out] at this; exact this
            have kX : ∀ (v : World) (F : List (Nat × Obj)), St W v (fun b => W.heap[b]?) (DeskL ge gf (fairD 0 bs) (m : Int) ++ F) → Calls Tryd.prog 19 #[.pointer (some ⟨ge, 0, none⟩), .int .i64 0] v fun e w' => e = .returned (.tuple #[.int .i64 ((j : Int) + 1), .agg #[Value.int .i64 (j : Nat), .int .i64 3, .int .i64 0, .int .i64 0, .string ⟨#[]⟩], .bool true]) ∧ St W w' (fun b => W.heap[b]?) (DeskL ge gf (fairD 0 (bs.set j true)) (m : Int) ++ F) := fun v F hv => by
              have h := desk_next OKX.out (by rw [LX.out]; exact m8) 0 hpx hv
              rw [hnx] at h
              exact h
            have FZ : Hid (0 + (#[Value.int .i64 (j : Nat), .int .i64 3, .int .i64 0, .int .i64 0, .string ⟨#[]⟩]).size ≤ (#[Value.int .i64 (k : Nat), .int .i64 3, .int .i64 0, .int .i64 0, .string ⟨#[]⟩] : Array Value).size) := Lib.hid (call_fit (nC (k : Int) 3 0) (nC (j : Int) 3 0)).1
            have MZ : Hid (setMany #[Value.int .i64 (k : Nat), .int .i64 3, .int .i64 0, .int .i64 0, .string ⟨#[]⟩] 0 (#[Value.int .i64 (j : Nat), .int .i64 3, .int .i64 0, .int .i64 0, .string ⟨#[]⟩] : Array Value).toList = #[Value.int .i64 (j : Nat), .int .i64 3, .int .i64 0, .int .i64 0, .string ⟨#[]⟩]) := Lib.hid (call_fit (nC (k : Int) 3 0) (nC (j : Int) 3 0)).2
            have IZ : Hid ((Tryd.prog.info? 23).map (·.size) = some (#[Value.int .i64 (j : Nat), .int .i64 3, .int .i64 0, .int .i64 0, .string ⟨#[]⟩] : Array Value).size) := Lib.hid (call_info (nC (j : Int) 3 0))
            have OZ : Hid ((#[Value.int .i64 (j : Nat), .int .i64 3, .int .i64 0, .int .i64 0, .string ⟨#[]⟩] : Array Value).all (·.oneCell') = true) := Lib.hid (Cl.one (nC (j : Int) 3 0))
            have KX := Lib.hid kX; have HJ := Lib.hid hj
            clear kX hj hnx
            go_wp2_with fail
            refine (KX.out _ _ H8.out).mono ?_
            rintro e u2 ⟨rfl, h9⟩
            have h10 : St W u2 (fun b => W.heap[b]?) ((n16, Obj.cells #[Value.int .i64 (k : Nat), .int .i64 3, .int .i64 0, .int .i64 0, .string ⟨#[]⟩] 23 (0, 0)) :: (DeskL gd gc (fairD 0 (List.replicate (k + 1) true ++ List.replicate (m - (k + 1)) false)) (m : Int) ++ (DeskL ge gf (fairD 0 (bs.set j true)) (m : Int) ++ [(n13, .cells (seenC bs) 70 (0, 0))]))) := St.swap (A := DeskL ge gf (fairD 0 (bs.set j true)) (m : Int)) (B := (n16, Obj.cells #[Value.int .i64 (k : Nat), .int .i64 3, .int .i64 0, .int .i64 0, .string ⟨#[]⟩] 23 (0, 0)) :: DeskL gd gc (fairD 0 (List.replicate (k + 1) true ++ List.replicate (m - (k + 1)) false)) (m : Int)) h9
            have H10 := Lib.hid h10
            have hj0 : ¬ ((j : Int) < 0) := by omega
            have hj1 : ¬ ((m : Int) ≤ (j : Int)) := by omega
            have hj8 : (j : Int) < 8 := by omega
            have hjn8 : j < 8 := by omega
            clear h9 h10 H8 KX
            go_wp2_with (with_reducible refine wpList_store_st rfl 23 (.tmp 16) (.tmp 96) rfl (off := 0) #[Value.int .i64 (j : Nat), .int .i64 3, .int .i64 0, .int .i64 0, .string ⟨#[]⟩] rfl rfl H10.out FZ.out IZ.out OZ.out ?_; intro w9 h9; rw [MZ.out] at h9; have e0 := h9.cell (g := n16) (cs := #[Value.int .i64 (j : Nat), .int .i64 3, .int .i64 0, .int .i64 0, .string ⟨#[]⟩]) (t := 23) (fr := (0, 0)) (by simp) 0; simp at e0; have e1 := (h9.cell (g := n13) (cs := seenC bs) (t := 70) (fr := (0, 0)) (by simp) j).trans (seenC_get HJ.out); have f1 := h9.frozen (g := n13) (cs := seenC bs) (t := 70) (by simp) j; have h11 := St.set (A := (n16, Obj.cells #[Value.int .i64 (j : Nat), .int .i64 3, .int .i64 0, .int .i64 0, .string ⟨#[]⟩] 23 (0, 0)) :: (DeskL gd gc (fairD 0 (List.replicate (k + 1) true ++ List.replicate (m - (k + 1)) false)) (m : Int) ++ DeskL ge gf (fairD 0 (bs.set j true)) (m : Int))) (B := []) h9 j (.bool true); have H11 := Lib.hid h11; clear h9 h11)
            have hfs := freeN_set bs j HJ.out
            have h12 := H11.out
            rw [seenC_set (by rw [HBL.out]; exact hjm)] at h12
            refine ⟨⟨k + 1, bs.set j true, rfl, by omega, by rw [List.length_set, HBL.out], by have := HFR.out; omega, St.weaken (A := [_]) h12⟩, by simp [intOf]; omega⟩
        · have hkm : k = m := by omega
          subst hkm
          have hf0 : freeN bs = 0 := by omega
          have kX : ∀ (v : World) (F : List (Nat × Obj)), St W v (fun b => W.heap[b]?) (DeskL ge gf (fairD 0 bs) (k : Int) ++ F) → Calls Tryd.prog 19 #[.pointer (some ⟨ge, 0, none⟩), .int .i64 0] v fun e w' => e = .returned (.tuple #[.int .i64 0, .agg #[Value.int .i64 0, .int .i64 0, .int .i64 0, .int .i64 0, .string ⟨#[]⟩], .bool false]) ∧ St W w' (fun b => W.heap[b]?) (DeskL ge gf (fairD 0 bs) (k : Int) ++ F) := fun v F hv => by
            have h := desk_next okx (by rw [lx]; exact m8) 0 (by decide) hv
            rw [fair_none bs hf0] at h
            exact h
          have kW := fun (v : World) (F : List (Nat × Obj)) (hv : St W v (fun b => W.heap[b]?) (DeskL ge gf (fairD 0 bs) (k : Int) ++ F)) => desk_waiting okx (by rw [lx]; exact m8) hv
          rw [fairD_wait, hf0] at kW
          have kV := fun (v : World) (F : List (Nat × Obj)) (hv : St W v (fun b => W.heap[b]?) (DeskL gd gc (fairD 0 (List.replicate k true ++ List.replicate (k - k) false)) (k : Int) ++ F)) => desk_waiting okd (by rw [ld]; exact m8) hv
          have hw0 : waitD (fairD 0 (List.replicate k true ++ List.replicate (k - k) false)) = 0 := by rw [fairD_wait, freeN_two, Nat.sub_self]
          rw [hw0] at kV
          have kE := fun (v : World) (F : List (Nat × Obj)) (hv : St W v (fun b => W.heap[b]?) (DeskL ge gf (fairD 0 bs) (k : Int) ++ F)) => desk_drop okx (by rw [lx]; exact m1) (by rw [lx]; exact m8) hv
          rw [fairD_drop, hbl] at kE
          have kG := fun (v : World) (F : List (Nat × Obj)) (hv : St W v (fun b => W.heap[b]?) (DeskL gd gc (fairD 0 (List.replicate k true ++ List.replicate (k - k) false)) (k : Int) ++ F)) => desk_drop okd (by rw [ld]; exact m1) (by rw [ld]; exact m8) hv
          rw [fairD_drop, ← fairD_len 0, ld] at kG
          have hkk : ((k : Int) == (k : Int)) = true := by simp
          have KX := Lib.hid kX; have KW := Lib.hid kW; have KV := Lib.hid kV; have KE := Lib.hid kE; have KG := Lib.hid kG
          have H5 := Lib.hid hst.swap
          clear kX kW kV kE kG hst okd okx ld lx hbl hfr
          go_wp2_with fail
          refine (KX.out _ _ H5.out).mono ?_
          rintro e u1 ⟨rfl, h6⟩
          have h7 := h6.alloc_ (.cells #[Value.int .i64 0, .int .i64 0, .int .i64 0, .int .i64 0, .string ⟨#[]⟩] 23)
          have H7 := Lib.hid h7.swap
          clear h6 h7 H5 KX
          go_wp2_with fail
          refine (KV.out _ _ H7.out).mono ?_
          rintro e u2 ⟨rfl, h8⟩
          have H8 := Lib.hid (St.swap (A := DeskL gd gc _ _) h8)
          clear h8 H7 KV
          go_wp2_with fail
          refine (KW.out _ _ H8.out).mono ?_
          rintro e u3 ⟨rfl, h9⟩
          have H9 := Lib.hid h9
          clear h9 H8 KW
          go_wp2_with fail
          refine (KE.out _ _ H9.out).mono ?_
          rintro e u4 ⟨rfl, h10⟩
          have H10 := Lib.hid h10.swap
          clear h10 H9 KE
          go_wp2_with fail
          refine (KG.out _ _ H10.out).mono ?_
          rintro e u5 ⟨rfl, h11⟩
          have HF : Hid (Below W.heap.size W u5) := Lib.hid (h11.below (Le.refl _))
          clear h11 H10 KG
          go_wp2_with fail
          go_ret
          exact ⟨rfl, HF.out⟩
end Go.Proofs.YtjcekmmieihllaaDoor
