/- The document's net: Find, right. The document's net: New. -/
import Derived.Test.YtnhlpiomfljlcaaDoorRfoN
import Derived.Test.YtnhlpiomfljlcaaDoorNtE
import Derived.Deep.RegionLaw
namespace Go.Proofs.YtnhlpiomfljlcaaDoor
section
set_option linter.unusedVariables false
set_option linter.unusedSimpArgs false
open Go.RowKit

def findFrom (nm : ByteArray) : List (ByteArray × Part) → Nat → Int
  | [], _ => -1
  | o :: os, k => if foldOf o.1 = foldOf nm then (k : Int) else findFrom nm os (k + 1)
/-- Which offer has a name. -/
def findIx (os : List (ByteArray × Part)) (nm : ByteArray) : Int := findFrom nm os 0
theorem findFrom_drop (nm : ByteArray) (os : List (ByteArray × Part)) (k : Nat) (o : ByteArray × Part) (h : os[k]? = some o) : findFrom nm (os.drop k) k = if foldOf o.1 = foldOf nm then (k : Int) else findFrom nm (os.drop (k + 1)) (k + 1) := by
  have hl := (List.getElem?_eq_some_iff.1 h).1
  have he := (List.getElem?_eq_some_iff.1 h).2
  rw [List.drop_eq_getElem_cons hl, he, findFrom]
/-- Offers that a block r leads to, whatever else happens. -/
def OffsAt (r : Nat) (A : Option Addr) (c : Nat) (os : List (ByteArray × Part)) (W : World) (I : Nat → Option Obj) (L : List (Nat × Obj)) : Prop :=
  ∀ w', St W w' I L → w'.cell? ⟨r, 0, none⟩ = some (.slice A os.length c) ∧ ∀ k o, os[k]? = some o → ∃ b off, A = some (⟨b, off, none⟩ : Addr) ∧ w'.cell? ⟨b, off + k * 2, none⟩ = some (.string o.1) ∧ w'.cell? ⟨b, off + k * 2 + 1, none⟩ = some (.slice o.2.A o.2.bs.length o.2.c)

set_option maxRecDepth 100000 in
set_option maxHeartbeats 4000000 in
theorem rfind {W w : World} {I : Nat → Option Obj} {L : List (Nat × Obj)} (t : TB W I) (r : Nat) (A : Option Addr) (c : Nat) (os : List (ByteArray × Part)) (hn : ∀ o ∈ os, o.1.size ≤ 1000000) (hl : os.length ≤ 1000000) (ha : OffsAt r A c os W I L) (nm : ByteArray) (hm : nm.size ≤ 1000000) (h : St W w I L) :
    Calls Tryd.prog 49 #[.pointer (some ⟨r, 0, none⟩), .string nm] w fun e w' => e = .returned (.int .i64 (findIx os nm)) ∧ St W w' I L := by
  obtain ⟨R, hR⟩ : ∃ R, findIx os nm = R := ⟨_, rfl⟩
  rw [hR]
  have c0 := (ha w h).1
  have H := Lib.hid h; have HA := Lib.hid ha; have HR := Lib.hid hR; have HN := Lib.hid hn
  have cN := fun (v : World) (hv : St W v I L) => rfold_any t nm (by omega) hv
  have CN := Lib.hid cN; have T := Lib.hid t
  clear h ha hR hn cN t
  go_enter Tryd.func49, Tryd.ntmps49
  go_wp2_with fail
  go_loopw [12] (fun i wr => ∃ k : Nat, i = .int .i64 k ∧ k ≤ os.length ∧ findFrom nm (os.drop k) k = R ∧ St W wr I L) (fun i _ => os.length - (intOf i).toNat)
  case atStart => exact ⟨0, rfl, by omega, HR.out, H.out⟩
  case round =>
    obtain ⟨k, rfl, hk, hrest, hst⟩ := hrel
    clear H c0
    by_cases hkl : k < os.length
    · obtain ⟨o, ho⟩ : ∃ o, os[k]? = some o := ⟨_, List.getElem?_eq_getElem hkl⟩
      obtain ⟨b, off, rfl, q0, q1⟩ := (HA.out wr hst).2 k o ho
      rw [findFrom_drop nm os k o ho] at hrest
      have hos := HN.out o (List.mem_of_getElem? ho)
      obtain ⟨onm, p⟩ := o
      simp only at q0 q1 hrest hos
      have cO := fun (v : World) (hv : St W v I L) => rfold_any T.out onm (by omega) hv
      have CO := Lib.hid cO; have HST := Lib.hid hst; have HRE := Lib.hid hrest
      generalize foldOf onm = fo at *
      generalize foldOf nm = fn at *
      clear cO hst hrest ho
      go_wp2_with fail
      refine (CO.out _ (St.alloc_ HST.out _)).mono ?_
      rintro e w1 ⟨rfl, h1⟩
      have H1 := Lib.hid h1
      clear h1 q0 q1 CO HST
      go_wp2_with fail
      refine (CN.out _ H1.out).mono ?_
      rintro e w2 ⟨rfl, h2⟩
      have H2 := Lib.hid h2
      clear h2 H1
      by_cases hfe : fo = fn
      · have hb : (fo == fn) = true := beq_iff_eq.2 hfe
        have hre := HRE.out
        rw [if_pos hfe] at hre
        subst hre
        clear hfe HRE
        go_wp2_with fail
        go_ret
        exact ⟨rfl, H2.out⟩
      · have hb : (fo == fn) = false := beq_eq_false_iff_ne.2 hfe
        have hre := HRE.out
        rw [if_neg hfe] at hre
        have HRE2 := Lib.hid hre
        clear HRE hre
        go_wp2_with fail
        refine ⟨⟨k + 1, by go_num, by omega, HRE2.out, H2.out⟩, ?_⟩
        simp [intOf]; omega
    · obtain rfl : k = os.length := by omega
      rw [List.drop_length, findFrom] at hrest
      subst hrest
      have HST := Lib.hid hst
      clear hst
      go_wp2_with fail
      go_ret
      exact ⟨rfl, HST.out⟩

theorem piece_step (bs : List UInt8) (a m : Nat) (k : Nat) (hk : a + k < bs.length) (hm : k < m) : (bs.drop a).take (k + 1) = (bs.drop a).take k ++ [bs[a + k]'hk] := by
  rw [List.take_add_one, List.getElem?_drop, List.getElem?_eq_getElem hk]
  rfl

set_option maxRecDepth 100000 in
set_option maxHeartbeats 4000000 in
theorem rright {W w : World} {I : Nat → Option Obj} {F : List (Nat × Obj)} (p : Part) (hp : POk p W I) (a m : Int) (h : St W w I F) :
    Calls Tryd.prog 74 #[p.val, .int .i64 a, .int .i64 m] w fun e w' => ∃ v, e = .returned v ∧ FreshB W w' I F (piece p.bs a m) v := by
  unfold Part.val
  have h1 := h.alloc (.cells #[] 5)
  have hr0 := Row.empty 5 1 w.heap.size
  have hl9 := hp.len
  have H1 := Lib.hid h1; have HR0 := Lib.hid hr0; have HP := Lib.hid hp
  clear h h1 hr0 hp
  go_enter Tryd.func74, Tryd.ntmps74
  by_cases ha : a < 0
  · have he : piece p.bs a m = [] := by rw [piece, if_pos (.inl ha)]
    have HE := Lib.hid he
    clear he
    go_wp2_with fail
    go_ret
    exact ⟨_, rfl, by rw [HE.out]; exact ⟨_, 0, _, rfl, HR0.out, H1.out⟩⟩
  obtain ⟨an, rfl⟩ := Int.eq_ofNat_of_zero_le (by omega : 0 ≤ a)
  go_wp2_with fail
  go_loopw [7, 8] (fun v i wr => ∃ (k : Nat) (A : Option Addr) (c : Nat) (L' : List (Nat × Obj)), v = .slice A k c ∧ i = .int .i64 ((an + k : Nat) : Int) ∧ (k = 0 ∨ (an + k ≤ p.bs.length ∧ (k : Int) ≤ m)) ∧ Row 5 1 (.slice A k c) k (((p.bs.drop an).take k).map bval) L' ∧ St W wr I (L' ++ F)) (fun _ i _ => p.bs.length - (intOf i).toNat)
  case atStart => exact ⟨0, _, 0, _, rfl, rfl, .inl rfl, HR0.out, H1.out⟩
  case round =>
    obtain ⟨k, A, c, L', rfl, rfl, hk, hrow, hst⟩ := hrel
    clear H1 HR0
    by_cases hlt : an + k < p.bs.length
    · have hlt' : ((an + k : Nat) : Int) < p.bs.length := by omega
      by_cases hkm : (k : Int) < m
      · obtain ⟨mn, rfl⟩ := Int.eq_ofNat_of_zero_le (by omega : 0 ≤ m)
        have hstep := piece_step p.bs an mn k hlt (by omega)
        have hsrc := HP.out.in_ wr _ hst
        obtain ⟨ad, hA, hcell⟩ := hsrc.2 (an + k) (bval (p.bs[an + k]'hlt)) (by rw [List.getElem?_map, List.getElem?_eq_getElem hlt]; rfl)
        have hone := Src.one wr (bval (p.bs[an + k]'hlt)) 5
        have hap := St.alloc_ hst (.cells #[bval (p.bs[an + k]'hlt)] 5)
        obtain ⟨bx, hbx⟩ : ∃ bx, p.bs[an + k]'hlt = bx := ⟨_, rfl⟩
        rw [hbx] at hstep hcell hone hap
        generalize p.A = pA at *
        subst hA
        unfold bval at hcell
        have HS := Lib.hid hstep; have HROW := Lib.hid hrow; have HONE := Lib.hid hone; have HAP := Lib.hid hap
        clear hstep hrow hst hsrc hone hap hbx hk
        have hm' : (k : Int) + 1 ≤ mn := by omega
        go_wp2_with (at_builtin; refine Hid.out ?_)
        refine Lib.hid ?_
        refine wpList_append_row0 (F := F) (L := L') rfl (.tmp 26) (.tmp 31) 27 rfl 5 (.int .u8 0) 1 1 Tryd.underlying27 (by kernel_rfl) rfl (by omega) rfl HROW.out (by exact HAP.out) rfl (by exact HONE.out) (by intro u hu; simp at hu; subst hu; rfl) (k + 1) rfl (((p.bs.drop an).take (k + 1)).map bval) (by rw [HS.out, List.map_append]; rfl) (by unfold maxLen; omega) (by omega) ?_
        intro A1 c1 w2 L1 hr1 h3 ho
        have H3 := Lib.hid h3; have HR1 := Lib.hid hr1
        clear hr1 h3 ho HROW HAP HONE HS hcell
        go_wp2_with fail
        refine ⟨⟨k + 1, A1, c1, L1, rfl, by go_num, .inr ⟨by omega, by omega⟩, HR1.out, H3.out⟩, ?_⟩
        simp [intOf]; omega
      · have hfin : piece p.bs an m = (p.bs.drop an).take k := by
          rcases hk with rfl | ⟨h1, h2⟩
          · rw [List.take_zero, piece, if_pos (.inr (.inr (by omega)))]
          · obtain rfl : m = (k : Int) := by omega
            by_cases hk0 : k = 0
            · subst hk0; rw [List.take_zero, piece, if_pos (.inr (.inr (by omega)))]
            · rw [piece, if_neg (by omega), Int.toNat_natCast, Int.toNat_natCast]
        have hkl : ((p.bs.drop an).take k).length = k := by rw [List.length_take, List.length_drop]; omega
        have HF := Lib.hid hfin; have HROW := Lib.hid hrow; have HST := Lib.hid hst; have HKL := Lib.hid hkl
        clear hfin hrow hst hkl
        go_wp2_with fail
        go_ret
        exact ⟨_, rfl, by rw [HF.out]; exact ⟨A, c, L', by rw [HKL.out]; rfl, by rw [HKL.out]; exact HROW.out, HST.out⟩⟩
    · have hlt' : ¬ ((an + k : Nat) : Int) < p.bs.length := by omega
      have hfin : piece p.bs an m = (p.bs.drop an).take k := by
        by_cases hc : (an : Int) < 0 ∨ (p.bs.length : Int) ≤ an ∨ m < 1
        · rw [piece, if_pos hc]
          have : k = 0 ∨ p.bs.length ≤ an := by omega
          rcases this with rfl | h
          · simp
          · rw [List.drop_eq_nil_of_le h]; simp
        · rw [piece, if_neg hc, Int.toNat_natCast]
          rcases hk with rfl | ⟨h1, h2⟩
          · omega
          · rw [List.take_of_length_le (by rw [List.length_drop]; omega), List.take_of_length_le (by rw [List.length_drop]; omega)]
      have hkl : ((p.bs.drop an).take k).length = k := by
        rcases hk with rfl | ⟨h1, h2⟩
        · simp
        · rw [List.length_take, List.length_drop]; omega
      have HF := Lib.hid hfin; have HROW := Lib.hid hrow; have HST := Lib.hid hst; have HKL := Lib.hid hkl
      clear hfin hrow hst hkl
      go_wp2_with fail
      go_ret
      exact ⟨_, rfl, by rw [HF.out]; exact ⟨A, c, L', by rw [HKL.out]; rfl, by rw [HKL.out]; exact HROW.out, HST.out⟩⟩
end

section
set_option linter.unusedVariables false
set_option linter.unusedSimpArgs false
open Go.RowKit

/-- AS ONE STEP of a region that draws its order. -/
theorem step_append_row {P : Program} {W w : World} {I : Nat → Option Obj} {F L : List (Nat × Obj)} {ops : Array Oper} {o : Oper} {a : Act} {K : Act → World → Prop} {Q : Exit → Act → World → Prop} {E : Prop} (hgd : o.guard = none) (s x : Operand) (t : TypeId)
    (ho : o.op = .call { callee := .builtin .append, args := #[s, x], argTypes := #[t, t] })
    (e : TypeId) (z : Value) (size bytes : Nat) (ht : P.underlying t = some (.slice e)) (hi : (P.info? e).map (fun i => (i.zero, i.size, i.bytes)) = some (some z, size, bytes)) (hzs : z.cells.size = size) (hsz : 0 < size)
    {v : Value} {n : Nat} {xs : List Value} (hs : a.eval s = v) (hrow : Row e size v n xs L) (hst : St W w I (L ++ F)) {A : Option Addr} {m c : Nat} {news : List Value} (hx : a.eval x = .slice A m c) (hsrc : Src w size A m news) (h1 : ∀ u ∈ news, u.oneCell' = true)
    (k : Nat) (hk : n + m = k) (ys : List Value) (hys : xs ++ news = ys) (h63 : k ≤ maxLen) (hbytes : k * bytes ≤ 140737488355328)
    (h : ∀ A' c' w' L', Row e size (.slice A' k c') k ys L' → St W w' I (L' ++ F) → K (a.put o.dst (.slice A' k c')) w') :
    if Region.wanted o (yielded ops a.tmps) = true then Oper.wp P o a w K Q else E := by
  have hw : Region.wanted o (yielded ops a.tmps) = true := by simp [Region.wanted, hgd]
  rw [if_pos hw]
  subst hk
  subst hys
  obtain ⟨v', w', L', hr, h2, h3⟩ := run_append_row (P := P) t o.type e z size bytes ht hi hzs hsz hrow hst (c := c) hsrc h1 h63 hbytes
  unfold Oper.wp execOp
  simp only [ho, resolve, invoke, builtin, Sem.run_bind, Sem.run_pure, Result.andThen_ok, List.map_toArray, List.map_cons, List.map_nil, hs, hx, hr]
  obtain ⟨A', c', rfl⟩ := h2.shape
  exact h A' c' w' L' h2 h3

/-- Offers, as they lie in memory. -/
def ocell (o : ByteArray × Part) : List Value := [.string o.1, .slice o.2.A o.2.bs.length o.2.c]
def oall (os : List (ByteArray × Part)) : List Value := os.flatMap ocell
theorem oall_add (l : List (ByteArray × Part)) (o : ByteArray × Part) : oall (l ++ [o]) = oall l ++ ocell o := by simp [oall]
theorem oall_get : ∀ (l : List (ByteArray × Part)) (k j : Nat) (o : ByteArray × Part), l[k]? = some o → j < 2 → (oall l)[k * 2 + j]? = (ocell o)[j]?
  | [], k, j, o, h, _ => by simp at h
  | q :: l, 0, j, o, h, hj => by
    simp at h
    subst h
    simp only [oall, List.flatMap_cons, Nat.zero_mul, Nat.zero_add]
    rw [List.getElem?_append_left (by simp [ocell]; omega)]
  | q :: l, k + 1, j, o, h, hj => by
    simp only [oall, List.flatMap_cons]
    rw [List.getElem?_append_right (by simp [ocell]; omega), show (k + 1) * 2 + j - (ocell q).length = k * 2 + j by simp [ocell]; omega]
    exact oall_get l k j o (by simpa using h) hj
def addR (acc : List (ByteArray × Part)) (o : ByteArray × Part) : List (ByteArray × Part) := if nameOk o.1 && decide (findIx acc o.1 < 0) then acc ++ [o] else acc
def rOffs (os : List (ByteArray × Part)) : List (ByteArray × Part) := os.foldl addR []
theorem rOffs_take (os : List (ByteArray × Part)) (k : Nat) (o : ByteArray × Part) (h : os[k]? = some o) : rOffs (os.take (k + 1)) = addR (rOffs (os.take k)) o := by
  unfold rOffs
  rw [List.take_add_one, h]
  simp
theorem foldl_sub (l : List (ByteArray × Part)) : ∀ (acc : List (ByteArray × Part)), ∀ x ∈ l.foldl addR acc, x ∈ acc ∨ x ∈ l := by
  induction l with
  | nil => intro acc x h; exact .inl h
  | cons o l ih =>
    intro acc x h
    simp only [List.foldl_cons] at h
    rcases ih _ x h with h | h
    · unfold addR at h
      split at h
      · rcases List.mem_append.1 h with h | h
        · exact .inl h
        · simp at h; subst h; exact .inr (by simp)
      · exact .inl h
    · exact .inr (by simp [h])
theorem rOffs_sub (os : List (ByteArray × Part)) (x) (h : x ∈ rOffs os) : x ∈ os := by
  rcases foldl_sub os [] x h with h | h
  · cases h
  · exact h
theorem foldl_len (l : List (ByteArray × Part)) : ∀ (acc : List (ByteArray × Part)), (l.foldl addR acc).length ≤ acc.length + l.length := by
  induction l with
  | nil => intro acc; simp
  | cons o l ih =>
    intro acc
    simp only [List.foldl_cons, List.length_cons]
    have h1 := ih (addR acc o)
    have h2 : (addR acc o).length ≤ acc.length + 1 := by unfold addR; split <;> simp
    omega
theorem rOffs_len (os : List (ByteArray × Part)) : (rOffs os).length ≤ os.length := by have := foldl_len os []; simpa [rOffs] using this

def rcells (A0 : Option Addr) (n0 c0 : Nat) (A1 : Option Addr) (n1 c1 : Nat) (cnt : Nat) : Array Value := #[.slice A0 n0 c0, .slice A1 n1 c1, .int .i64 cnt]
section
variable {W w : World} {I : Nat → Option Obj} {X : List (Nat × Obj)}
theorem offsAt_of_row {r : Nat} {A0 : Option Addr} {c0 : Nat} {ros : List (ByteArray × Part)} {L0 : List (Nat × Obj)} {A1 : Option Addr} {n1 c1 cnt : Nat} (hr : Row 57 2 (.slice A0 ros.length c0) ros.length (oall ros) L0)
    (h1 : (r, Obj.cells (rcells A0 ros.length c0 A1 n1 c1 cnt) 90 (0, 0)) ∈ X) (h2 : ∀ p ∈ L0, p ∈ X) : OffsAt r A0 c0 ros W I X := by
  intro w' hst
  refine ⟨hst.cell h1 0, fun k o hk => ?_⟩
  have hkl := (List.getElem?_eq_some_iff.1 hk).1
  have key : ∀ j, j < 2 → ∃ g off cur, A0 = some (⟨g, off, none⟩ : Addr) ∧ (g, Obj.cells cur 57 (0, 0)) ∈ X ∧ cur[off + (k * 2 + j)]? = (ocell o)[j]? := fun j hj => by
    have h3 := oall_get ros k j o hk hj
    have hjl : j < (ocell o).length := by simp [ocell]; omega
    rw [List.getElem?_eq_getElem hjl] at h3
    obtain ⟨g, off, cap, cur, hv, hL, hc⟩ := hr.cells h3
    injection hv with hv1 hv2 hv3
    exact ⟨g, off, cur, hv1, h2 _ (by rw [hL]; simp), by rw [hc, List.getElem?_eq_getElem hjl]⟩
  obtain ⟨g, off, cur, hA, hm, h30⟩ := key 0 (by omega)
  obtain ⟨g', off', cur', hA', hm', h31⟩ := key 1 (by omega)
  rw [hA] at hA'
  injection hA' with hA'
  injection hA' with e1 e2
  subst e1; subst e2
  have hcc : cur = cur' := by
    have a1 := hst.own _ hm
    have a2 := hst.own _ hm'
    rw [a1] at a2
    injection a2 with a2
    injection a2
  subst hcc
  exact ⟨g, off, hA, by rw [hst.cell hm]; exact h30, by rw [Nat.add_assoc, hst.cell hm]; exact h31⟩
end

set_option maxRecDepth 100000 in
set_option maxHeartbeats 4000000 in
theorem rnew {W w : World} {I : Nat → Option Obj} {F : List (Nat × Obj)} (t : TB W I) (A : Option Addr) (c : Nat) (os : List (ByteArray × Part)) (ho : OffIn A os W I) (hn : os.length ≤ 100000) (FA : Option Addr) (fc : Nat) (fs : List Fault) (hf : FIn FA fs W I) (hfn : fs.length ≤ 1000000) (h : St W w I F) :
    Calls Tryd.prog 24 #[.slice A os.length c, .slice FA fs.length fc] w fun e w' => ∃ r A0 c0 L0 A1 c1 L1, e = .returned (.pointer (some ⟨r, 0, none⟩)) ∧ Row 57 2 (.slice A0 (rOffs os).length c0) (rOffs os).length (oall (rOffs os)) L0 ∧ Row 102 3 (.slice A1 fs.length c1) fs.length (fall fs) L1 ∧
      St W w' I ((r, .cells (rcells A0 (rOffs os).length c0 A1 fs.length c1 0) 90 (0, 0)) :: (L0 ++ (L1 ++ F))) := by
  have h1 := h.alloc (.cells #[] 102)
  have hsrc := hf _ _ h1
  have hone := fall_one fs
  have H1 := Lib.hid h1; have HSRC := Lib.hid hsrc; have HONE := Lib.hid hone; have HO := Lib.hid ho; have T := Lib.hid t
  clear h h1 hsrc hone hf ho t
  go_enter Tryd.func24, Tryd.ntmps24
  go_wp2_with (at_builtin; refine Hid.out ?_)
  refine Lib.hid ?_
  refine wpList_append_row0 (F := F) (L := [(w.heap.size, .cells #[] 102 (0, 0))]) rfl (.tmp 8) (.tmp 9) 64 rfl 102 (.agg #[.int .i64 0, .int .i64 0, .int .u8 0]) 3 24 Tryd.underlying64 (by kernel_rfl) rfl (by omega) rfl (Row.empty 102 3 w.heap.size) (by exact H1.out) rfl (by exact HSRC.out) HONE.out fs.length (by omega) (fall fs) rfl (by unfold maxLen; omega) (by omega) ?_
  intro A1 c1 w1 L1 hr1 h2 ho1
  obtain ⟨r, hr⟩ : ∃ r, r = w1.heap.size := ⟨_, rfl⟩
  have h3 := h2.alloc (.cells (rcells none 0 0 A1 fs.length c1 0) 90)
  rw [← hr] at h3
  have H3 := Lib.hid h3; have HR1 := Lib.hid hr1
  clear h2 h3 ho1 HSRC HONE hr1
  go_wp2_with fail
  rw [← hr]
  clear hr
  go_loopw [15] (fun i wr => ∃ (k : Nat) (A0 : Option Addr) (c0 : Nat) (L0 : List (Nat × Obj)), i = .int .i64 k ∧ k ≤ os.length ∧ Row 57 2 (.slice A0 (rOffs (os.take k)).length c0) (rOffs (os.take k)).length (oall (rOffs (os.take k))) L0 ∧ St W wr I ((r, .cells (rcells A0 (rOffs (os.take k)).length c0 A1 fs.length c1 0) 90 (0, 0)) :: (L0 ++ (L1 ++ F)))) (fun i _ => os.length - (intOf i).toNat)
  case atStart => exact ⟨0, none, 0, [], rfl, by omega, Row.nil _ _, H3.out⟩
  case round =>
    obtain ⟨k, A0, c0, L0, rfl, hk, hrow, hst⟩ := hrel
    clear H3
    by_cases hkl : k < os.length
    · obtain ⟨o, hok⟩ : ∃ o, os[k]? = some o := ⟨_, List.getElem?_eq_getElem hkl⟩
      obtain ⟨b, off, rfl, r0, r1⟩ := HO.out.at_ k o hok
      have hnext := rOffs_take os k o hok
      have hsub := rOffs_sub (os.take k)
      have hrl := rOffs_len (os.take k)
      have hnm := HO.out.name
      have hom := List.mem_of_getElem? hok
      generalize rOffs (os.take k) = ros at *
      have hrn : ∀ x ∈ ros, x.1.size ≤ 1000000 := fun x hx => hnm x (List.mem_of_mem_take (hsub x hx))
      have hrl2 : ros.length ≤ 100000 := by have : (os.take k).length ≤ k := by simp; omega
                                            omega
      have hosz := hnm o hom
      have q0 := hst.ro r0
      have q1 := hst.ro r1
      obtain ⟨onm, p⟩ := o
      unfold Part.val at q1
      simp only at q0 q1 hosz
      unfold addR at hnext
      simp only at hnext
      obtain ⟨b7, hb7⟩ : ∃ b7, b7 = wr.heap.size := ⟨_, rfl⟩
      have h5 := hst.alloc (.cells #[.string onm, .slice p.A p.bs.length p.c] 57)
      rw [← hb7] at h5
      have hat : OffsAt r A0 c0 ros W I ((b7, .cells #[.string onm, .slice p.A p.bs.length p.c] 57 (0, 0)) :: (r, .cells (rcells A0 ros.length c0 A1 fs.length c1 0) 90 (0, 0)) :: (L0 ++ (L1 ++ F))) := offsAt_of_row (A1 := A1) (n1 := fs.length) (c1 := c1) (cnt := 0) hrow (by simp) (fun q hq => by simp [hq])
      have facts : ∀ (v : World), St W v I ((b7, .cells #[.string onm, .slice p.A p.bs.length p.c] 57 (0, 0)) :: (r, .cells (rcells A0 ros.length c0 A1 fs.length c1 0) 90 (0, 0)) :: (L0 ++ (L1 ++ F))) → v.cell? ⟨b7, 0, none⟩ = some (.string onm) ∧ v.cell? ⟨b7, 1, none⟩ = some (.slice p.A p.bs.length p.c) ∧ v.cell? ⟨r, 0, none⟩ = some (.slice A0 ros.length c0) ∧ v.frozen? ⟨r, 0, none⟩ = false := fun v hv =>
        ⟨hv.cell (g := b7) (cs := #[.string onm, .slice p.A p.bs.length p.c]) (t := 57) (fr := (0, 0)) (by simp) 0, hv.cell (g := b7) (cs := #[.string onm, .slice p.A p.bs.length p.c]) (t := 57) (fr := (0, 0)) (by simp) 1,
         hv.cell (g := r) (cs := rcells A0 ros.length c0 A1 fs.length c1 0) (t := 90) (fr := (0, 0)) (by simp) 0, hv.frozen (g := r) (cs := rcells A0 ros.length c0 A1 fs.length c1 0) (t := 90) (by simp) 0⟩
      have cN := fun (v : World) hv => rname_any (w := v) (L := (b7, .cells #[.string onm, .slice p.A p.bs.length p.c] 57 (0, 0)) :: (r, .cells (rcells A0 ros.length c0 A1 fs.length c1 0) 90 (0, 0)) :: (L0 ++ (L1 ++ F))) T.out onm (by omega) hv
      have cF := fun (v : World) hv => rfind (w := v) T.out r A0 c0 ros hrn (by omega) hat onm hosz hv
      have CN := Lib.hid cN; have CF := Lib.hid cF; have FACTS := Lib.hid facts; have H5 := Lib.hid h5; have HNX := Lib.hid hnext; have HROW := Lib.hid hrow
      clear cN cF facts h5 hnext hrow hst hat r0 r1 hsub hnm hrn hom hok
      go_wp2_with fail
      rw [← hb7]
      clear hb7
      refine (CN.out _ H5.out).mono ?_
      rintro e w2 ⟨rfl, h6⟩
      obtain ⟨d0, d1, d2, _⟩ := FACTS.out _ h6
      have H6 := Lib.hid h6
      clear h6 H5 CN
      cases hok : nameOk onm with
      | false =>
        have hN := HNX.out
        rw [hok] at hN
        have HN := Lib.hid (show rOffs (os.take (k + 1)) = ros from hN)
        clear hN hok
        go_wp2_with fail
        go_roundw
        case rel => exact ⟨k + 1, A0, c0, L0, by go_num, by omega, by rw [HN.out]; exact HROW.out, by rw [HN.out]; exact St.weaken (A := [_]) H6.out⟩
        case measure => simp [intOf]; omega
      | true =>
        go_wp2_with fail
        refine (CF.out _ H6.out).mono ?_
        rintro e w3 ⟨rfl, h7⟩
        obtain ⟨e0, e1, e2, e3⟩ := FACTS.out _ h7
        have H7 := Lib.hid h7
        clear h7 H6 CF d0 d1 d2 q0 q1
        by_cases hfx : findIx ros onm < 0
        · have hN := HNX.out
          rw [hok] at hN
          have HN := Lib.hid (show rOffs (os.take (k + 1)) = ros ++ [(onm, p)] by rw [hN]; simp [hfx])
          clear hN hok
          have hperm : ∀ v, St W v I ((b7, .cells #[.string onm, .slice p.A p.bs.length p.c] 57 (0, 0)) :: (r, .cells (rcells A0 ros.length c0 A1 fs.length c1 0) 90 (0, 0)) :: (L0 ++ (L1 ++ F))) → St W v I (L0 ++ ((b7, .cells #[.string onm, .slice p.A p.bs.length p.c] 57 (0, 0)) :: (r, .cells (rcells A0 ros.length c0 A1 fs.length c1 0) 90 (0, 0)) :: (L1 ++ F))) := fun v hv => St.swap (A := [_, _]) hv
          have HPM := Lib.hid hperm
          have e2d : ∀ o, ((w3.alloc o).drew).cell? ⟨r, 0, none⟩ = some (.slice A0 ros.length c0) := fun o => cell_old e2
          have e2a : ∀ o, (w3.alloc o).cell? ⟨r, 0, none⟩ = some (.slice A0 ros.length c0) := fun o => cell_old e2
          have e0d : w3.drew.cell? ⟨b7, 0, none⟩ = some (.string onm) := e0
          have e1d : w3.drew.cell? ⟨b7, 1, none⟩ = some (.slice p.A p.bs.length p.c) := e1
          have e2e : w3.drew.cell? ⟨r, 0, none⟩ = some (.slice A0 ros.length c0) := e2
          clear hperm
          go_wp2_with fail
          go_region_law (first
            | (refine step_append_row (F := (b7, .cells #[.string onm, .slice p.A p.bs.length p.c] 57 (0, 0)) :: (r, .cells (rcells A0 ros.length c0 A1 fs.length c1 0) 90 (0, 0)) :: (L1 ++ F)) rfl (.tmp 34) (.tmp 36) _ rfl 57 (.agg #[.string ⟨#[]⟩, .slice none 0 0]) 2 40 Tryd.underlying58 (by kernel_rfl) rfl (by omega) rfl HROW.out (St.alloc_ (HPM.out _ H7.out).drew1 _) rfl (Src.newS _ 2 #[.string onm, .slice p.A p.bs.length p.c] 57 (by simp) 1 rfl) (by intro u hu; simp at hu; rcases hu with rfl | rfl <;> rfl) (ros.length + 1) rfl (oall (ros ++ [(onm, p)])) (by rw [oall_add]; rfl) (by unfold maxLen; omega) (by omega) ?_; intro A5 c5 w5 L5 hr5 h5; have g0 : w5.cell? ⟨r, 0, none⟩ = some (.slice A0 ros.length c0) := h5.cell (g := r) (cs := rcells A0 ros.length c0 A1 fs.length c1 0) (t := 90) (fr := (0, 0)) (by simp) 0; have g1 : w5.frozen? ⟨r, 0, none⟩ = false := h5.frozen (g := r) (cs := rcells A0 ros.length c0 A1 fs.length c1 0) (t := 90) (by simp) 0))
          all_goals
            have h8 := St.set (A := L5 ++ [(b7, _)]) (g := r) (cs := rcells A0 ros.length c0 A1 fs.length c1 0) (t := 90) (fr := (0, 0)) (B := L1 ++ F) (by simpa using h5) 0 (.slice A5 (ros.length + 1) c5)
            have h9 : St W (w5.setCell ⟨r, 0, none⟩ (.slice A5 (ros.length + 1) c5)) I ((r, .cells (rcells A5 (ros.length + 1) c5 A1 fs.length c1 0) 90 (0, 0)) :: (L5 ++ (L1 ++ F))) := by
              have h10 := St.mid (A := L5) (B := [(b7, .cells #[.string onm, .slice p.A p.bs.length p.c] 57 (0, 0))]) (F := (r, .cells (rcells A5 (ros.length + 1) c5 A1 fs.length c1 0) 90 (0, 0)) :: (L1 ++ F)) (by simpa [rcells] using h8)
              exact h10.perm List.perm_middle
            have H9 := Lib.hid h9; have HR5 := Lib.hid hr5
            clear h8 h9 hr5 h5 g0 g1 HROW HPM
            go_wp2_with fail
            refine ⟨⟨k + 1, A5, c5, L5, by go_num, by omega, by rw [HN.out, List.length_append]; exact HR5.out, by rw [HN.out, List.length_append]; exact H9.out⟩, ?_⟩
            simp [intOf]; omega
        · have hN := HNX.out
          rw [hok] at hN
          have HN := Lib.hid (show rOffs (os.take (k + 1)) = ros by rw [hN]; simp [hfx])
          clear hN hok
          go_wp2_with fail
          go_roundw
          case rel => exact ⟨k + 1, A0, c0, L0, by go_num, by omega, by rw [HN.out]; exact HROW.out, by rw [HN.out]; exact St.weaken (A := [_]) H7.out⟩
          case measure => simp [intOf]; omega
    · obtain rfl : k = os.length := by omega
      rw [List.take_length] at hrow hst
      have HROW := Lib.hid hrow; have HST := Lib.hid hst
      clear hrow hst
      go_wp2_with fail
      go_ret
      exact ⟨r, A0, c0, L0, A1, c1, L1, rfl, HROW.out, HR1.out, HST.out⟩
end
end Go.Proofs.YtnhlpiomfljlcaaDoor
