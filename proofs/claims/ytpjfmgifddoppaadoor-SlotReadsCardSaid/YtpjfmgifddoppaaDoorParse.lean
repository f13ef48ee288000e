/- digest: Parse. -/
import Derived.Test.YtpjfmgifddoppaaDoorHaB
import Derived.Test.YtpjfmgifddoppaaDoorTxA
import Derived.Test.YtpjfmgifddoppaaDoorShelf
import Derived.Laws.Externs
import Derived.Lib.Bytealg
import Derived.Deep.QuietTactic
import Derived.BigQuiet
namespace Go.Proofs.YtpjfmgifddoppaaDoor
set_option linter.unusedVariables false
set_option linter.unusedSimpArgs false
open Go.RowKit

/-- Which digit a sign is; -1: none. -/
def dig (c : UInt8) : Int := firstIdx ⟨#[48, 49, 50, 51, 52, 53, 54, 55, 56, 57, 97, 98, 99, 100, 101, 102]⟩ c
theorem dig_facts (c : UInt8) : -1 ≤ dig c ∧ dig c ≤ 15 ∧ (0 ≤ dig c → hexd (dig c).toNat = c) := by
  have h : ∀ n, n < 256 → -1 ≤ dig (UInt8.ofNat n) ∧ dig (UInt8.ofNat n) ≤ 15 ∧ (0 ≤ dig (UInt8.ofNat n) → hexd (dig (UInt8.ofNat n)).toNat = UInt8.ofNat n) := by decide +kernel
  have := h c.toNat c.toNat_lt
  rwa [UInt8.ofNat_toNat] at this
theorem dig_hexd (n : Nat) (h : n < 16) : dig (hexd n) = (n : Int) := by
  have h2 : ∀ n, n < 16 → dig (hexd n) = (n : Int) := by decide +kernel
  exact h2 n h

def pbyte (l : List UInt8) (i : Nat) : UInt8 := UInt8.ofNat (16 * dig (l.getD (2 * i) 0) + dig (l.getD (2 * i + 1) 0)).toNat
def pdig (l : List UInt8) (i : Nat) : Prop := 0 ≤ dig (l.getD (2 * i) 0) ∧ 0 ≤ dig (l.getD (2 * i + 1) 0)
instance (l : List UInt8) (i : Nat) : Decidable (pdig l i) := by unfold pdig; infer_instance
def pgood (l : List UInt8) : Bool := decide (l.length = 64) && (List.range 32).all fun i => decide (pdig l i)
theorem pgood_iff (l : List UInt8) : pgood l = true ↔ l.length = 64 ∧ ∀ i, i < 32 → pdig l i := by
  simp [pgood]
def pbytes (l : List UInt8) (k : Nat) : List UInt8 := (List.range k).map (pbyte l)
def zeros32 : List UInt8 := List.replicate 32 0
def pOut (l : List UInt8) : List UInt8 := if pgood l = true then pbytes l 32 else zeros32
theorem pOut_len (l : List UInt8) : (pOut l).length = 32 := by
  unfold pOut
  split <;> simp [pbytes, zeros32]
theorem pOut_no (l : List UInt8) (h : pgood l = false) : pOut l = zeros32 := by rw [pOut, h]; rfl
theorem zeros_cells : bcells zeros32 = bpart [] := by kernel_rfl

theorem results_row_tmp {P : Program} {fn : Func} {p q : Tmp} {ty : TypeId} (h : fn.results = #[.cell p ty, .tmp q]) (tmps : Array Value) (w : World) (g : Nat) (t : TypeId) (cs : Array Value) (fr : Nat × Nat) (d : TypeDesc) (v : Value)
    (hp : tmps.getD p undef = .pointer (some ⟨g, 0, none⟩)) (hq : tmps.getD q undef = v) (hg : w.heap[g]? = some (.cells cs t fr))
    (hu : P.underlying ty = some d) (hd : (match d with | .struct _ | .array _ _ => true | _ => false) = true) (hi : (P.info? ty).map (·.size) = some cs.size) :
    (results fn tmps).run P w = .ok (.tuple #[.agg cs, v]) w := by
  have hp' : tmps[p]?.getD undef = .pointer (some ⟨g, 0, none⟩) := by simpa using hp
  have hq' : tmps[q]?.getD undef = v := by simpa using hq
  simp [results, h, hp', hq', asAddr, run_loadVar_row w g t ty cs fr d hg hu hd hi]

theorem ixLow (b : UInt8) (w : World) : Calls Tryd.prog 88 #[.string ⟨#[48, 49, 50, 51, 52, 53, 54, 55, 56, 57, 97, 98, 99, 100, 101, 102]⟩, .int .u8 (b.toNat : Int)] w fun e w' => e = .returned (.int .i64 (dig b)) ∧ w = w' := by
  have h := Tryd.strings_IndexByte ⟨#[48, 49, 50, 51, 52, 53, 54, 55, 56, 57, 97, 98, 99, 100, 101, 102]⟩ (b.toNat : Int) w
  rw [show (b.toNat : Int).toNat.toUInt8 = b by simp, ← Lib.firstIdx_eq] at h
  exact h.mono fun e w' ⟨he, hw⟩ => ⟨he, hw.symm⟩

theorem ix_str (s : ByteArray) (i : Nat) (h : i < s.data.toList.length) (w : World) : (Instr.index 9 (.string s) (.int .i64 (i : Int))).run Tryd.prog w = .ok (.int .u8 ((s.data.toList.getD i 0).toNat : Int)) w := by
  have h3 : (0 : Int) ≤ i := by omega
  have hs : i < s.size := by simpa using h
  have h4 : (if (0 : Int) ≤ (i : Int) then s[((i : Int)).toNat]? else none) = some (s.data.toList.getD i 0) := by
    rw [if_pos h3, Int.toNat_natCast, getElem?_pos s i hs, List.getD_eq_getElem?_getD, List.getElem?_eq_getElem h]
    rfl
  simp only [Instr.index, asIntOf, Sem.run_bind, Sem.run_pure, Result.andThen_ok, run_underlying Tryd.underlying9, h4]

/-- What Parse leaves. -/
def ParsePost (W : World) (I : Nat → Option Obj) (l : List UInt8) (F : List (Nat × Obj)) (e : Ending) (w' : World) : Prop :=
  e = .returned (.tuple #[.agg (bcells (pOut l)), .bool (pgood l)]) ∧ St W w' I F

theorem zero_all : (bpart []).all (·.oneCell') = true := bpart_one []

set_option maxRecDepth 100000 in
set_option maxHeartbeats 1000000 in
theorem parse_any {W w : World} {I : Nat → Option Obj} {F : List (Nat × Obj)} (s : ByteArray) (hs : s.size ≤ 9223372036854775807) (hst : St W w I F) :
    Calls Tryd.prog 77 #[.string s] w (ParsePost W I s.data.toList F) := by
  have hsz : s.size = s.data.toList.length := by simp
  have h1 : St W ((w.alloc (.cells (bpart []) 24)).alloc (.cells (bpart []) 24)) I ((w.heap.size + 1, .cells (bpart []) 24 (0, 0)) :: (w.heap.size, .cells (bpart []) 24 (0, 0)) :: F) := by
    have := (hst.alloc (.cells (bpart []) 24)).alloc (.cells (bpart []) 24)
    rwa [World.size_alloc] at this
  rw [zero32_cells] at h1
  have z0 : (bpart []).size = 32 := bpart_size _ (by simp)
  have i0 : (Tryd.prog.info? 24).map (·.size) = some (bpart []).size := by rw [z0]; kernel_rfl
  have o0 := zero_all
  have f0 : 0 + (bpart []).size ≤ (bpart []).size := by omega
  have ew0 : setMany (bpart []) 0 (bpart []).toList = bpart [] := by rw [setMany_whole _ _ (by simp)]
  have y0 : ∀ j, j < (bpart []).size → (bpart [])[0 + j]? = (bpart [])[j]? := fun j _ => by rw [Nat.zero_add]
  clear hst
  by_cases h64 : s.size = 64
  · have hl : s.data.toList.length = 64 := by omega
    have hix := fun i (h : i < 64) => ix_str s i (by omega)
    have hgd := pgood_iff s.data.toList
    have hpo : pgood s.data.toList = true → pOut s.data.toList = pbytes s.data.toList 32 := fun h => by rw [pOut, if_pos h]
    have hpn : pgood s.data.toList = false → pOut s.data.toList = zeros32 := pOut_no _
    have h1' : St W ((w.alloc (.cells #[.int .u8 0, .int .u8 0, .int .u8 0, .int .u8 0, .int .u8 0, .int .u8 0, .int .u8 0, .int .u8 0, .int .u8 0, .int .u8 0, .int .u8 0, .int .u8 0, .int .u8 0, .int .u8 0, .int .u8 0, .int .u8 0, .int .u8 0, .int .u8 0, .int .u8 0, .int .u8 0, .int .u8 0, .int .u8 0, .int .u8 0, .int .u8 0, .int .u8 0, .int .u8 0, .int .u8 0, .int .u8 0, .int .u8 0, .int .u8 0, .int .u8 0, .int .u8 0] 24)).alloc (.cells #[.int .u8 0, .int .u8 0, .int .u8 0, .int .u8 0, .int .u8 0, .int .u8 0, .int .u8 0, .int .u8 0, .int .u8 0, .int .u8 0, .int .u8 0, .int .u8 0, .int .u8 0, .int .u8 0, .int .u8 0, .int .u8 0, .int .u8 0, .int .u8 0, .int .u8 0, .int .u8 0, .int .u8 0, .int .u8 0, .int .u8 0, .int .u8 0, .int .u8 0, .int .u8 0, .int .u8 0, .int .u8 0, .int .u8 0, .int .u8 0, .int .u8 0, .int .u8 0] 24)) I ((w.heap.size + 1, .cells (bpart (pbytes s.data.toList 0)) 24 (0, 0)) :: (w.heap.size, .cells (bpart []) 24 (0, 0)) :: F) := by
      have e : pbytes s.data.toList 0 = [] := rfl
      rw [e, zero32_cells]
      exact h1
    generalize s.data.toList = l at *
    have EW := Lib.hid ew0; have Y0 := Lib.hid y0; have I0 := Lib.hid i0; have O0 := Lib.hid o0; have F0 := Lib.hid f0; have Z0 := Lib.hid z0
    have HIX := Lib.hid hix; have HGD := Lib.hid hgd; have HPO := Lib.hid hpo; have HPN := Lib.hid hpn; have HL := Lib.hid hl; have H1 := Lib.hid h1'
    have h64i : (s.size : Int) = 64 := by omega
    clear z0 ew0 y0 i0 o0 f0 h1 hix hgd hpo hpn hl hsz h64 h1'
    go_enter Tryd.func77, Tryd.ntmps77
    go_wp2_with fail
    have h2 := H1.out
    have hr0 : w.heap.size = w.heap.size := rfl
    clear hr0 H1
    go_loopw [12] (fun i wr => ∃ k : Nat, k ≤ 32 ∧ i = .int .i64 k ∧ (∀ j, j < k → pdig l j) ∧ St W wr I ((w.heap.size + 1, .cells (bpart (pbytes l k)) 24 (0, 0)) :: (w.heap.size, .cells (bpart []) 24 (0, 0)) :: F)) (fun i _ => 32 - (intOf i).toNat)
    case atStart => exact ⟨0, by omega, rfl, fun j hj => by omega, h2⟩
    case round =>
      obtain ⟨k, hk, rfl, hall, hst⟩ := hrel
      clear h2
      by_cases hlt : k < 32
      · have i1 := HIX.out (2 * k) (by omega)
        have i2 := HIX.out (2 * k + 1) (by omega)
        have hpb : ∀ k, pbytes l (k + 1) = pbytes l k ++ [pbyte l k] := fun k => by simp [pbytes, List.range_succ]
        have hpd : pdig l k ↔ 0 ≤ dig (l.getD (2 * k) 0) ∧ 0 ≤ dig (l.getD (2 * k + 1) 0) := Iff.rfl
        have hpv : ((pbyte l k).toNat : Int) = (16 * dig (l.getD (2 * k) 0) + dig (l.getD (2 * k + 1) 0)).toNat % 256 := by unfold pbyte; simp
        have e1 : ((2 * k : Nat) : Int) = 2 * (k : Int) := by omega
        have e2 : ((2 * k + 1 : Nat) : Int) = 2 * (k : Int) + 1 := by omega
        rw [e1] at i1
        rw [e2] at i2
        obtain ⟨a1, a2, _⟩ := dig_facts (l.getD (2 * k) 0)
        obtain ⟨b1, b2, _⟩ := dig_facts (l.getD (2 * k + 1) 0)
        have c1 := ixLow (l.getD (2 * k) 0)
        have c2 := ixLow (l.getD (2 * k + 1) 0)
        generalize l.getD (2 * k) 0 = x at *
        generalize l.getD (2 * k + 1) 0 = y at *
        generalize dig x = da at *
        generalize dig y = db at *
        have C1 := Lib.hid c1; have C2 := Lib.hid c2; have HPB := Lib.hid hpb; have HPD := Lib.hid hpd; have HPV := Lib.hid hpv; have HALL := Lib.hid hall; have HST := Lib.hid hst
        clear c1 c2 hpb hpd hpv e1 e2 hall
        have s1 : IntKind.i64.wrap (2 * (k : Int)) = 2 * (k : Int) := IntWalk.i64_in _ (by omega)
        have s2 : IntKind.i64.wrap (2 * (k : Int) + 1) = 2 * (k : Int) + 1 := IntWalk.i64_in _ (by omega)
        clear hst
        go_wp2_with fail
        go_quiet (first | (go_at_call 88; exact quiet_left (C1.out _)) | (go_at_call 88; exact quiet_left (C2.out _)))
        clear s1 s2 i1 i2
        have hsn : ∀ v : Int, v = ((pbyte l k).toNat : Int) → St W ((wr.drewN nq).setCell ⟨w.heap.size + 1, k, none⟩ (.int .u8 v)) I ((w.heap.size + 1, .cells (bpart (pbytes l (k + 1))) 24 (0, 0)) :: (w.heap.size, .cells (bpart []) 24 (0, 0)) :: F) := by
          rintro v rfl
          have hpl : (pbytes l k).length = k := by simp [pbytes]
          have e := bpart_push (pbytes l k) (pbyte l k) (by rw [hpl]; exact hlt)
          rw [← HPB.out, hpl] at e
          rw [← e]
          exact St.set (A := []) (HST.out.drew nq) k _
        obtain ⟨v0, hv0⟩ := bpart_has (pbytes l k) (by simp [pbytes]; omega) k hlt
        have q := (HST.out.drew nq).cell (g := w.heap.size + 1) (cs := bpart (pbytes l k)) (t := 24) (fr := (0, 0)) (by simp) k
        rw [hv0] at q
        have f := (HST.out.drew nq).frozen (g := w.heap.size + 1) (cs := bpart (pbytes l k)) (t := 24) (by simp) k
        have HSN := Lib.hid hsn
        have hd := HST.out.drew nq
        clear hsn hv0 HST
        generalize wr.drewN nq = w4 at *
        by_cases hab : 0 ≤ da ∧ 0 ≤ db
        · obtain ⟨ha, hb⟩ := hab
          have ha' : decide (da < 0) = false := by simp; omega
          have hb' : decide (db < 0) = false := by simp; omega
          clear hd
          go_wp2_with fail
          go_roundw
          case rel =>
            refine ⟨k + 1, by omega, by go_num, ?_, HSN.out _ ?_⟩
            · intro j hj
              by_cases hjk : j < k
              · exact HALL.out j hjk
              · obtain rfl : j = k := by omega
                exact HPD.out.2 ⟨ha, hb⟩
            · rw [HPV.out]; omega
          case measure => simp [intOf]; omega
        · have hng : pgood l = false := by
            rw [← Bool.not_eq_true, HGD.out]
            rintro ⟨_, h⟩
            exact hab (HPD.out.1 (h k hlt))
          have hpo := HPN.out hng
          have HG := Lib.hid hng; have HP := Lib.hid hpo
          have hs' := St.swap (A := [(w.heap.size + 1, _)]) (B := [(w.heap.size, _)]) hd
          have HS' := Lib.hid hs'
          clear hng hpo hs' hd q f HSN
          by_cases ha : da < 0
          · have ha' : decide (da < 0) = true := by simpa using ha
            clear hab
            go_wp2_with (with_reducible refine wpList_store_st rfl 24 (.tmp 2) (.tmp 32) rfl (g := w.heap.size) (off := 0) #[.int .u8 0, .int .u8 0, .int .u8 0, .int .u8 0, .int .u8 0, .int .u8 0, .int .u8 0, .int .u8 0, .int .u8 0, .int .u8 0, .int .u8 0, .int .u8 0, .int .u8 0, .int .u8 0, .int .u8 0, .int .u8 0, .int .u8 0, .int .u8 0, .int .u8 0, .int .u8 0, .int .u8 0, .int .u8 0, .int .u8 0, .int .u8 0, .int .u8 0, .int .u8 0, .int .u8 0, .int .u8 0, .int .u8 0, .int .u8 0, .int .u8 0, .int .u8 0] rfl rfl HS'.out (by rw [← zero32_cells]; exact F0.out) (by rw [← zero32_cells]; exact I0.out) (by rw [← zero32_cells]; exact O0.out) ?_; intro w9 h9)
            have h10 : St W w9 I ((w.heap.size, .cells (bpart []) 24 (0, 0)) :: (w.heap.size + 1, .cells (bpart (pbytes l k)) 24 (0, 0)) :: F) := by
              rw [← EW.out]
              exact h9
            clear h9 HS'
            refine bodyPost_ret (results_row_tmp rfl _ w9 w.heap.size 24 (bpart []) (0, 0) _ (.bool false) rfl rfl (h10.own (w.heap.size, .cells (bpart []) 24 (0, 0)) (by simp)) Tryd.underlying24 (by kernel_rfl) I0.out) rfl ?_
            refine ⟨?_, h10.weaken (A := [_, _])⟩
            rw [HP.out, HG.out, zeros_cells]
          · have ha' : decide (da < 0) = false := by simp; omega
            have hb' : decide (db < 0) = true := by simp; omega
            clear hab
            go_wp2_with (with_reducible refine wpList_store_st rfl 24 (.tmp 2) (.tmp 32) rfl (g := w.heap.size) (off := 0) #[.int .u8 0, .int .u8 0, .int .u8 0, .int .u8 0, .int .u8 0, .int .u8 0, .int .u8 0, .int .u8 0, .int .u8 0, .int .u8 0, .int .u8 0, .int .u8 0, .int .u8 0, .int .u8 0, .int .u8 0, .int .u8 0, .int .u8 0, .int .u8 0, .int .u8 0, .int .u8 0, .int .u8 0, .int .u8 0, .int .u8 0, .int .u8 0, .int .u8 0, .int .u8 0, .int .u8 0, .int .u8 0, .int .u8 0, .int .u8 0, .int .u8 0, .int .u8 0] rfl rfl HS'.out (by rw [← zero32_cells]; exact F0.out) (by rw [← zero32_cells]; exact I0.out) (by rw [← zero32_cells]; exact O0.out) ?_; intro w9 h9)
            have h10 : St W w9 I ((w.heap.size, .cells (bpart []) 24 (0, 0)) :: (w.heap.size + 1, .cells (bpart (pbytes l k)) 24 (0, 0)) :: F) := by
              rw [← EW.out]
              exact h9
            clear h9 HS'
            refine bodyPost_ret (results_row_tmp rfl _ w9 w.heap.size 24 (bpart []) (0, 0) _ (.bool false) rfl rfl (h10.own (w.heap.size, .cells (bpart []) 24 (0, 0)) (by simp)) Tryd.underlying24 (by kernel_rfl) I0.out) rfl ?_
            refine ⟨?_, h10.weaken (A := [_, _])⟩
            rw [HP.out, HG.out, zeros_cells]
      · obtain rfl : k = 32 := by omega
        have hgy : pgood l = true := HGD.out.2 ⟨HL.out, hall⟩
        have hpy := HPO.out hgy
        have hpl : (pbytes l 32).length = 32 := by simp [pbytes]
        have HG := Lib.hid hgy; have HP := Lib.hid hpy
        have hs' := St.swap (A := [(w.heap.size + 1, _)]) (B := [(w.heap.size, _)]) hst
        have z1 : (bpart (pbytes l 32)).size = 32 := bpart_size _ (by omega)
        have o1 := bpart_one (pbytes l 32)
        have hcb : bcells (pbytes l 32) = bpart (pbytes l 32) := by
          unfold bpart bcells
          rw [hpl]
          simp
        have HCB := Lib.hid hcb
        clear hgy hpy hpl hcb hall
        generalize bpart (pbytes l 32) = CS at *
        have i1 : (Tryd.prog.info? 24).map (·.size) = some CS.size := by rw [z1]; kernel_rfl
        have y1 : ∀ j, j < CS.size → CS[0 + j]? = CS[j]? := fun j _ => by rw [Nat.zero_add]
        have f1 : 0 + CS.size ≤ (bpart []).size := by rw [Z0.out, z1]; omega
        have ew : setMany (bpart []) 0 CS.toList = CS := by rw [setMany_whole _ _ (by simp [Z0.out, z1])]
        have hp : (w.heap.size + 1, Obj.cells CS 24 (0, 0)) ∈ (w.heap.size + 1, Obj.cells CS 24 (0, 0)) :: (w.heap.size, Obj.cells (bpart []) 24 (0, 0)) :: F := by simp
        have EW1 := Lib.hid ew
        clear ew z1 hlt hk
        generalize bpart [] = C0 at *
        go_wp2_with (first
          | (with_reducible refine wpList_load_st rfl 24 (.tmp 4) rfl (g := w.heap.size + 1) (off := 0) rfl hst hp CS y1 _ Tryd.underlying24 rfl i1 ?_)
          | (with_reducible refine wpList_store_st rfl 24 (.tmp 2) (.tmp 41) rfl (g := w.heap.size) (off := 0) CS rfl rfl hs' f1 i1 o1 ?_; intro w9 h9))
        rw [EW1.out] at h9
        clear hst hs' hp
        go_wp2_with fail
        refine bodyPost_ret (results_row_tmp rfl _ w9 w.heap.size 24 CS (0, 0) _ (.bool true) rfl rfl (h9.own (w.heap.size, .cells CS 24 (0, 0)) (by simp)) Tryd.underlying24 (by kernel_rfl) i1) rfl ?_
        refine ⟨?_, h9.weaken (A := [_, _])⟩
        rw [HP.out, HG.out, HCB.out]
  · have hng : pgood s.data.toList = false := by
      rw [← Bool.not_eq_true, pgood_iff]
      rintro ⟨h, _⟩
      exact h64 (hsz.trans h)
    have hpo := pOut_no _ hng
    rw [zero32_cells] at z0 i0 o0 f0 ew0 y0
    have EW := Lib.hid ew0; have HG := Lib.hid hng; have HP := Lib.hid hpo; have Y0 := Lib.hid y0; have I0 := Lib.hid i0; have O0 := Lib.hid o0; have F0 := Lib.hid f0
    have h64i : ¬ ((s.size : Int) = 64) := by omega
    have hp : (w.heap.size + 1, Obj.cells #[.int .u8 0, .int .u8 0, .int .u8 0, .int .u8 0, .int .u8 0, .int .u8 0, .int .u8 0, .int .u8 0, .int .u8 0, .int .u8 0, .int .u8 0, .int .u8 0, .int .u8 0, .int .u8 0, .int .u8 0, .int .u8 0, .int .u8 0, .int .u8 0, .int .u8 0, .int .u8 0, .int .u8 0, .int .u8 0, .int .u8 0, .int .u8 0, .int .u8 0, .int .u8 0, .int .u8 0, .int .u8 0, .int .u8 0, .int .u8 0, .int .u8 0, .int .u8 0] 24 (0, 0)) ∈ (w.heap.size + 1, Obj.cells #[.int .u8 0, .int .u8 0, .int .u8 0, .int .u8 0, .int .u8 0, .int .u8 0, .int .u8 0, .int .u8 0, .int .u8 0, .int .u8 0, .int .u8 0, .int .u8 0, .int .u8 0, .int .u8 0, .int .u8 0, .int .u8 0, .int .u8 0, .int .u8 0, .int .u8 0, .int .u8 0, .int .u8 0, .int .u8 0, .int .u8 0, .int .u8 0, .int .u8 0, .int .u8 0, .int .u8 0, .int .u8 0, .int .u8 0, .int .u8 0, .int .u8 0, .int .u8 0] 24 (0, 0)) :: (w.heap.size, Obj.cells #[.int .u8 0, .int .u8 0, .int .u8 0, .int .u8 0, .int .u8 0, .int .u8 0, .int .u8 0, .int .u8 0, .int .u8 0, .int .u8 0, .int .u8 0, .int .u8 0, .int .u8 0, .int .u8 0, .int .u8 0, .int .u8 0, .int .u8 0, .int .u8 0, .int .u8 0, .int .u8 0, .int .u8 0, .int .u8 0, .int .u8 0, .int .u8 0, .int .u8 0, .int .u8 0, .int .u8 0, .int .u8 0, .int .u8 0, .int .u8 0, .int .u8 0, .int .u8 0] 24 (0, 0)) :: F := by simp
    have hs' := St.swap (A := [(w.heap.size + 1, _)]) (B := [(w.heap.size, _)]) h1
    have HS' := Lib.hid hs'; have HH1 := Lib.hid h1; have HP1 := Lib.hid hp
    clear z0 ew0 hng hpo h64 y0 i0 o0 f0 hs' h1 hp hsz
    go_enter Tryd.func77, Tryd.ntmps77
    go_wp2_with (first
      | (with_reducible refine wpList_load_st rfl 24 (.tmp 4) rfl (g := w.heap.size + 1) (off := 0) rfl HH1.out HP1.out _ Y0.out _ Tryd.underlying24 rfl I0.out ?_)
      | (with_reducible refine wpList_store_st rfl 24 (.tmp 2) (.tmp 11) rfl (g := w.heap.size) (off := 0) _ rfl rfl HS'.out F0.out I0.out O0.out ?_; intro w9 h9))
    rw [EW.out] at h9
    clear HS' HH1 HP1
    go_wp2_with fail
    refine bodyPost_ret (results_row_tmp rfl _ w9 w.heap.size 24 #[.int .u8 0, .int .u8 0, .int .u8 0, .int .u8 0, .int .u8 0, .int .u8 0, .int .u8 0, .int .u8 0, .int .u8 0, .int .u8 0, .int .u8 0, .int .u8 0, .int .u8 0, .int .u8 0, .int .u8 0, .int .u8 0, .int .u8 0, .int .u8 0, .int .u8 0, .int .u8 0, .int .u8 0, .int .u8 0, .int .u8 0, .int .u8 0, .int .u8 0, .int .u8 0, .int .u8 0, .int .u8 0, .int .u8 0, .int .u8 0, .int .u8 0, .int .u8 0] (0, 0) _ (.bool false) rfl rfl (h9.own (w.heap.size, .cells #[.int .u8 0, .int .u8 0, .int .u8 0, .int .u8 0, .int .u8 0, .int .u8 0, .int .u8 0, .int .u8 0, .int .u8 0, .int .u8 0, .int .u8 0, .int .u8 0, .int .u8 0, .int .u8 0, .int .u8 0, .int .u8 0, .int .u8 0, .int .u8 0, .int .u8 0, .int .u8 0, .int .u8 0, .int .u8 0, .int .u8 0, .int .u8 0, .int .u8 0, .int .u8 0, .int .u8 0, .int .u8 0, .int .u8 0, .int .u8 0, .int .u8 0, .int .u8 0] 24 (0, 0)) (by simp)) Tryd.underlying24 (by kernel_rfl) I0.out) rfl ?_
    refine ⟨?_, h9.weaken (A := [_, _])⟩
    rw [HP.out, HG.out, zeros_cells, zero32_cells]
end Go.Proofs.YtpjfmgifddoppaaDoor
