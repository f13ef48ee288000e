/- LoadNames: the walk of the law. -/
import Derived.Test.YtnhlpiomfljlcaaDoorLdLM
namespace Go.Proofs.YtnhlpiomfljlcaaDoor
set_option linter.unusedVariables false
set_option linter.unusedSimpArgs false
open Go.RowKit Go.Lib

def nk : Nat → Nt
  | 0 => .fin (.agg #[])
  | 1 => .body (.agg #[.int .i64 0, .slice none 0 0])
  | 2 => .again 0
  | _ => .again (-1)
def ek : Nat → Int
  | 0 => 192
  | 1 => 192
  | 2 => 192
  | _ => 191
def nkCells : Array Value := #[(nk 0).v, (nk 1).v, (nk 2).v, (nk 3).v]
def ec (k : Nat) : Array Value := ((List.range 4).map fun i => Value.int .i64 (if i < k then ek i else 0)).toArray
theorem nk_ok : ∀ k, (nk k).Ok
  | 0 => trivial
  | 1 => trivial
  | 2 => trivial
  | _ + 3 => trivial
theorem nk_get : ∀ k, k < 4 → nkCells[k]? = some (nk k).v
  | 0, _ => rfl
  | 1, _ => rfl
  | 2, _ => rfl
  | 3, _ => rfl
  | k + 4, h => absurd h (by omega)
theorem ec_set : ∀ k, k < 4 → (ec k).setIfInBounds k (.int .i64 (ek k)) = ec (k + 1)
  | 0, _ => rfl
  | 1, _ => rfl
  | 2, _ => rfl
  | 3, _ => rfl
  | k + 4, h => absurd h (by omega)
theorem ec_size (k : Nat) : (ec k).size = 4 := by simp [ec]
theorem nk_step : ∀ k, ({ LQ.start 0 [] 0 with inn := [nk k] } : LQ).stepQ none 2 = (true, { LQ.start 0 [] 0 with err := ek k })
  | 0 => rfl
  | 1 => rfl
  | 2 => rfl
  | _ + 3 => rfl
theorem ek_ne : ∀ k, ek k ≠ 0
  | 0 => by decide
  | 1 => by decide
  | 2 => by decide
  | _ + 3 => by show (191 : Int) ≠ 0; decide

section
variable {W w : World} {I : Nat → Option Obj} {F : List (Nat × Obj)}
/-- A net that has nothing. -/
theorem no_net (t : TB W I) (h : St W w I F) :
    Calls Tryd.prog 11 #[.slice none 0 0, .slice none 0 0] w fun e w' => ∃ J gn m, Le I J ∧ e = .returned (.pointer (some ⟨gn, 0, none⟩)) ∧ Offs W J [] ∧ NetSt W w' J gn m [] [] 0 F := by
  have hoff : OffIn none [] W I := ⟨fun k x hk => by simp at hk, by simp, by simp⟩
  have hf : FIn none [] W I := fun w L hst => ⟨rfl, fun j u hj => by simp [fall] at hj⟩
  refine (net_new t none 0 [] hoff (by simp) none 0 [] hf (by simp) h).mono ?_
  rintro e w' ⟨J, g, m, es, hle, rfl, hN, hof, hes⟩
  have : es = [] := by simpa [newOffs] using hes
  subst this
  exact ⟨J, g, m, hle, rfl, hof, hN⟩
/-- A loader at a net that has nothing. -/
theorem no_ld {gn m : Nat} {J : Nat → Option Obj} {ρo : Qing} {ρi : Ring} (t : TB W J) (hqo : ρo.New 2) (hqi : ρi.New 2) (ho : Offs W J []) (name : ByteArray) (tries : Int) (h : NetSt W w J gn m [] [] 0 (ldO ρo ++ (ldI ρi ++ F))) :
    Calls Tryd.prog 10 #[.pointer (some ⟨gn, 0, none⟩), .string name, .int .i64 tries, .pointer (some ⟨ρo.r, 0, none⟩), .pointer (some ⟨ρi.r, 0, none⟩)] w fun e w' => ∃ g, e = .returned (.pointer (some ⟨g, 0, none⟩)) ∧ LdSt W w' J g gn m [] name ρo.r ρi.r 2 2 (LQ.start tries [] 0) F :=
  ld_new name tries t ho hqo hqi h

theorem ld_again {gn m g ro ri : Nat} {J : Nat → Option Obj} {name : ByteArray} {tr : Int} (h : LdSt W w J g gn m [] name ro ri 2 2 (LQ.start tr [] 0) F) : ∃ ρo ρi, ρo.New 2 ∧ ρi.New 2 ∧ ρo.r = ro ∧ ρi.r = ri ∧ St W w J (ldO ρo ++ (ldI ρi ++ F)) := by
  obtain ⟨l, ρo, ρi, hi, hni, φ, hs⟩ := h
  refine ⟨ρo, ρi, ⟨hi.qo, hi.n, ?_⟩, ⟨hi.qi, hni, hi.inn, hi.shut⟩, hi.r_o, hi.r_i, ?_⟩
  · exact List.eq_nil_of_length_eq_zero hi.out.len
  · have h2 : St W w J ((φ.L' gn m [] 0 ++ [ldG g l]) ++ (ldO ρo ++ (ldI ρi ++ F))) := by simpa [List.append_assoc, LQ.start] using hs
    exact h2.weaken
theorem errs4 {L : List (Nat × Obj)} {g : Nat} {J : Nat → Option Obj} (h : St W w J L) (hm : (g, Obj.cells #[.int .i64 192, .int .i64 192, .int .i64 192, .int .i64 191] 24 (0, 0)) ∈ L) :
    w.cell? ⟨g, 0, none⟩ = some (.int .i64 192) ∧ w.cell? ⟨g, 1, none⟩ = some (.int .i64 192) ∧ w.cell? ⟨g, 2, none⟩ = some (.int .i64 192) ∧ w.cell? ⟨g, 3, none⟩ = some (.int .i64 191) := ⟨h.cell hm 0, h.cell hm 1, h.cell hm 2, h.cell hm 3⟩
theorem ec4 : ec 4 = #[.int .i64 192, .int .i64 192, .int .i64 192, .int .i64 191] := rfl
theorem tell0 {gn m g ro ri : Nat} {J : Nat → Option Obj} {name : ByteArray} (k : Nat) (h : LdSt W w J g gn m [] name ro ri 2 2 (LQ.start 0 [] 0) F) :
    Calls Tryd.prog 12 #[.pointer (some ⟨ri, 0, none⟩), .iface (nk k).T (nk k).d] w fun e w' => e = .returned (.bool true) ∧ LdSt W w' J g gn m [] name ro ri 2 2 { LQ.start 0 [] 0 with inn := [nk k] } F := by
  have h1 := lq_tell h (nk k) (nk_ok k)
  rw [if_pos (show (LQ.start 0 [] 0).inn.length < 2 by decide), decide_eq_true (show (LQ.start 0 [] 0).inn.length < 2 by decide)] at h1
  exact h1
theorem st1 {gn m g ro ri : Nat} {J : Nat → Option Obj} {name : ByteArray} (hn : name.size ≤ 1000000) (k : Nat) (h : LdSt W w J g gn m [] name ro ri 2 2 { LQ.start 0 [] 0 with inn := [nk k] } F) :
    Calls Tryd.prog 13 #[.pointer (some ⟨g, 0, none⟩)] w (StepPost W J g gn m [] name ro ri 2 2 F true { LQ.start 0 [] 0 with err := ek k }) := by
  have h1 := ld_step h hn (by simp [LQ.start]) (by simp [LQ.start])
  rw [show offOf [] name = none from rfl, Option.map_none, nk_step k] at h1
  exact h1
theorem st2 {gn m g ro ri : Nat} {J : Nat → Option Obj} {name : ByteArray} (hn : name.size ≤ 1000000) (k : Nat) (h : LdSt W w J g gn m [] name ro ri 2 2 { LQ.start 0 [] 0 with err := ek k } F) :
    Calls Tryd.prog 13 #[.pointer (some ⟨g, 0, none⟩)] w (StepPost W J g gn m [] name ro ri 2 2 F false { LQ.start 0 [] 0 with err := ek k }) := by
  have h1 := ld_step h hn (by simp [LQ.start]) (by simp [LQ.start])
  rw [stepQ_err _ (ek_ne k)] at h1
  exact h1

set_option maxRecDepth 100000 in
set_option maxHeartbeats 4000000 in
theorem walk_loadNames (W : World) (tabs : Tabs W) : Calls Tryd.prog 3 #[] W fun e w' => e = .returned (.bool true) ∧ Below W.heap.size W w' := by
  have t := TB.start tabs
  have h0 := St.start W
  have kA := load_alive t h0
  have T := Lib.hid t; have KA := Lib.hid kA
  have r2 : roomOf 2 = 2 := by decide
  have kP : ∀ (v : World) (G : List (Nat × Obj)) (J : Nat → Option Obj), St W v J G → Calls Tryd.prog 8 #[.int .i64 2] v fun e w' => ∃ ρ : Qing, ρ.New 2 ∧ e = .returned (.pointer (some ⟨ρ.r, 0, none⟩)) ∧ St W w' J (ldO ρ ++ G) := fun v G J hv => by
    have h := new_pc' (room := 2) hv
    rwa [r2] at h
  have kN : ∀ (v : World) (G : List (Nat × Obj)) (J : Nat → Option Obj), St W v J G → Calls Tryd.prog 9 #[.int .i64 2] v fun e w' => ∃ ρ : Ring, ρ.New 2 ∧ e = .returned (.pointer (some ⟨ρ.r, 0, none⟩)) ∧ St W w' J (ldI ρ ++ G) := fun v G J hv => by
    have h := new_nt' (room := 2) hv
    rwa [r2] at h
  have KP := Lib.hid kP; have KN := Lib.hid kN
  clear kA t h0 tabs kP kN r2
  go_enter Tryd.func3, Tryd.ntmps3
  go_wp2_with fail
  refine KA.out.mono ?_
  rintro e w ⟨rfl, h⟩
  have h1 := (h.alloc (.cells (ec 0) 24)).alloc (.cells nkCells 34)
  rw [show (w.alloc (.cells (ec 0) 24)).heap.size = w.heap.size + 1 by simp] at h1
  have H1 := Lib.hid h1
  clear h1 h KA
  go_wp2_with fail
  generalize w.heap.size + 1 = gs at *
  generalize w.heap.size = ge at *
  go_loopw [22] (fun i wr => ∃ k : Nat, k ≤ 4 ∧ i = .int .i64 k ∧ St W wr (fun b => W.heap[b]?) [(gs, .cells nkCells 34 (0, 0)), (ge, .cells (ec k) 24 (0, 0))])
    (fun i _ => 4 - (intOf i).toNat)
  case atStart => exact ⟨0, by omega, rfl, H1.out⟩
  case round =>
    obtain ⟨k, hk, rfl, hst⟩ := hrel
    clear H1
    by_cases hlt : k < 4
    · have hlt' : (k : Int) < 4 := by omega
      have hk0 : (0 : Int) ≤ (k : Int) := by omega
      have c3 : wr.cell? ⟨gs, k, none⟩ = some (.iface (nk k).T (nk k).d) := (hst.cell (g := gs) (cs := nkCells) (t := 34) (fr := (0, 0)) (by simp) k).trans (nk_get k hlt)
      have hT : ∃ T d, (nk k).T = T ∧ (nk k).d = d := ⟨_, _, rfl, rfl⟩
      have HST := Lib.hid hst
      clear hst
      go_wp2_with (first | (go_at_call 8; refine (KP.out _ _ _ HST.out).mono ?_; rintro e w3 ⟨ρo, hqo, rfl, h3⟩; have HQO := Lib.hid hqo; have H3 := Lib.hid h3; clear hqo h3) | (go_at_call 9; refine (KN.out _ _ _ H3.out).mono ?_; rintro e w4 ⟨ρi, hqi, rfl, h4⟩; have HQI := Lib.hid hqi; have H4 := Lib.hid h4.swap; clear hqi h4) |
        (go_at_call 11; refine (no_net T.out H4.out).mono ?_; rintro e w5 ⟨J, gn, m, hle, rfl, hof, h5⟩; have HLE := Lib.hid hle; have HOF := Lib.hid hof; have H5 := Lib.hid h5; clear hle hof h5) |
        (go_at_call 10; refine (no_ld (T.out.more HLE.out) HQO.out HQI.out HOF.out _ _ H5.out).mono ?_; rintro e w6 ⟨g, rfl, h6⟩; have H6 := Lib.hid h6; clear h6) | (go_at_call 12; refine (tell0 k H6.out).mono ?_; rintro e w7 ⟨rfl, h7⟩; have H7 := Lib.hid h7; clear h7) |
        (go_at_call 13; refine (st1 (by decide) k H7.out).mono ?_; rintro e w8 ⟨J8, le8, rfl, h8⟩; have LE8 := Lib.hid le8; have H8 := Lib.hid h8; clear h8 le8) | (go_at_call 13; refine (st2 (by decide) k H8.out).mono ?_; rintro e w9 ⟨J9, le9, rfl, h9⟩; have LE9 := Lib.hid le9; have H9 := Lib.hid h9; clear h9 le9) |
        (go_at_call 14; refine (lq_err H9.out).mono ?_; rintro e w10 ⟨rfl, rfl⟩; dsimp only; have h10 := H9.out.end_ ((HLE.out.trans LE8.out).trans LE9.out); have d3 := (h10.cell (g := ge) (cs := ec k) (t := 24) (fr := (0, 0)) (by simp) k).trans (Array.getElem?_eq_getElem (by rw [ec_size]; exact hlt)); have f3 := h10.frozen (g := ge) (cs := ec k) (t := 24) (by simp) k; have H10 := Lib.hid h10; clear h10))
      have h11 := St.set (A := [_]) H10.out k (.int .i64 (ek k))
      rw [ec_set k hlt] at h11
      have H11 := Lib.hid h11
      clear h11
      go_roundw
      case rel => exact ⟨k + 1, by omega, by go_num, H11.out⟩
      case measure => simp [intOf]; omega
    · obtain rfl : k = 4 := by omega
      rw [ec4] at hst
      have heq : ∀ v : World, (Op.equalIn 10000 24 (.agg #[.int .i64 192, .int .i64 192, .int .i64 192, .int .i64 191]) (.agg #[.int .i64 192, .int .i64 192, .int .i64 192, .int .i64 191])).run Tryd.prog v = .ok true v := fun v => by kernel_rfl
      have HST := Lib.hid hst
      clear hst
      go_wp2_with (first | (go_at_call 8; refine (KP.out _ _ _ HST.out).mono ?_; rintro e w3 ⟨ρo, hqo, rfl, h3⟩; have HQO := Lib.hid hqo; have H3 := Lib.hid h3; clear hqo h3) | (go_at_call 9; refine (KN.out _ _ _ H3.out).mono ?_; rintro e w4 ⟨ρi, hqi, rfl, h4⟩; have HQI := Lib.hid hqi; have H4 := Lib.hid h4.swap; obtain ⟨d0, d1, d2, d3⟩ := errs4 (g := ge) h4 (by simp); clear hqi h4) |
        (go_at_call 11; refine (no_net T.out H4.out).mono ?_; rintro e w5 ⟨J, gn, m, hle, rfl, hof, h5⟩; have HLE := Lib.hid hle; have HOF := Lib.hid hof; have H5 := Lib.hid h5; clear hle hof h5) |
        (go_at_call 10; refine (no_ld (T.out.more HLE.out) HQO.out HQI.out HOF.out _ _ H5.out).mono ?_; rintro e w6 ⟨g, rfl, h6⟩; have H6 := Lib.hid h6; clear h6) |
        (go_at_call 15; refine (lq_left H6.out).mono ?_; rintro e w7 ⟨rfl, rfl⟩; rw [show (((LQ.start 101 [] 0).left : Nat) : Int) = 100 from rfl]; obtain ⟨ρo', ρi', hqo', hqi', ero, eri, h7⟩ := ld_again H6.out; have HQO2 := Lib.hid hqo'; have HQI2 := Lib.hid hqi'; have H7 := Lib.hid h7; clear hqo' hqi' h7))
      clear d0 d1 d2 d3 heq
      go_wp2_with (first | (go_at_call 11; refine (no_net (T.out.more HLE.out) H7.out).mono ?_; rintro e w8 ⟨J2, gn2, m2, hle2, rfl, hof2, h8⟩; have HLE2 := Lib.hid hle2; have HOF2 := Lib.hid hof2; have H8 := Lib.hid h8; clear hle2 hof2 h8) |
        (go_at_call 10; rw [← ero, ← eri]; refine (no_ld ((T.out.more HLE.out).more HLE2.out) HQO2.out HQI2.out HOF2.out _ _ H8.out).mono ?_; rintro e w9 ⟨g2, rfl, h9⟩; have H9 := Lib.hid h9; clear h9) |
        (go_at_call 15; refine (lq_left H9.out).mono ?_; rintro e w10 ⟨rfl, rfl⟩; rw [show (((LQ.start (-1) [] 0).left : Nat) : Int) = 0 from rfl]))
      go_ret
      exact ⟨rfl, ((H9.out.end_ (HLE.out.trans HLE2.out)).weaken (A := [_, _])).below (Le.refl _)⟩
end
end Go.Proofs.YtnhlpiomfljlcaaDoor
