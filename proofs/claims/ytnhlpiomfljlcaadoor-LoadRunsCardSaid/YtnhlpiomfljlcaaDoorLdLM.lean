/- The loader, its rings and its net, as the laws meet them. The chapter's example. -/
import Derived.Test.YtnhlpiomfljlcaaDoorLdGH
namespace Go.Proofs.YtnhlpiomfljlcaaDoor
section
set_option linter.unusedVariables false
set_option linter.unusedSimpArgs false
open Go.RowKit Go.Lib

section
variable {W w : World} {J : Nat → Option Obj} {F : List (Nat × Obj)} {g gn m : Nat} {es : List (ByteArray × Part)} {name : ByteArray} {ro ri n ni : Nat} {q : LQ}
theorem lq_err (h : LdSt W w J g gn m es name ro ri n ni q F) : Calls Tryd.prog 14 #[.pointer (some ⟨g, 0, none⟩)] w fun e w' => e = .returned (.int .i64 q.err) ∧ w = w' := by
  obtain ⟨l, ρo, ρi, hi, hni, φ, hs⟩ := h
  rw [← hi.err]; exact ld_err hs.toG
theorem lq_left (h : LdSt W w J g gn m es name ro ri n ni q F) : Calls Tryd.prog 15 #[.pointer (some ⟨g, 0, none⟩)] w fun e w' => e = .returned (.int .i64 q.left) ∧ w = w' := by
  obtain ⟨l, ρo, ρi, hi, hni, φ, hs⟩ := h
  rw [← hi.left]; exact ld_left hs.toG
theorem lq_wants (h : LdSt W w J g gn m es name ro ri n ni q F) : Calls Tryd.prog 18 #[.pointer (some ⟨g, 0, none⟩)] w fun e w' => e = .returned (.int .i64 q.wants) ∧ w = w' := by
  obtain ⟨l, ρo, ρi, hi, hni, φ, hs⟩ := h
  rw [← hi.wants]; exact ld_wants hs.toG
theorem lq_olen (h : LdSt W w J g gn m es name ro ri n ni q F) : Calls Tryd.prog 19 #[.pointer (some ⟨ro, 0, none⟩)] w fun e w' => e = .returned (.int .i64 q.out.length) ∧ w = w' := by
  obtain ⟨l, ρo, ρi, hi, hni, φ, hs⟩ := h
  rw [← hi.out.len, ← hi.r_o]; exact len_pc ρo hs.toO
theorem lq_ilen (h : LdSt W w J g gn m es name ro ri n ni q F) : Calls Tryd.prog 23 #[.pointer (some ⟨ri, 0, none⟩)] w fun e w' => e = .returned (.int .i64 q.inn.length) ∧ w = w' := by
  obtain ⟨l, ρo, ρi, hi, hni, φ, hs⟩ := h
  have e1 : q.inn.length = ρi.xs.length := by rw [hi.inn, List.length_map]
  rw [e1, ← hi.r_i]; exact len_nt ρi hs.toI
theorem lq_fetches (h : LdSt W w J g gn m es name ro ri n ni q F) : Calls Tryd.prog 22 #[.pointer (some ⟨gn, 0, none⟩)] w fun e w' => e = .returned (.int .i64 q.cnt) ∧ w = w' := by
  obtain ⟨l, ρo, ρi, hi, hni, hs⟩ := h
  exact net_fetches hs
theorem LdSt.drewN (h : LdSt W w J g gn m es name ro ri n ni q F) (k : Nat) : LdSt W (w.drewN k) J g gn m es name ro ri n ni q F := let ⟨l, ρo, ρi, hi, hni, hs⟩ := h; ⟨l, ρo, ρi, hi, hni, hs.drewN k⟩
theorem LdSt.drew1 (h : LdSt W w J g gn m es name ro ri n ni q F) : LdSt W w.drew J g gn m es name ro ri n ni q F := let ⟨l, ρo, ρi, hi, hni, hs⟩ := h; ⟨l, ρo, ρi, hi, hni, hs.drew1⟩
/-- Back to what there was before. -/
theorem LdSt.end_ {I : Nat → Option Obj} (hle : Le I J) (h : LdSt W w J g gn m es name ro ri n ni q F) : St W w I F := by
  obtain ⟨l, ρo, ρi, hi, hni, φ, hs⟩ := h
  have h3 : St W w J ((φ.L' gn m es q.cnt ++ (ldG g l :: (ldO ρo ++ ldI ρi))) ++ F) := by simpa [List.append_assoc] using hs
  exact St.less hle h3.weaken
/-- Blocks beside. -/
theorem LdSt.rest (h : LdSt W w J g gn m es name ro ri n ni q F) : ∃ B, St W w J (B ++ F) := by
  obtain ⟨l, ρo, ρi, hi, hni, φ, hs⟩ := h
  refine ⟨φ.L' gn m es q.cnt ++ (ldG g l :: (ldO ρo ++ ldI ρi)), ?_⟩
  simpa [List.append_assoc] using hs
theorem LdSt.alloc (h : LdSt W w J g gn m es name ro ri n ni q F) (o : Obj) : LdSt W (w.alloc o) J g gn m es name ro ri n ni q ((w.heap.size, o) :: F) := by
  obtain ⟨l, ρo, ρi, hi, hni, φ, hs⟩ := h
  refine ⟨l, ρo, ρi, hi, hni, φ, ?_⟩
  have h2 := St.alloc hs o
  have h3 : St W (w.alloc o) J ([(w.heap.size, o)] ++ ((φ.L' gn m es q.cnt ++ (ldG g l :: (ldO ρo ++ ldI ρi))) ++ F)) := by simpa [List.append_assoc] using h2
  have h4 := h3.swap
  simpa [List.append_assoc] using h4
theorem LdSt.less {A B : List (Nat × Obj)} (h : LdSt W w J g gn m es name ro ri n ni q (A ++ F)) : LdSt W w J g gn m es name ro ri n ni q F := by
  obtain ⟨l, ρo, ρi, hi, hni, φ, hs⟩ := h
  refine ⟨l, ρo, ρi, hi, hni, φ, ?_⟩
  have h3 : St W w J ((φ.L' gn m es q.cnt ++ (ldG g l :: (ldO ρo ++ ldI ρi))) ++ (A ++ F)) := by simpa [List.append_assoc] using hs
  have h4 := St.mid (B := A) h3
  simpa [List.append_assoc] using h4

/-- One more note. -/
theorem lq_tell (h : LdSt W w J g gn m es name ro ri n ni q F) (t : Nt) (ht : t.Ok) :
    Calls Tryd.prog 12 #[.pointer (some ⟨ri, 0, none⟩), .iface t.T t.d] w fun e w' => e = .returned (.bool (decide (q.inn.length < ni))) ∧
      LdSt W w' J g gn m es name ro ri n ni (if q.inn.length < ni then { q with inn := q.inn ++ [t] } else q) F := by
  obtain ⟨l, ρo, ρi, hi, hni, φ, hs⟩ := h
  have hlen : ρi.xs.length = q.inn.length := by rw [hi.inn, List.length_map]
  rw [← hi.r_i]
  refine (send_nt ρi hi.qi t.T t.d hs.toI).mono ?_
  rintro e w' ⟨rfl, h2⟩
  rw [Ring.can_eq ρi hi.shut, hlen, hni]
  refine ⟨rfl, ?_⟩
  have hx := Ring.put_xs ρi hi.shut (.iface t.T t.d)
  rw [hlen, hni, hi.inn] at hx
  by_cases hc : q.inn.length < ni
  · rw [if_pos hc] at hx ⊢
    refine ⟨l, ρo, ρi.put (.iface t.T t.d), ⟨hi.ok, hi.gn, hi.nm, hi.lo, hi.li.trans hi.r_i.symm, hi.qo, Ring.put_ok hi.qi _, by rw [Ring.put_closed]; exact hi.shut, hi.r_o, Ring.put_r _ _, hi.n, hi.left, hi.known, hi.wants, hi.err, ?_, hi.out, ?_, hi.offs, hi.tb⟩, by rw [Ring.put_n]; exact hni, φ, h2.ofI⟩
    · rw [hx, List.map_append]; rfl
    · intro t' ht'
      rcases List.mem_append.1 ht' with h3 | h3
      · exact hi.nts t' h3
      · rw [List.mem_singleton.1 h3]; exact ht
  · rw [if_neg hc] at hx ⊢
    exact ⟨l, ρo, ρi.put (.iface t.T t.d), ⟨hi.ok, hi.gn, hi.nm, hi.lo, hi.li.trans hi.r_i.symm, hi.qo, Ring.put_ok hi.qi _, by rw [Ring.put_closed]; exact hi.shut, hi.r_o, Ring.put_r _ _, hi.n, hi.left, hi.known, hi.wants, hi.err, hx, hi.out, hi.nts, hi.offs, hi.tb⟩, by rw [Ring.put_n]; exact hni, φ, h2.ofI⟩

/-- The first piece. -/
def TakPost (W : World) (J : Nat → Option Obj) (g gn m : Nat) (es : List (ByteArray × Part)) (name : ByteArray) (ro ri n ni : Nat) (q : LQ) (F : List (Nat × Obj)) (e : Ending) (w' : World) : Prop :=
  ∃ (a : Int) (p : Part), e = .returned (.tuple #[.agg #[.int .i64 a, .slice p.A p.bs.length p.c], .bool (!q.out.isEmpty)]) ∧ POk p W J ∧ (q.out = [] → a = 0 ∧ p.bs = []) ∧ (∀ x l, q.out = x :: l → x = (a, p.bs)) ∧ LdSt W w' J g gn m es name ro ri n ni { q with out := q.out.tail } F
theorem lq_take (h : LdSt W w J g gn m es name ro ri n ni q F) : Calls Tryd.prog 17 #[.pointer (some ⟨ro, 0, none⟩)] w (TakPost W J g gn m es name ro ri n ni q F) := by
  obtain ⟨l, ρo, ρi, hi, hni, φ, hs⟩ := h
  rw [← hi.r_o]
  refine (recv_pc ρo hi.qo hs.toO).mono ?_
  rintro e w' ⟨rfl, h2⟩
  have hst : LdSt W w' J g gn m es name ro ri n ni { q with out := q.out.tail } F :=
    ⟨l, ρo.recv, ρi, ⟨hi.ok, hi.gn, hi.nm, hi.lo, hi.li, Qing.recv_ok hi.qo, hi.qi, hi.shut, by rw [Qing.recv_r]; exact hi.r_o, hi.r_i, by rw [Qing.recv_n]; exact hi.n, hi.left, hi.known, hi.wants, hi.err, hi.inn, by rw [Qing.recv_xs]; exact hi.out.tail, hi.nts, hi.offs, hi.tb⟩, hni, φ, h2.ofO⟩
  obtain ⟨ps, hx, ho, hp⟩ := hi.out
  rw [hi.r_o]
  cases ps with
  | nil =>
    refine ⟨0, ⟨none, 0, []⟩, ?_, ⟨Part.In_nil _ _, by simp, by simp, by simp⟩, fun _ => ⟨rfl, rfl⟩, fun x l he => by rw [ho] at he; simp at he, hst⟩
    rw [Qing.front, Qing.any, hx, ho]; rfl
  | cons x ps =>
    refine ⟨x.1, x.2, ?_, hp x (List.mem_cons_self ..), fun he => by rw [ho] at he; simp at he, fun y l he => by rw [ho] at he; simp at he; exact he.1.symm, hst⟩
    rw [Qing.front, Qing.any, hx, ho]; rfl
end
/-- How many tries there may be. -/
def triesOf (t : Int) : Nat := (max 0 (min t 100)).toNat
section
variable {W w : World} {J : Nat → Option Obj} {L F : List (Nat × Obj)}
theorem ld_new0 (gn : Nat) (name : ByteArray) (tries : Int) (ro ri : Nat) (h : St W w J L) :
    Calls Tryd.prog 10 #[.pointer (some ⟨gn, 0, none⟩), .string name, .int .i64 tries, .pointer (some ⟨ro, 0, none⟩), .pointer (some ⟨ri, 0, none⟩)] w fun e w' => ∃ g, e = .returned (.pointer (some ⟨g, 0, none⟩)) ∧ St W w' J (ldG g ⟨gn, name, triesOf tries, ro, ri, none, -1, 0⟩ :: L) := by
  have he : (max 0 (min tries 100) : Int) = (triesOf tries : Int) := by unfold triesOf; omega
  have h1 := h.alloc (.cells #[.pointer (some ⟨gn, 0, none⟩), .string name, .int .i64 (triesOf tries), .pointer (some ⟨ro, 0, none⟩), .pointer (some ⟨ri, 0, none⟩), .pointer none, .int .i64 (-1), .int .i64 0] 98)
  have hlt : triesOf tries ≤ 100 := by unfold triesOf; omega
  have H := Lib.hid h1
  clear h1 h
  generalize triesOf tries = T at *
  go_enter Tryd.func10, Tryd.ntmps10
  go_wp2_with fail
  go_ret
  exact ⟨_, rfl, H.out⟩
theorem tries_le (t : Int) : triesOf t ≤ 100 := by unfold triesOf; omega
def LQ.start (tries : Int) (fs : List Fault) (cnt : Nat) : LQ := ⟨triesOf tries, none, -1, 0, [], [], fs, cnt⟩
theorem ld_new {gn m : Nat} {es : List (ByteArray × Part)} {fs : List Fault} {cnt : Nat} {ρo : Qing} {ρi : Ring} {n ni : Nat} (name : ByteArray) (tries : Int) (t : TB W J) (ho : Offs W J es) (hqo : ρo.New n) (hqi : ρi.New ni) (h : NetSt W w J gn m es fs cnt (ldO ρo ++ (ldI ρi ++ F))) :
    Calls Tryd.prog 10 #[.pointer (some ⟨gn, 0, none⟩), .string name, .int .i64 tries, .pointer (some ⟨ρo.r, 0, none⟩), .pointer (some ⟨ρi.r, 0, none⟩)] w fun e w' => ∃ g, e = .returned (.pointer (some ⟨g, 0, none⟩)) ∧ LdSt W w' J g gn m es name ρo.r ρi.r n ni (LQ.start tries fs cnt) F := by
  obtain ⟨φ, h⟩ := h
  refine (ld_new0 gn name tries ρo.r ρi.r h).mono ?_
  rintro e w' ⟨g, rfl, h2⟩
  refine ⟨g, rfl, ⟨gn, name, triesOf tries, ρo.r, ρi.r, none, -1, 0⟩, ρo, ρi, ⟨⟨tries_le _, (fun k hk => nomatch hk), .inr (.inl ⟨rfl, rfl⟩)⟩, rfl, rfl, rfl, rfl, hqo.ok, hqi.ok, hqi.closed, rfl, rfl, hqo.n, rfl, rfl, rfl, rfl, hqi.xs, ⟨[], hqo.xs, rfl, by simp⟩, by simp [LQ.start], ho, t⟩, hqi.n, φ, h2.ofG⟩
end
end

section
set_option linter.unusedVariables false
set_option linter.unusedSimpArgs false
open Go.RowKit Go.Lib

section
variable {W w : World} {J : Nat → Option Obj} {F : List (Nat × Obj)} {g gn m : Nat} {es : List (ByteArray × Part)} {name : ByteArray} {ro ri n ni : Nat} {q : LQ}
/-- Another loader at the same net and rings. -/
theorem LdSt.other {gb : Nat} {lb : Lder} {qb : LQ} (h : LdSt W w J g gn m es name ro ri n ni q (ldG gb lb :: F)) (ok : lb.Ok J) (h1 : lb.gn = gn) (h2 : lb.ro = ro) (h3 : lb.ri = ri) (e1 : lb.left = qb.left) (e2 : lb.kn = qb.known) (e3 : lb.wants = qb.wants) (e4 : lb.err = qb.err)
    (e5 : qb.inn = q.inn) (e6 : qb.out = q.out) (e7 : qb.fs = q.fs) (e8 : qb.cnt = q.cnt) : ∃ la, LdSt W w J gb gn m es lb.name ro ri n ni qb (ldG g la :: F) := by
  obtain ⟨l, ρo, ρi, hi, hni, φ, hs⟩ := h
  refine ⟨l, lb, ρo, ρi, ⟨ok, h1, rfl, h2, h3, hi.qo, hi.qi, hi.shut, hi.r_o, hi.r_i, hi.n, e1, e2, e3, e4, by rw [e5]; exact hi.inn, by rw [e6]; exact hi.out, by rw [e5]; exact hi.nts, hi.offs, hi.tb⟩, hni, ?_⟩
  rw [e7, e8]
  refine ⟨φ, ?_⟩
  have g1 : St W w J ((φ.L' gn m es q.cnt ++ (ldG g l :: (ldO ρo ++ ldI ρi))) ++ ([ldG gb lb] ++ F)) := by simpa [List.append_assoc] using hs
  have g2 : St W w J (ldG gb lb :: ((φ.L' gn m es q.cnt ++ (ldG g l :: (ldO ρo ++ ldI ρi))) ++ F)) := g1.swap
  have g3 : St W w J (ldG gb lb :: (φ.L' gn m es q.cnt ++ (ldG g l :: (ldO ρo ++ (ldI ρi ++ F))))) := by simpa [List.append_assoc] using g2
  have g4 : St W w J (φ.L' gn m es q.cnt ++ (ldG gb lb :: (ldG g l :: (ldO ρo ++ (ldI ρi ++ F))))) := g3.ofG
  refine g4.perm ?_
  refine List.Perm.append_left _ (List.Perm.cons _ ?_)
  have g5 : (ldG g l :: ((ldO ρo ++ ldI ρi) ++ F)).Perm ((ldO ρo ++ ldI ρi) ++ ldG g l :: F) := List.perm_middle.symm
  simpa [List.append_assoc] using g5
/-- A loader beside. -/
theorem LdSt.beside (h : LdSt W w J g gn m es name ro ri n ni q F) (tries : Int) (name2 : ByteArray) : Calls Tryd.prog 10 #[.pointer (some ⟨gn, 0, none⟩), .string name2, .int .i64 tries, .pointer (some ⟨ro, 0, none⟩), .pointer (some ⟨ri, 0, none⟩)] w fun e w' => ∃ g2, e = .returned (.pointer (some ⟨g2, 0, none⟩)) ∧ LdSt W w' J g gn m es name ro ri n ni q (ldG g2 ⟨gn, name2, triesOf tries, ro, ri, none, -1, 0⟩ :: F) := by
  obtain ⟨l, ρo, ρi, hi, hni, φ, hs⟩ := h
  refine (ld_new0 gn name2 tries ro ri hs).mono ?_
  rintro e w' ⟨g2, rfl, h2⟩
  refine ⟨g2, rfl, l, ρo, ρi, hi, hni, φ, ?_⟩
  have g1 : St W w' J ([ldG g2 ⟨gn, name2, triesOf tries, ro, ri, none, -1, 0⟩] ++ ((φ.L' gn m es q.cnt ++ (ldG g l :: (ldO ρo ++ ldI ρi))) ++ F)) := by simpa [List.append_assoc] using h2
  have g2 := g1.swap
  simpa [List.append_assoc] using g2
end
theorem name_core : nameOk ⟨#[99, 111, 114, 101]⟩ = true := by kernel_rfl
theorem fold_core : foldOf ⟨#[99, 111, 114, 101]⟩ = [99, 111, 114, 101] := by kernel_rfl
theorem fold_CORE : foldOf ⟨#[67, 79, 82, 69]⟩ = [99, 111, 114, 101] := by kernel_rfl
theorem fold_modem : foldOf ⟨#[109, 111, 100, 101, 109]⟩ = [109, 111, 100, 101, 109] := by kernel_rfl
section
variable {W w : World} {I : Nat → Option Obj} {F : List (Nat × Obj)}
/-- One offer of the name core. -/
theorem core_net (t : TB W I) (A : Option Addr) (b o : Nat) (bs : List UInt8) (p0 : Part) (hp : POk p0 W I) (hb : p0.bs = bs) (ho : I o = some (.cells #[.string ⟨#[99, 111, 114, 101]⟩, p0.val] 57 (0, 0))) (h : St W w I F) :
    Calls Tryd.prog 11 #[.slice (some ⟨o, 0, none⟩) 1 1, .slice none 0 0] w fun e w' => ∃ J gn m p, Le I J ∧ e = .returned (.pointer (some ⟨gn, 0, none⟩)) ∧ p.bs = bs ∧ Offs W J [((⟨#[99, 111, 114, 101]⟩ : ByteArray), p)] ∧ NetSt W w' J gn m [((⟨#[99, 111, 114, 101]⟩ : ByteArray), p)] [] 0 F := by
  have hoff : OffIn (some ⟨o, 0, none⟩) [((⟨#[99, 111, 114, 101]⟩ : ByteArray), p0)] W I := by
    refine ⟨fun k x hk => ?_, fun x hx => ?_, by simpa using hp⟩
    rotate_left
    · simp at hx; subst hx; show ByteArray.size ⟨#[99, 111, 114, 101]⟩ ≤ 1000000; decide
    match k, hk with
    | 0, hk =>
      simp at hk
      subst hk
      exact ⟨_, _, rfl, roCell_of ho, by rw [roCell_of ho]; rfl⟩
    | k + 1, hk => simp at hk
  have hf : FIn none [] W I := fun w L hst => ⟨rfl, fun j u hj => by simp [fall] at hj⟩
  have hno : newOffs [((⟨#[99, 111, 114, 101]⟩ : ByteArray), p0)] = [(⟨#[99, 111, 114, 101]⟩, bs)] := by
    simp [newOffs, addOff, name_core, fold_core, lookB, hb]
  refine (net_new t _ 1 [((⟨#[99, 111, 114, 101]⟩ : ByteArray), p0)] hoff (by simp) none 0 [] hf (by simp) h).mono ?_
  rintro e w' ⟨J, g, m, es, hle, rfl, hN, hof, hes⟩
  rw [hno] at hes
  obtain ⟨p, rfl, hpb⟩ := one_offer hes
  exact ⟨J, g, m, p, hle, rfl, hpb, hof, hN⟩

set_option maxRecDepth 100000 in
set_option maxHeartbeats 4000000 in
theorem load_alive (t : TB W I) (h : St W w I F) :
    Calls Tryd.prog 7 #[] w fun e w' => e = .returned (.bool true) ∧ St W w' I F := by
  have c1 := new_pc' (room := 2) h
  have r2 : roomOf 2 = 2 := by decide
  rw [r2] at c1
  have C1 := Lib.hid c1; have T := Lib.hid t
  clear c1 h t
  go_enter Tryd.func7, Tryd.ntmps7
  go_wp2_with fail
  refine C1.out.mono ?_
  rintro e w1 ⟨ρo, hqo, rfl, h1⟩
  have c2 := new_nt' (room := 2) h1
  rw [r2] at c2
  have C2 := Lib.hid c2
  clear c2 h1 C1
  go_wp2_with fail
  refine C2.out.mono ?_
  rintro e w2 ⟨ρi, hqi, rfl, h2⟩
  clear C2
  have hcb := fun n c => Lib.run_convert_bytes_const (P := Tryd.prog) w2 27 5 #[.int .u8 97, .int .u8 98, .int .u8 99] n c Tryd.underlying27 Tryd.underlying5
  have h3 := (h2.alloc (.cells (bcells [97, 98, 99]) 5 (3, 4))).alloc (.cells #[.string ⟨#[99, 111, 114, 101]⟩, .slice (some ⟨w2.heap.size, 0, none⟩) 3 3] 57)
  rw [show (w2.alloc (.cells (bcells [97, 98, 99]) 5 (3, 4))).heap.size = w2.heap.size + 1 by simp] at h3
  obtain ⟨J2, le2, gg2, s2⟩ := St.freeze h3
  obtain ⟨J3, le3, gg3, s3⟩ := St.freeze s2
  have hpo : POk ⟨some ⟨w2.heap.size, 0, none⟩, 3, [97, 98, 99]⟩ W J3 := lit_part (bs := [97, 98, 99]) (by simp) gg3
  have c3 := core_net (T.out.more (le2.trans le3)) none 0 (w2.heap.size + 1) [97, 98, 99] ⟨some ⟨w2.heap.size, 0, none⟩, 3, [97, 98, 99]⟩ hpo rfl (le3 _ _ gg2) s3.swap
  have C3 := Lib.hid c3; have LE3 := Lib.hid (le2.trans le3)
  have HQO := Lib.hid hqo; have HQI := Lib.hid hqi
  clear c3 hpo s3 s2 h3 h2 le2 le3 gg2 gg3 hqo hqi r2
  go_wp2_with fail
  refine C3.out.mono ?_
  rintro e w3 ⟨J, gn, m, p, hle, rfl, hpb, hof, hN⟩
  have hJ := (LE3.out).trans hle
  have T2 := Lib.hid (T.out.more hJ)
  have HJ := Lib.hid hJ
  have c4 := ld_new (F := F) ⟨#[109, 111, 100, 101, 109]⟩ 3 T2.out hof HQO.out HQI.out hN
  have C4 := Lib.hid c4; have HOF := Lib.hid hof; have HPB := Lib.hid hpb
  clear c4 hN hof hpb hJ hle hcb C3 LE3 T
  go_wp2_with fail
  refine C4.out.mono ?_
  rintro e w4 ⟨ga, rfl, h4⟩
  have c5 := h4.beside 3 ⟨#[99, 111, 114, 101]⟩
  have C5 := Lib.hid c5
  clear c5 h4 C4
  go_wp2_with fail
  refine C5.out.mono ?_
  rintro e w5 ⟨gb, rfl, h5⟩
  clear C5
  have ho1 : offOf [((⟨#[99, 111, 114, 101]⟩ : ByteArray), p)] ⟨#[109, 111, 100, 101, 109]⟩ = none := by rw [offOf, fold_modem]; simp [lookP]
  have ho2 : offOf [((⟨#[99, 111, 114, 101]⟩ : ByteArray), p)] ⟨#[99, 111, 114, 101]⟩ = some p := by rw [offOf, fold_core]; simp [lookP]
  have HO1 := Lib.hid ho1; have HO2 := Lib.hid ho2
  clear ho1 ho2
  have c6 := ld_step h5 (by decide) (by simp [LQ.start]) (by simp [LQ.start])
  rw [HO1.out] at c6
  have q1 : (LQ.start 3 [] 0).stepQ (Option.map (fun x : Part => x.bs) none) 2 = (true, { LQ.start 3 [] 0 with err := 182 }) := rfl
  rw [q1] at c6
  have C6 := Lib.hid c6
  clear c6 h5 q1
  go_wp2_with fail
  refine C6.out.mono ?_
  rintro e w6 ⟨J6, le6, rfl, h6⟩
  have c7 := lq_err h6
  obtain ⟨la, h7⟩ := h6.other (qb := LQ.start 3 [] 0) ⟨tries_le 3, (fun k hk => nomatch hk), .inr (.inl ⟨rfl, rfl⟩)⟩ rfl rfl rfl rfl rfl rfl rfl rfl rfl rfl rfl
  have c8 := lq_wants h7
  have c9 := ld_step h7 (show ByteArray.size ⟨#[99, 111, 114, 101]⟩ ≤ 1000000 by decide) (by simp [LQ.start]) (by simp [LQ.start])
  simp only [HO2.out, Option.map_some, HPB.out] at c9
  have q2 : (LQ.start 3 [] 0).stepQ (some [97, 98, 99]) 2 = (true, { LQ.start 3 [] 0 with cnt := 1, out := [(-1, [97, 98, 99])], wants := -2 }) := by rfl
  rw [q2] at c9
  have C7 := Lib.hid c7; have C8 := Lib.hid c8; have C9 := Lib.hid c9; have LE6 := Lib.hid (HJ.out.trans le6)
  clear c7 c8 c9 h6 h7 q2 C6 le6
  go_wp2_with (first | (go_at_call 14; refine C7.out.mono ?_; rintro e w7 ⟨rfl, rfl⟩; dsimp only [LQ.start]) | (go_at_call 18; refine C8.out.mono ?_; rintro e w7 ⟨rfl, rfl⟩; dsimp only [LQ.start]) | (go_at_call 13; refine C9.out.mono ?_; rintro e w9 ⟨J9, le9, rfl, h9⟩; have H9 := Lib.hid h9; have LE9 := Lib.hid le9; clear h9 le9))
  have c10 := lq_take H9.out
  have C10 := Lib.hid c10
  clear c10 C9 C7 C8
  go_wp2_with fail
  refine C10.out.mono ?_
  rintro e w10 ⟨a, pp, rfl, hp, _, hx, h10⟩
  have e1 := hx (-1, [97, 98, 99]) [] rfl
  simp only [Prod.mk.injEq] at e1
  obtain ⟨rfl, hpp⟩ := e1
  clear hx C10
  obtain ⟨PA, Pc', Pb⟩ := pp
  simp only at hpp hp
  subst hpp
  have h11 := h10.alloc (.cells #[.int .i64 (-1), .slice PA 3 Pc'] 37)
  obtain ⟨B, hB⟩ := h11.rest
  have hstr : (convert 27 9 (.slice PA 3 Pc')).run Tryd.prog (w10.alloc (.cells #[.int .i64 (-1), .slice PA 3 Pc'] 37)) = .ok (.string ⟨#[97, 98, 99]⟩) (w10.alloc (.cells #[.int .i64 (-1), .slice PA 3 Pc'] 37)) :=
    conv_str Tryd.underlying27 Tryd.underlying5 Tryd.underlying9 (hp.in_ _ _ hB)
  have c12 := lq_wants h11
  have c13 := ld_step h11 (show ByteArray.size ⟨#[99, 111, 114, 101]⟩ ≤ 1000000 by decide) (by simp [LQ.start]) (by simp)
  rw [stepQ_rest _ rfl rfl (.inl rfl)] at c13
  have C12 := Lib.hid c12; have C13 := Lib.hid c13
  clear c12 c13 hB h11 h10 hp
  dsimp only [List.isEmpty_cons, Bool.not_false]
  have LEZ := Lib.hid (LE6.out.trans LE9.out)
  go_wp2_with (first | (go_at_call 18; refine C12.out.mono ?_; rintro e w12 ⟨rfl, rfl⟩; dsimp only [LQ.start]) | (go_at_call 13; refine C13.out.mono ?_; rintro e w14 ⟨J14, le14, rfl, h14⟩; have c15 := lq_err h14; have c16 := lq_left h14; have C15 := Lib.hid c15; have C16 := Lib.hid c16; have H14 := Lib.hid h14; have LE14 := Lib.hid le14; clear c15 c16 h14 le14) | (go_at_call 14; refine C15.out.mono ?_; rintro e w15 ⟨rfl, rfl⟩; dsimp only [LQ.start]) | (go_at_call 15; refine C16.out.mono ?_; rintro e w15 ⟨rfl, rfl⟩; rw [show (((LQ.start 3 [] 0).left : Nat) : Int) = 3 from rfl]))
  go_ret
  exact ⟨rfl, (H14.out.end_ (LEZ.out.trans LE14.out)).weaken (A := [_, _])⟩
end
end
end Go.Proofs.YtnhlpiomfljlcaaDoor
