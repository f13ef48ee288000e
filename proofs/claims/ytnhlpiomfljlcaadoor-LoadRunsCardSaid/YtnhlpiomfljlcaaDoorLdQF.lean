/- The loader as data: one step of it. The loader: one step of it, as data. -/
import Derived.Test.YtnhlpiomfljlcaaDoorLdE
import Derived.Test.YtnhlpiomfljlcaaDoorNtE
namespace Go.Proofs.YtnhlpiomfljlcaaDoor
section
set_option linter.unusedVariables false
set_option linter.unusedSimpArgs false
open Go.RowKit Go.Lib

/-- The loader as data: tries, what it knows, what it wants, its error, what it sent, what it was told, the net's faults, how often was fetched. -/
structure LQ where
  left : Nat
  known : Option (Int × Man)
  wants : Int
  err : Int
  out : List (Int × List UInt8)
  inn : List Nt
  fs : List Fault
  cnt : Nat
def LQ.canQ (q : LQ) (a : Int) : Bool := match q.known with
  | none => decide (a = -1)
  | some (_, m) => decide (0 ≤ a) && decide (a < m.n)
def LQ.followQ (q : LQ) (t : Nt) : LQ := match t with
  | .again a => if q.canQ a = true then (if q.left = 0 then { q with err := 191 } else { q with left := q.left - 1, wants := a }) else { q with err := 192 }
  | .go h m => if q.known = none ∧ rightM m = true ∧ 0 ≤ h ∧ h ≤ 2304 then { q with known := some (h, m), wants := 0 } else { q with err := 192 }
  | _ => { q with err := 192 }
def LQ.tryQ (q : LQ) : LQ := if q.left = 0 then { q with err := 191 } else { q with left := q.left - 1 }
def LQ.askQ (q : LQ) : Int × Int := if q.wants = -1 then (0, 2304) else match q.known with
  | some (h, m) => (h + (spanM m q.wants).1, (spanM m q.wants).2)
  | none => (0, 2304)
def LQ.nextQ (q : LQ) : Int := match q.known with
  | none => -2
  | some (_, m) => if q.wants + 1 = m.n then -2 else q.wants + 1
def LQ.stepQ (o : Option (List UInt8)) (n : Nat) (q : LQ) : Bool × LQ :=
  if q.err ≠ 0 then (false, q) else
  match q.inn with
  | t :: rest => (true, ({ q with inn := rest } : LQ).followQ t)
  | [] =>
    if q.wants = -2 ∨ n ≤ q.out.length then (false, q) else
    match o with
    | none => (true, { q with err := 182 })
    | some bs =>
      if (fetched bs (first q.fs) q.askQ.1 q.askQ.2).2 = 0 then
        (true, { q with fs := q.fs.tail, cnt := q.cnt + 1, out := q.out ++ [(q.wants, (fetched bs (first q.fs) q.askQ.1 q.askQ.2).1)], wants := q.nextQ })
      else (true, ({ q with fs := q.fs.tail, cnt := q.cnt + 1 } : LQ).tryQ)
theorem fetched_e2 (bs : List UInt8) (f : Fault) (a m : Int) : (fetched bs f a m).2 = 0 ∨ (fetched bs f a m).2 = 181 := by
  unfold fetched
  split
  · exact .inr rfl
  · split
    · exact .inl rfl
    · split
      · exact .inl rfl
      · split
        · exact .inl rfl
        · exact .inl rfl
theorem piece_le (bs : List UInt8) (a m : Int) : (piece bs a m).length ≤ bs.length := by
  unfold piece
  split
  · simp
  · simp only [List.length_take, List.length_drop]; omega
theorem fetched_le (bs : List UInt8) (f : Fault) (a m : Int) : (fetched bs f a m).1.length ≤ bs.length := by
  have h1 := piece_le bs a m
  have h2 := piece_le bs f.at_ m
  unfold fetched
  split
  · simp
  · split
    · simp only [turned]
      split
      · simp
      · simpa using h1
    · split
      · simp only [List.length_take]; omega
      · split
        · exact h2
        · exact h1

def Lder.kn (l : Lder) : Option (Int × Man) := l.known.map fun k => (k.head, k.m)
def pcOf (x : Int × Part) : Pc := ⟨x.1, x.2.A, x.2.bs.length, x.2.c⟩
def OutIs (W : World) (J : Nat → Option Obj) (xs : List Pc) (out : List (Int × List UInt8)) : Prop :=
  ∃ ps : List (Int × Part), xs = ps.map pcOf ∧ out = ps.map (fun x => (x.1, x.2.bs)) ∧ ∀ x ∈ ps, POk x.2 W J
/-- The loader and its two rings and its net in memory, beside what it is as data. -/
structure LdIs (W : World) (J : Nat → Option Obj) (gn : Nat) (es : List (ByteArray × Part)) (name : ByteArray) (ro ri n : Nat) (q : LQ) (l : Lder) (ρo : Qing) (ρi : Ring) : Prop where
  ok : l.Ok J
  gn : l.gn = gn
  nm : l.name = name
  lo : l.ro = ro
  li : l.ri = ri
  qo : ρo.Ok
  qi : ρi.Ok
  shut : ρi.closed = false
  r_o : ρo.r = ro
  r_i : ρi.r = ri
  n : ρo.n = n
  left : l.left = q.left
  known : l.kn = q.known
  wants : l.wants = q.wants
  err : l.err = q.err
  inn : ρi.xs = q.inn.map Nt.v
  out : OutIs W J ρo.xs q.out
  nts : ∀ t ∈ q.inn, t.Ok
  offs : Offs W J es
  tb : TB W J
abbrev ldG (g : Nat) (l : Lder) : Nat × Obj := (g, .cells l.cells 98 (0, 0))
abbrev ldO (ρ : Qing) : List (Nat × Obj) := ρ.L 93 37
abbrev ldI (ρ : Ring) : List (Nat × Obj) := ρ.L 95 34
def LdSt (W w : World) (J : Nat → Option Obj) (g gn m : Nat) (es : List (ByteArray × Part)) (name : ByteArray) (ro ri n ni : Nat) (q : LQ) (F : List (Nat × Obj)) : Prop :=
  ∃ l ρo ρi, LdIs W J gn es name ro ri n q l ρo ρi ∧ ρi.n = ni ∧ NetSt W w J gn m es q.fs q.cnt (ldG g l :: (ldO ρo ++ (ldI ρi ++ F)))

section
variable {W w : World} {J J' : Nat → Option Obj} {F N : List (Nat × Obj)} {G : Nat × Obj} {O K : List (Nat × Obj)}
theorem St.toI (h : St W w J (N ++ (G :: (O ++ (K ++ F))))) : St W w J (K ++ (N ++ (G :: (O ++ F)))) := by
  have h2 : St W w J ((N ++ (G :: O)) ++ (K ++ F)) := by simpa [List.append_assoc] using h
  have h3 := h2.swap
  simpa [List.append_assoc] using h3
theorem St.ofI (h : St W w J (K ++ (N ++ (G :: (O ++ F))))) : St W w J (N ++ (G :: (O ++ (K ++ F)))) := by
  have h2 : St W w J (K ++ ((N ++ (G :: O)) ++ F)) := by simpa [List.append_assoc] using h
  have h3 := h2.swap
  simpa [List.append_assoc] using h3
theorem St.toO (h : St W w J (N ++ (G :: (O ++ (K ++ F))))) : St W w J (O ++ (N ++ (G :: (K ++ F)))) := by
  have h2 : St W w J ((N ++ [G]) ++ (O ++ (K ++ F))) := by simpa [List.append_assoc] using h
  have h3 := h2.swap
  simpa [List.append_assoc] using h3
theorem St.ofO (h : St W w J (O ++ (N ++ (G :: (K ++ F))))) : St W w J (N ++ (G :: (O ++ (K ++ F)))) := by
  have h2 : St W w J (O ++ ((N ++ [G]) ++ (K ++ F))) := by simpa [List.append_assoc] using h
  have h3 := h2.swap
  simpa [List.append_assoc] using h3
theorem St.toG (h : St W w J (N ++ (G :: F))) : St W w J (G :: (N ++ F)) := St.swap (B := [G]) h
theorem St.ofG (h : St W w J (G :: (N ++ F))) : St W w J (N ++ (G :: F)) := St.swap (A := [G]) h
theorem Kn.In.mono {k : Kn} (h : k.In J) (hle : Le J J') : k.In J' := ⟨hle _ _ h.at_, h.ok, h.name, h.right, h.h0, h.h1⟩
theorem Lder.Ok.mono {l : Lder} (h : l.Ok J) (hle : Le J J') : l.Ok J' := ⟨h.left, fun k hk => (h.known k hk).mono hle, h.wants⟩
theorem OutIs.mono {xs : List Pc} {out : List (Int × List UInt8)} (h : OutIs W J xs out) (hle : Le J J') : OutIs W J' xs out := let ⟨ps, h1, h2, h3⟩ := h; ⟨ps, h1, h2, fun x hx => (h3 x hx).mono hle⟩
theorem OutIs.len {xs : List Pc} {out : List (Int × List UInt8)} (h : OutIs W J xs out) : xs.length = out.length := by obtain ⟨ps, rfl, rfl, _⟩ := h; simp
theorem OutIs.add {xs : List Pc} {out : List (Int × List UInt8)} (h : OutIs W J xs out) (a : Int) (p : Part) (hp : POk p W J) : OutIs W J (xs ++ [⟨a, p.A, p.bs.length, p.c⟩]) (out ++ [(a, p.bs)]) := by
  obtain ⟨ps, rfl, rfl, h3⟩ := h
  refine ⟨ps ++ [(a, p)], by simp [pcOf], by simp, ?_⟩
  intro x hx
  rcases List.mem_append.1 hx with hx | hx
  · exact h3 x hx
  · rw [List.mem_singleton.1 hx]; exact hp
theorem OutIs.tail {xs : List Pc} {out : List (Int × List UInt8)} (h : OutIs W J xs out) : OutIs W J xs.tail out.tail := by
  obtain ⟨ps, rfl, rfl, h3⟩ := h
  exact ⟨ps.tail, by simp, by simp, fun x hx => h3 x (List.mem_of_mem_tail hx)⟩
end
section
variable {l : Lder} {q : LQ} {known : Option Kn}
theorem canB_eq (hk : l.kn = q.known) (a : Int) : l.canB a = q.canQ a := by
  unfold Lder.canB LQ.canQ
  rw [← hk, Lder.kn]
  cases l.known <;> rfl
theorem ask_eq (hk : l.kn = q.known) (hw : l.wants = q.wants) : l.ask = q.askQ := by
  unfold Lder.ask LQ.askQ
  rw [← hk, ← hw, Lder.kn]
  cases l.known <;> rfl
theorem next_eq (hk : l.kn = q.known) (hw : l.wants = q.wants) : nextW l.known l.wants = q.nextQ := by
  unfold nextW LQ.nextQ
  rw [← hk, ← hw, Lder.kn]
  cases l.known <;> rfl
end
end

section
set_option linter.unusedVariables false
set_option linter.unusedSimpArgs false
open Go.RowKit Go.Lib

section
variable {W w : World} {J : Nat → Option Obj} {F : List (Nat × Obj)} {g gn m : Nat} {es : List (ByteArray × Part)} {name : ByteArray} {ro ri n ni : Nat} {q : LQ}
def StepPost (W : World) (J : Nat → Option Obj) (g gn m : Nat) (es : List (ByteArray × Part)) (name : ByteArray) (ro ri n ni : Nat) (F : List (Nat × Obj)) (b : Bool) (q' : LQ) (e : Ending) (w' : World) : Prop :=
  ∃ J', Le J J' ∧ e = .returned (.bool b) ∧ LdSt W w' J' g gn m es name ro ri n ni q' F

theorem ld_all {φ : List (Nat × Obj)} {l : Lder} {ρo : Qing} {ρi : Ring} (h : St W w J (φ ++ (ldG g l :: (ldO ρo ++ (ldI ρi ++ F))))) :
    w.cell? ⟨g, 3, none⟩ = some (.pointer (some ⟨l.ro, 0, none⟩)) ∧ w.cell? ⟨g, 4, none⟩ = some (.pointer (some ⟨l.ri, 0, none⟩)) ∧ w.cell? ⟨g, 6, none⟩ = some (.int .i64 l.wants) ∧ w.cell? ⟨g, 7, none⟩ = some (.int .i64 l.err) ∧ w.frozen? ⟨g, 7, none⟩ = false := by
  have hg := h.toG
  obtain ⟨_, _, _, c3, c4, _, c6, c7⟩ := ld_cells hg
  exact ⟨c3, c4, c6, c7, ld_frozen hg 7⟩

/-- An error stays. -/
theorem step_err (h : LdSt W w J g gn m es name ro ri n ni q F) (he : q.err ≠ 0) :
    Calls Tryd.prog 13 #[.pointer (some ⟨g, 0, none⟩)] w (StepPost W J g gn m es name ro ri n ni F false q) := by
  obtain ⟨l, ρo, ρi, hi, hni, φ, hs⟩ := h
  obtain ⟨c3, c4, c6, c7, f7⟩ := ld_all hs
  rw [hi.err] at c7
  have hz : (q.err != 0) = true := by simpa using he
  have hfin : StepPost W J g gn m es name ro ri n ni F false q (.returned (.bool false)) w := ⟨J, Le.refl _, rfl, l, ρo, ρi, hi, hni, φ, hs⟩
  have H := Lib.hid hfin
  clear hfin hs hi hni
  go_enter Tryd.func13, Tryd.ntmps13
  go_wp2_with fail
  go_ret
  exact H.out

/-- Nothing waits: what a receive leaves. -/
theorem ld_recv0 {l : Lder} {ρo : Qing} {ρi : Ring} {φ : List (Nat × Obj)} (qi : ρi.Ok) (hx : ρi.xs = []) (hs : St W w J (φ ++ (ldG g l :: (ldO ρo ++ (ldI ρi ++ F))))) :
    Calls Tryd.prog 36 #[.pointer (some ⟨ρi.r, 0, none⟩)] w fun e w' => e = .returned (.tuple #[.nilIface, .bool false]) ∧ St W w' J (φ ++ (ldG g l :: (ldO ρo ++ (ldI ρi ++ F)))) := by
  refine (recv_nt ρi qi hs.toI).mono ?_
  rintro e w' ⟨rfl, h⟩
  rw [show ρi.recv .nilIface = ρi from if_pos hx] at h
  refine ⟨?_, h.ofI⟩
  rw [Ring.front, Ring.any, hx]; rfl

/-- What it was told. -/
theorem step_told (h : LdSt W w J g gn m es name ro ri n ni q F) (he : q.err = 0) {t : Nt} {rest : List Nt} (hq : q.inn = t :: rest) :
    Calls Tryd.prog 13 #[.pointer (some ⟨g, 0, none⟩)] w (StepPost W J g gn m es name ro ri n ni F true (({ q with inn := rest } : LQ).followQ t)) := by
  obtain ⟨l, ρo, ρi, hi, hni, φ, hs⟩ := h
  obtain ⟨c3, c4, c6, c7, f7⟩ := ld_all hs
  rw [hi.err, he] at c7
  rw [hi.li, ← hi.r_i] at c4
  have hxs : ρi.xs = t.v :: rest.map Nt.v := by rw [hi.inn, hq]; rfl
  have hrecv : ∀ v, St W v J (φ.L' gn m es q.cnt ++ (ldG g l :: (ldO ρo ++ (ldI ρi ++ F)))) → Calls Tryd.prog 36 #[.pointer (some ⟨ρi.r, 0, none⟩)] v fun e w' => e = .returned (.tuple #[.iface t.T t.d, .bool true]) ∧ St W w' J (φ.L' gn m es q.cnt ++ (ldG g l :: (ldO ρo ++ (ldI (ρi.recv .nilIface) ++ F)))) := by
    intro v hv
    refine (recv_nt ρi hi.qi hv.toI).mono ?_
    rintro e w' ⟨rfl, h⟩
    refine ⟨?_, h.ofI⟩
    rw [Ring.front, Ring.any, hxs]; rfl
  have hfol : ∀ v, St W v J (φ.L' gn m es q.cnt ++ (ldG g l :: (ldO ρo ++ (ldI (ρi.recv .nilIface) ++ F)))) → Calls Tryd.prog 37 #[.pointer (some ⟨g, 0, none⟩), .iface t.T t.d] v fun e w' => e = .returned (.tuple #[]) ∧ StepPost W J g gn m es name ro ri n ni F true (({ q with inn := rest } : LQ).followQ t) (.returned (.bool true)) w' := by
    intro v hv
    have htok : t.Ok := hi.nts t (by rw [hq]; exact List.mem_cons_self ..)
    have hg := hv.toG
    have hcall : Calls Tryd.prog 37 #[.pointer (some ⟨g, 0, none⟩), t.v] v (FolPost W J g l t (φ.L' gn m es q.cnt ++ (ldO ρo ++ (ldI (ρi.recv .nilIface) ++ F)))) := by
      cases t with
      | again a => exact follow_again hi.ok a hg
      | go h m' => exact follow_go hi.tb hi.ok h m' htok.1 htok.2 hg
      | body x => exact follow_other hi.ok _ (.inl ⟨x, rfl⟩) hg
      | fin x => exact follow_other hi.ok _ (.inr ⟨x, rfl⟩) hg
    refine hcall.mono ?_
    rintro e w' ⟨rfl, J', b, hle, hok, h2⟩
    refine ⟨rfl, J', hle, rfl, l.followL t b, ρo, ρi.recv .nilIface, ?_, by rw [Ring.recv_n]; exact hni, ?_⟩
    · have hcan := fun a => canB_eq hi.known a
      have hkn : l.known = none ↔ q.known = none := by rw [← hi.known, Lder.kn]; cases l.known <;> simp
      have base : ∀ (l' : Lder) (q' : LQ), l'.Ok J' → l'.gn = l.gn → l'.name = l.name → l'.ro = l.ro → l'.ri = l.ri → l'.left = q'.left → l'.kn = q'.known → l'.wants = q'.wants → l'.err = q'.err → q'.inn = rest → q'.out = q.out → LdIs W J' gn es name ro ri n q' l' ρo (ρi.recv .nilIface) := by
        intro l' q' h1 h2 h3 h4 h5 h6 h7 h8 h9 h10 h11
        refine ⟨h1, h2.trans hi.gn, h3.trans hi.nm, h4.trans hi.lo, h5.trans hi.li, hi.qo, Ring.recv_ok hi.qi _, by rw [Ring.recv_closed]; exact hi.shut, hi.r_o, by rw [Ring.recv_r]; exact hi.r_i, hi.n, h6, h7, h8, h9, ?_, ?_, ?_, hi.offs.mono hle, hi.tb.more hle⟩
        · rw [Ring.recv_xs, hxs, h10]; rfl
        · rw [h11]; exact hi.out.mono hle
        · rw [h10]; exact fun t' ht' => hi.nts t' (by rw [hq]; exact List.mem_cons_of_mem _ ht')
      have hl := hi.left
      cases t with
      | again a =>
        have hc : ({ q with inn := rest } : LQ).canQ a = l.canB a := (hcan a).symm
        cases hcb : l.canB a with
        | false =>
          have e1 : l.followL (.again a) b = { l with err := 192 } := by rw [Lder.followL]; simp only [hcb, Bool.false_eq_true, if_false]
          have e2 : ({ q with inn := rest } : LQ).followQ (.again a) = { q with inn := rest, err := 192 } := by rw [LQ.followQ]; simp only [hc, hcb, Bool.false_eq_true, if_false]
          rw [e1] at hok ⊢
          rw [e2]
          exact base _ _ hok rfl rfl rfl rfl hl hi.known hi.wants rfl rfl rfl
        | true =>
          by_cases h0 : l.left = 0
          · have e1 : l.followL (.again a) b = { l with err := 191 } := by rw [Lder.followL]; simp only [hcb, if_true, if_pos h0]
            have e2 : ({ q with inn := rest } : LQ).followQ (.again a) = { q with inn := rest, err := 191 } := by rw [LQ.followQ]; simp only [hc, hcb, if_true]; exact if_pos (hl ▸ h0)
            rw [e1] at hok ⊢
            rw [e2]
            exact base _ _ hok rfl rfl rfl rfl hl hi.known hi.wants rfl rfl rfl
          · have e1 : l.followL (.again a) b = { l with left := l.left - 1, wants := a } := by rw [Lder.followL]; simp only [hcb, if_true, if_neg h0]
            have e2 : ({ q with inn := rest } : LQ).followQ (.again a) = { q with inn := rest, left := q.left - 1, wants := a } := by rw [LQ.followQ]; simp only [hc, hcb, if_true]; exact if_neg (hl ▸ h0)
            rw [e1] at hok ⊢
            rw [e2]
            exact base _ _ hok rfl rfl rfl rfl (by show l.left - 1 = q.left - 1; rw [hl]) hi.known rfl hi.err rfl rfl
      | go h m' =>
        by_cases hc : l.known = none ∧ rightM m' = true ∧ 0 ≤ h ∧ h ≤ 2304
        · have hc' : q.known = none ∧ rightM m' = true ∧ 0 ≤ h ∧ h ≤ 2304 := ⟨hkn.1 hc.1, hc.2⟩
          have e1 : l.followL (.go h m') b = { l with known := some ⟨b, h, m'⟩, wants := 0 } := if_pos hc
          have e2 : ({ q with inn := rest } : LQ).followQ (.go h m') = { q with inn := rest, known := some (h, m'), wants := 0 } := if_pos hc'
          rw [e1] at hok ⊢
          rw [e2]
          exact base _ _ hok rfl rfl rfl rfl hl rfl rfl hi.err rfl rfl
        · have hc' : ¬ (q.known = none ∧ rightM m' = true ∧ 0 ≤ h ∧ h ≤ 2304) := fun x => hc ⟨hkn.2 x.1, x.2⟩
          have e1 : l.followL (.go h m') b = { l with err := 192 } := if_neg hc
          have e2 : ({ q with inn := rest } : LQ).followQ (.go h m') = { q with inn := rest, err := 192 } := if_neg hc'
          rw [e1] at hok ⊢
          rw [e2]
          exact base _ _ hok rfl rfl rfl rfl hl hi.known hi.wants rfl rfl rfl
      | body x => exact base _ _ hok rfl rfl rfl rfl hl hi.known hi.wants rfl rfl rfl
      | fin x => exact base _ _ hok rfl rfl rfl rfl hl hi.known hi.wants rfl rfl rfl
    · have e1 : (({ q with inn := rest } : LQ).followQ t).fs = q.fs := by
        cases t <;> simp only [LQ.followQ] <;> repeat' split
        all_goals rfl
      have e2 : (({ q with inn := rest } : LQ).followQ t).cnt = q.cnt := by
        cases t <;> simp only [LQ.followQ] <;> repeat' split
        all_goals rfl
      rw [e1, e2]
      exact ⟨φ, h2.ofG⟩
  have hs2 : ∀ k, St W (w.drewN k) J (φ.L' gn m es q.cnt ++ (ldG g l :: (ldO ρo ++ (ldI ρi ++ F)))) := fun k => hs.drew k
  have HS := Lib.hid hs; have HR := Lib.hid hrecv; have HF := Lib.hid hfol; have HS2 := Lib.hid hs2
  clear hs hs2 hrecv hfol hi hni hxs
  generalize t.T = tT at *
  generalize t.d = tD at *
  go_enter Tryd.func13, Tryd.ntmps13
  go_wp2_with (first | (go_at_call 36; refine (HR.out _ HS.out).mono ?_; rintro e w1 ⟨rfl, h1⟩; have H1 := Lib.hid h1; clear h1) | (go_at_call 37; refine (HF.out _ H1.out).mono ?_; rintro e w2 ⟨rfl, h2⟩; have H2 := Lib.hid h2; clear h2))
  go_ret
  exact H2.out
end
end
end Go.Proofs.YtnhlpiomfljlcaaDoor
