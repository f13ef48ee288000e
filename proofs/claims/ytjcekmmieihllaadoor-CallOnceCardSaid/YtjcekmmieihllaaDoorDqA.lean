/- call: a desk of the document's, and that both are the same: plain Lean. call: each call is answered once: plain Lean. call: desks stay right; replies held against each other; acts: plain Lean. -/
import Derived.Test.YtjcekmmieihllaaDoorDkC
import Derived.Test.YtjcekmmieihllaaDoorGnA
import Derived.Test.YtjcekmmieihllaaDoorCaV
import Derived.Test.YtjcekmmieihllaaDoorRarg
namespace Go.Proofs.YtjcekmmieihllaaDoor
section
set_option linter.unusedVariables false
set_option linter.unusedSimpArgs false
set_option linter.unnecessarySimpa false
open Go.RowKit Go.Lib

/-- Where a client's call stands. -/
def findR (all : List Pn) (c : Int) : Option Nat := all.findIdx? (fun p => p.call.client == c)
def idxR (all : List Pn) (c : Int) : Int := match findR all c with | none => -1 | some k => (k : Int)
def askR (n : Nat) (all : List Pn) (last : Int) (c : Cl) : (List Pn × Int) × (Int × Int) :=
  if rightC c = true then (if (n : Int) ≤ c.client ∨ (findR all c.client).isSome = true then ((all, last), (0, 242)) else ((all ++ [⟨c, last + 1, 1, zR⟩], last + 1), (last + 1, 0))) else ((all, last), (0, 241))
def waits1 (all : List Pn) (i : Nat) : Option Nat := match findR all (i : Int) with | none => none | some k => if (all[k]?.getD zP).stage = 1 then some k else none
def waitR (n : Nat) (all : List Pn) : List Nat := (List.range n).filterMap (waits1 all)
def nextR (n : Nat) (all : List Pn) (pick : Int) : List Pn × (Int × Cl × Bool) :=
  match (waitR n all)[(max pick 0).toNat % (waitR n all).length]? with
  | none => (all, (0, zC, false))
  | some k => (all.set k { all[k]?.getD zP with stage := 2 }, ((all[k]?.getD zP).serial, (all[k]?.getD zP).call, true))
def takeR (all : List Pn) (c : Int) : List Pn × (Int × Rp × Bool) :=
  match findR all c with
  | none => (all, (0, zR, false))
  | some k => if (all[k]?.getD zP).stage = 3 then (all.take k ++ all.drop (k + 1), ((all[k]?.getD zP).serial, (all[k]?.getD zP).rep, true)) else (all, (0, zR, false))
def serR (all : List Pn) (c : Int) : Int := match findR all c with | none => 0 | some k => (all[k]?.getD zP).serial
/-- Both desks are the same. -/
structure Sim (ps all : List Pn) (last : Int) : Prop where
  a : ∀ p ∈ all, 0 ≤ p.call.client ∧ ps[p.call.client.toNat]? = some p ∧ p.stage ≠ 0 ∧ 1 ≤ p.serial ∧ p.serial ≤ last
  b : ∀ (i : Nat) (p : Pn), ps[i]? = some p → p = zP ∨ (p ∈ all ∧ p.call.client = (i : Int))
  n : (all.map (·.call.client)).Nodup
  s : (all.map (·.serial)).Nodup
theorem findR_some {all : List Pn} {c : Int} {k : Nat} (h : findR all c = some k) : ∃ p, all[k]? = some p ∧ p.call.client = c := by
  unfold findR at h
  rw [List.findIdx?_eq_some_iff_getElem] at h
  obtain ⟨h1, h2, _⟩ := h
  exact ⟨_, List.getElem?_eq_getElem h1, by simpa using h2⟩
theorem findR_none {all : List Pn} {c : Int} (h : findR all c = none) : ∀ p ∈ all, p.call.client ≠ c := by
  unfold findR at h
  rw [List.findIdx?_eq_none_iff] at h
  intro p hp
  simpa using h p hp
theorem nodup_at {α β : Type} (f : α → β) {l : List α} (h : (l.map f).Nodup) {i j : Nat} {p q : α} (hi : l[i]? = some p) (hj : l[j]? = some q) (e : f p = f q) : i = j := by
  have h1 : (l.map f)[i]? = some (f p) := by rw [List.getElem?_map, hi]; rfl
  have h2 : (l.map f)[j]? = some (f p) := by rw [List.getElem?_map, hj, e]; rfl
  obtain ⟨a1, -⟩ := List.getElem?_eq_some_iff.1 h1
  obtain ⟨a2, -⟩ := List.getElem?_eq_some_iff.1 h2
  have hn := List.pairwise_iff_getElem.1 h
  rw [List.getElem?_eq_getElem a1] at h1
  rw [List.getElem?_eq_getElem a2] at h2
  rcases Nat.lt_trichotomy i j with hlt | he | hlt
  · exact absurd (Option.some.inj (h1.trans h2.symm)) (hn i j a1 a2 hlt)
  · exact he
  · exact absurd (Option.some.inj (h2.trans h1.symm)) (hn j i a2 a1 hlt)
theorem findR_at {all : List Pn} (h : (all.map (·.call.client)).Nodup) {k : Nat} {p : Pn} (hk : all[k]? = some p) : findR all p.call.client = some k := by
  cases hf : findR all p.call.client with
  | none => exact absurd rfl (findR_none hf p (List.mem_of_getElem? hk))
  | some j =>
    obtain ⟨q, h1, h2⟩ := findR_some hf
    rw [nodup_at (·.call.client) h h1 hk h2]
section
variable {ps all : List Pn} {last : Int}
theorem Sim.non (h : Sim ps all last) {i : Nat} (hi : i < ps.length) (hf : findR all (i : Int) = none) : ps[i]? = some zP := by
  obtain ⟨p, hp⟩ : ∃ p, ps[i]? = some p := ⟨_, List.getElem?_eq_getElem hi⟩
  rcases h.b i p hp with rfl | ⟨h1, h2⟩
  · exact hp
  · exact absurd h2 (findR_none hf p h1)
theorem Sim.hit (h : Sim ps all last) {c : Int} {k : Nat} (hf : findR all c = some k) : ∃ p, all[k]? = some p ∧ p.call.client = c ∧ 0 ≤ c ∧ ps[c.toNat]? = some p ∧ p.stage ≠ 0 := by
  obtain ⟨p, h1, h2⟩ := findR_some hf
  obtain ⟨a, b, d, _⟩ := h.a p (List.mem_of_getElem? h1)
  exact ⟨p, h1, h2, h2 ▸ a, h2 ▸ b, d⟩
theorem Sim.atD_none (h : Sim ps all last) {c : Int} (hf : findR all c = none) : atD ps c = none ∨ atD ps c = some zP := by
  unfold atD
  by_cases h0 : 0 ≤ c
  · rw [if_pos h0]
    obtain ⟨i, rfl⟩ : ∃ i : Nat, c = (i : Int) := ⟨c.toNat, by omega⟩
    rw [Int.toNat_natCast]
    by_cases hi : i < ps.length
    · exact .inr (h.non hi hf)
    · exact .inl (List.getElem?_eq_none (by omega))
  · rw [if_neg h0]; exact .inl rfl
theorem Sim.ser (h : Sim ps all last) (c : Int) : pendD ps c = serR all c := by
  unfold pendD serR
  cases hf : findR all c with
  | none => rcases h.atD_none hf with e | e <;> rw [e] <;> rfl
  | some k =>
    obtain ⟨p, h1, h2, h3, h4, _⟩ := h.hit hf
    unfold atD
    rw [if_pos h3, h4]
    dsimp only
    rw [h1]
    rfl
theorem Sim.ask (h : Sim ps all last) (l0 : 0 ≤ last) (c : Cl) : (askD ps last c).2 = (askR ps.length all last c).2 ∧ (askD ps last c).1.2 = (askR ps.length all last c).1.2 ∧ (askD ps last c).1.1.length = ps.length ∧ Sim (askD ps last c).1.1 (askR ps.length all last c).1.1 (askD ps last c).1.2 := by
  unfold askD askR
  by_cases hr : rightC c = true
  · obtain ⟨q0, q1, -⟩ := rightC_facts c hr
    rw [if_pos hr, if_pos hr]
    by_cases hn : (ps.length : Int) ≤ c.client
    · rw [if_pos (.inl hn), List.getElem?_eq_none (by omega)]
      exact ⟨rfl, rfl, rfl, h⟩
    · obtain ⟨i, hi⟩ : ∃ i : Nat, c.client = (i : Int) := ⟨c.client.toNat, by omega⟩
      have hil : i < ps.length := by omega
      rw [hi, Int.toNat_natCast]
      cases hf : findR all (i : Int) with
      | some k =>
        obtain ⟨p, h1, h2, h3, h4, h5⟩ := h.hit hf
        rw [Int.toNat_natCast] at h4
        rw [h4, if_pos (.inr rfl)]
        dsimp only
        rw [if_neg h5]
        exact ⟨rfl, rfl, rfl, h⟩
      | none =>
        rw [h.non hil hf, if_neg (by simp; omega)]
        dsimp only
        rw [if_pos (show zP.stage = 0 from rfl)]
        dsimp only
        refine ⟨rfl, rfl, List.length_set, ⟨fun p hp => ?_, fun j p hp => ?_, ?_, ?_⟩⟩
        · rcases List.mem_append.1 hp with hp | hp
          · obtain ⟨a1, a2, a3, a4, a5⟩ := h.a p hp
            have hne : i ≠ p.call.client.toNat := fun e => findR_none hf p hp (by omega)
            exact ⟨a1, by rw [List.getElem?_set_ne hne]; exact a2, a3, a4, by omega⟩
          · simp only [List.mem_singleton] at hp
            subst hp
            exact ⟨by show 0 ≤ c.client; omega, by show (ps.set i _)[c.client.toNat]? = _; rw [hi, Int.toNat_natCast]; exact List.getElem?_set_self hil, by show (1 : Int) ≠ 0; decide, by show 1 ≤ last + 1; omega, by show last + 1 ≤ last + 1; omega⟩
        · by_cases hij : i = j
          · subst hij
            rw [List.getElem?_set_self hil] at hp
            cases hp
            exact .inr ⟨by simp, hi⟩
          · rw [List.getElem?_set_ne hij] at hp
            rcases h.b j p hp with rfl | ⟨h1, h2⟩
            · exact .inl rfl
            · exact .inr ⟨by simp [h1], h2⟩
        · rw [List.map_append, List.nodup_append]
          refine ⟨h.n, by simp, fun a ha b hb => ?_⟩
          obtain ⟨p, hp, rfl⟩ := List.mem_map.1 ha
          simp only [List.map_cons, List.map_nil, List.mem_singleton] at hb
          subst hb
          rw [hi]
          exact findR_none hf p hp
        · rw [List.map_append, List.nodup_append]
          refine ⟨h.s, by simp, fun a ha b hb => ?_⟩
          obtain ⟨p, hp, rfl⟩ := List.mem_map.1 ha
          simp only [List.map_cons, List.map_nil, List.mem_singleton] at hb
          subst hb
          obtain ⟨_, _, _, _, a5⟩ := h.a p hp
          omega
  · rw [if_neg hr, if_neg hr]
    exact ⟨rfl, rfl, rfl, h⟩
/-- One of them becomes another one, of the same client and the same serial. -/
theorem Sim.set (h : Sim ps all last) {k : Nat} {p : Pn} (hk : all[k]? = some p) (q : Pn) (e1 : q.call.client = p.call.client) (e2 : q.serial = p.serial) (e3 : q.stage ≠ 0) : Sim (ps.set p.call.client.toNat q) (all.set k q) last := by
  have hkl := (List.getElem?_eq_some_iff.1 hk).1
  obtain ⟨a1, a2, a3, a4, a5⟩ := h.a p (List.mem_of_getElem? hk)
  have hil := (List.getElem?_eq_some_iff.1 a2).1
  refine ⟨fun x hx => ?_, fun j x hx => ?_, ?_, ?_⟩
  · obtain ⟨j, hj⟩ := List.getElem?_of_mem hx
    by_cases hjk : k = j
    · subst hjk
      rw [List.getElem?_set_self hkl] at hj
      cases hj
      exact ⟨by omega, by rw [e1]; exact List.getElem?_set_self hil, e3, by omega, by omega⟩
    · rw [List.getElem?_set_ne hjk] at hj
      obtain ⟨b1, b2, b3, b4, b5⟩ := h.a x (List.mem_of_getElem? hj)
      have hne : p.call.client.toNat ≠ x.call.client.toNat := fun e => hjk (nodup_at (·.call.client) h.n hk hj (by show p.call.client = x.call.client; omega))
      exact ⟨b1, by rw [List.getElem?_set_ne hne]; exact b2, b3, b4, b5⟩
  · by_cases hij : p.call.client.toNat = j
    · subst hij
      rw [List.getElem?_set_self hil] at hx
      cases hx
      exact .inr ⟨List.mem_of_getElem? (List.getElem?_set_self hkl), by omega⟩
    · rw [List.getElem?_set_ne hij] at hx
      rcases h.b j x hx with rfl | ⟨h1, h2⟩
      · exact .inl rfl
      · refine .inr ⟨?_, h2⟩
        obtain ⟨m, hm⟩ := List.getElem?_of_mem h1
        have hmk : k ≠ m := by
          rintro rfl
          rw [hk] at hm
          cases hm
          omega
        exact List.mem_of_getElem? (by rw [List.getElem?_set_ne hmk]; exact hm)
  · have : (all.set k q).map (·.call.client) = all.map (·.call.client) := by
      rw [List.map_set, e1]
      apply List.ext_getElem?
      intro j
      by_cases hjk : k = j
      · subst hjk
        rw [List.getElem?_set_self (by simpa using hkl), List.getElem?_map, hk]; rfl
      · rw [List.getElem?_set_ne hjk]
    rw [this]; exact h.n
  · have : (all.set k q).map (·.serial) = all.map (·.serial) := by
      rw [List.map_set, e2]
      apply List.ext_getElem?
      intro j
      by_cases hjk : k = j
      · subst hjk
        rw [List.getElem?_set_self (by simpa using hkl), List.getElem?_map, hk]; rfl
      · rw [List.getElem?_set_ne hjk]
    rw [this]; exact h.s
/-- One of them is gone. -/
theorem Sim.gone (h : Sim ps all last) {k : Nat} {p : Pn} (hk : all[k]? = some p) : Sim (ps.set p.call.client.toNat zP) (all.take k ++ all.drop (k + 1)) last := by
  have hkl := (List.getElem?_eq_some_iff.1 hk).1
  obtain ⟨a1, a2, a3, a4, a5⟩ := h.a p (List.mem_of_getElem? hk)
  have hil := (List.getElem?_eq_some_iff.1 a2).1
  have he : all.take k ++ all.drop (k + 1) = all.eraseIdx k := (List.eraseIdx_eq_take_drop_succ _ _).symm
  rw [he]
  have hsub := List.eraseIdx_sublist all k
  have hmem : ∀ x, x ∈ all.eraseIdx k ↔ ∃ j, j ≠ k ∧ all[j]? = some x := fun x => by
    rw [List.mem_eraseIdx_iff_getElem?]
  refine ⟨fun x hx => ?_, fun j x hx => ?_, (hsub.map _).nodup h.n, (hsub.map _).nodup h.s⟩
  · obtain ⟨j, hjk, hj⟩ := (hmem x).1 hx
    obtain ⟨b1, b2, b3, b4, b5⟩ := h.a x (List.mem_of_getElem? hj)
    have hne : p.call.client.toNat ≠ x.call.client.toNat := fun e => hjk (nodup_at (·.call.client) h.n hk hj (by show p.call.client = x.call.client; omega)).symm
    exact ⟨b1, by rw [List.getElem?_set_ne hne]; exact b2, b3, b4, b5⟩
  · by_cases hij : p.call.client.toNat = j
    · subst hij
      rw [List.getElem?_set_self hil] at hx
      cases hx
      exact .inl rfl
    · rw [List.getElem?_set_ne hij] at hx
      rcases h.b j x hx with rfl | ⟨h1, h2⟩
      · exact .inl rfl
      · refine .inr ⟨?_, h2⟩
        obtain ⟨m, hm⟩ := List.getElem?_of_mem h1
        refine (hmem x).2 ⟨m, ?_, hm⟩
        rintro rfl
        rw [hk] at hm
        cases hm
        omega
theorem Sim.take (h : Sim ps all last) (c : Int) : (takeD ps c).2 = (takeR all c).2 ∧ (takeD ps c).1.length = ps.length ∧ Sim (takeD ps c).1 (takeR all c).1 last := by
  unfold takeD takeR
  cases hf : findR all c with
  | none =>
    rcases h.atD_none hf with e | e <;> rw [e] <;> dsimp only
    · exact ⟨rfl, rfl, h⟩
    · rw [if_neg (by decide)]
      exact ⟨rfl, rfl, h⟩
  | some k =>
    obtain ⟨p, h1, h2, h3, h4, h5⟩ := h.hit hf
    have e : atD ps c = Option.some p := by unfold atD; rw [if_pos h3, h4]
    rw [e]
    dsimp only
    rw [h1]
    dsimp only [Option.getD_some]
    by_cases hs : p.stage = 3
    · rw [if_pos hs, if_pos hs]
      refine ⟨rfl, List.length_set, ?_⟩
      have := h.gone h1
      rwa [h2] at this
    · rw [if_neg hs, if_neg hs]
      exact ⟨rfl, rfl, h⟩
theorem Sim.ans (h : Sim ps all last) (s : Int) (r : Rp) : (ansD ps s r).2 = (ansD all s r).2 ∧ (ansD ps s r).1.length = ps.length ∧ Sim (ansD ps s r).1 (ansD all s r).1 last := by
  by_cases hx : ∃ (k : Nat) (p : Pn), all[k]? = Option.some p ∧ p.stage = 2 ∧ p.serial = s
  · obtain ⟨k, p, hk, hp2, hps⟩ := hx
    obtain ⟨a1, a2, a3, a4, a5⟩ := h.a p (List.mem_of_getElem? hk)
    have e1 := ansD_hit all s r k p hk ⟨hp2, hps⟩ (fun j q hj hq hh => by
      have := nodup_at (·.serial) h.s hq hk (by show q.serial = p.serial; rw [hh.2, hps])
      omega)
    have e2 := ansD_hit ps s r p.call.client.toNat p a2 ⟨hp2, hps⟩ (fun j q hj hq hh => by
      rcases h.b j q hq with rfl | ⟨h1, h2⟩
      · exact absurd hh.1 (by decide)
      · obtain ⟨m, hm⟩ := List.getElem?_of_mem h1
        have := nodup_at (·.serial) h.s hm hk (by show q.serial = p.serial; rw [hh.2, hps])
        subst this
        rw [hk] at hm
        cases hm
        omega)
    rw [e1, e2]
    exact ⟨rfl, List.length_set, h.set hk _ rfl rfl (by show (3 : Int) ≠ 0; decide)⟩
  · have e1 := ansD_no all s r (fun j q hq hh => hx ⟨j, q, hq, hh⟩)
    have e2 := ansD_no ps s r (fun j q hq hh => by
      rcases h.b j q hq with rfl | ⟨h1, h2⟩
      · exact absurd hh.1 (by decide)
      · obtain ⟨m, hm⟩ := List.getElem?_of_mem h1
        exact hx ⟨m, q, hm, hh⟩)
    rw [e1, e2]
    exact ⟨rfl, rfl, h⟩
/-- Those that wait, in the order of their clients. -/
theorem Sim.waits (h : Sim ps all last) : ∀ m, m ≤ ps.length → (((List.range m).filterMap (waits1 all)).map fun k => all[k]?.getD zP) = (ps.take m).filter (fun p => p.stage == 1)
  | 0, _ => rfl
  | m + 1, hm => by
    have ih := Sim.waits h m (by omega)
    rw [List.range_succ, List.filterMap_append, List.map_append, ih, List.take_add_one, List.filter_append]
    congr 1
    obtain ⟨p, hp⟩ : ∃ p, ps[m]? = Option.some p := ⟨_, List.getElem?_eq_getElem (by omega)⟩
    rw [hp]
    cases hf : findR all (m : Int) with
    | none =>
      have := h.non (by omega) hf
      rw [hp] at this
      cases this
      have hw : waits1 all m = Option.none := by unfold waits1; rw [hf]
      simp [hw, zP]
    | some k =>
      obtain ⟨q, h1, h2, h3, h4, h5⟩ := h.hit hf
      rw [Int.toNat_natCast, hp] at h4
      cases h4
      by_cases hs : p.stage = 1
      · have hw : waits1 all m = Option.some k := by unfold waits1; rw [hf]; simp [h1, hs]
        simp [hw, h1, hs]
      · have hw : waits1 all m = Option.none := by unfold waits1; rw [hf]; simp [h1, hs]
        simp [hw, hs]
theorem Sim.waitR (h : Sim ps all last) : (waitR ps.length all).length = waitD ps := by
  have := congrArg List.length (h.waits ps.length (by omega))
  rw [List.length_map, List.take_length] at this
  exact this
theorem pickD_at : ∀ (ps : List Pn) (l : Nat) (p : Pn), (ps.filter fun p => p.stage == 1)[l]? = Option.some p → ∃ i, ps[i]? = Option.some p ∧ p.stage = 1 ∧ pickD ps l = (ps.set i { p with stage := 2 }, (p.serial, p.call))
  | [], l, p, h => by simp at h
  | q :: ps, l, p, h => by
    by_cases hs : q.stage = 1
    · rw [List.filter_cons_of_pos (by simpa using hs)] at h
      cases l with
      | zero =>
        simp at h
        subst h
        exact ⟨0, rfl, hs, by rw [pick_step_zero _ _ hs]; rfl⟩
      | succ l =>
        obtain ⟨i, h1, h2, h3⟩ := pickD_at ps l p (by simpa using h)
        exact ⟨i + 1, by simpa using h1, h2, by rw [pick_step_succ _ _ _ hs, h3]; rfl⟩
    · rw [List.filter_cons_of_neg (by simpa using hs)] at h
      obtain ⟨i, h1, h2, h3⟩ := pickD_at ps l p h
      exact ⟨i + 1, by simpa using h1, h2, by rw [pick_step_no _ _ _ hs, h3]; rfl⟩
theorem Sim.next (h : Sim ps all last) (pick : Int) : (nextD ps pick).2 = (nextR ps.length all pick).2 ∧ (nextD ps pick).1.length = ps.length ∧ Sim (nextD ps pick).1 (nextR ps.length all pick).1 last := by
  have hw := h.waitR
  have hm := h.waits ps.length (by omega)
  rw [List.take_length] at hm
  unfold nextD nextR
  by_cases h0 : waitD ps = 0
  · rw [if_pos h0, List.getElem?_eq_none (by omega)]
    exact ⟨rfl, rfl, h⟩
  · rw [if_neg h0, hw]
    have hlt : (max pick 0).toNat % waitD ps < waitD ps := Nat.mod_lt _ (by omega)
    generalize (max pick 0).toNat % waitD ps = l at *
    obtain ⟨k, hk⟩ : ∃ k, (Go.Proofs.YtjcekmmieihllaaDoor.waitR ps.length all)[l]? = Option.some k := ⟨_, List.getElem?_eq_getElem (by omega)⟩
    have hfl : (ps.filter fun p => p.stage == 1)[l]? = Option.some (all[k]?.getD zP) := by
      rw [← hm, List.getElem?_map]
      unfold Go.Proofs.YtjcekmmieihllaaDoor.waitR at hk
      rw [hk]
      rfl
    have hkw : ∃ i, waits1 all i = Option.some k := by
      have := List.mem_of_getElem? hk
      unfold Go.Proofs.YtjcekmmieihllaaDoor.waitR at this
      obtain ⟨i, _, hi⟩ := List.mem_filterMap.1 this
      exact ⟨i, hi⟩
    obtain ⟨i, hi⟩ := hkw
    have hfi : findR all (i : Int) = Option.some k := by
      unfold waits1 at hi
      cases hf : findR all (i : Int) with
      | none => rw [hf] at hi; cases hi
      | some k' =>
        rw [hf] at hi
        dsimp only at hi
        split at hi
        · rw [hi]
        · cases hi
    obtain ⟨p, h1, h2, h3, h4, h5⟩ := h.hit hfi
    rw [h1, Option.getD_some] at hfl
    obtain ⟨j, g1, g2, g3⟩ := pickD_at ps l p hfl
    rw [hk, g3]
    dsimp only
    rw [h1, Option.getD_some]
    have hj : j = p.call.client.toNat := by
      rcases h.b j p g1 with rfl | ⟨_, e⟩
      · exact absurd g2 (by decide)
      · omega
    refine ⟨rfl, List.length_set, ?_⟩
    rw [hj]
    exact h.set h1 _ rfl rfl (by show (2 : Int) ≠ 0; decide)
theorem countP_or' {α : Type} (p q : α → Bool) : ∀ l : List α, (∀ x ∈ l, p x = true → q x = false) → l.countP (fun x => p x || q x) = l.countP p + l.countP q
  | [], _ => rfl
  | x :: l, h => by
    have ih := countP_or' p q l (fun y hy => h y (List.mem_cons_of_mem _ hy))
    have hx := h x (List.mem_cons_self ..)
    simp only [List.countP_cons, ih]
    cases hp : p x <;> cases hq : q x <;> simp_all <;> omega
theorem count_range (c : Int) : ∀ n : Nat, (List.range n).countP (fun i : Nat => c == (i : Int)) = if 0 ≤ c ∧ c < (n : Int) then 1 else 0
  | 0 => by simp
  | n + 1 => by
    rw [List.range_succ, List.countP_append, count_range c n, List.countP_singleton]
    by_cases h1 : c = (n : Int)
    · subst h1
      simp
      omega
    · have : (if (c == (n : Int)) = true then 1 else 0) = 0 := if_neg (by simpa using h1)
      rw [this]
      by_cases h2 : 0 ≤ c ∧ c < (n : Int)
      · rw [if_pos h2, if_pos (by omega)]
      · rw [if_neg h2, if_neg (by omega)]
theorem count_all (n : Nat) : ∀ all : List Pn, (∀ p ∈ all, 0 ≤ p.call.client ∧ p.call.client < (n : Int)) → (all.map (·.call.client)).Nodup → (List.range n).countP (fun i : Nat => all.any fun p => p.call.client == (i : Int)) = all.length
  | [], _, _ => by simp
  | p :: all, h, hn => by
    simp only [List.map_cons, List.nodup_cons] at hn
    have ih := count_all n all (fun q hq => h q (List.mem_cons_of_mem _ hq)) hn.2
    simp only [List.any_cons]
    rw [countP_or' (fun i : Nat => p.call.client == (i : Int)) (fun i : Nat => all.any fun p => p.call.client == (i : Int)) (List.range n) (fun i hi h1 => by
      rw [List.any_eq_false]
      intro q hq h2
      simp only [beq_iff_eq] at h1 h2
      exact hn.1 (List.mem_map.2 ⟨q, hq, by omega⟩)), ih, count_range, if_pos (h p (List.mem_cons_self ..)), List.length_cons]
    omega
theorem Sim.count' (h : Sim ps all last) : ∀ m, m ≤ ps.length → (List.range m).countP (fun i : Nat => all.any fun p => p.call.client == (i : Int)) = ((ps.take m).filter fun p => p.stage != 0).length
  | 0, _ => rfl
  | m + 1, hm => by
    have ih := Sim.count' h m (by omega)
    rw [List.range_succ, List.countP_append, ih, List.take_add_one, List.filter_append, List.length_append, List.countP_singleton]
    congr 1
    obtain ⟨p, hp⟩ : ∃ p, ps[m]? = Option.some p := ⟨_, List.getElem?_eq_getElem (by omega)⟩
    rw [hp]
    rcases h.b m p hp with rfl | ⟨h1, h2⟩
    · have : (all.any fun p => p.call.client == (m : Int)) = false := by
        rw [List.any_eq_false]
        intro q hq hc
        simp only [beq_iff_eq] at hc
        obtain ⟨a1, a2, a3, _⟩ := h.a q hq
        rw [hc, Int.toNat_natCast, hp] at a2
        cases a2
        exact a3 rfl
      rw [this]
      rfl
    · have : (all.any fun p => p.call.client == (m : Int)) = true := List.any_eq_true.2 ⟨p, h1, by simpa using h2⟩
      obtain ⟨a1, a2, a3, _⟩ := h.a p h1
      rw [this]
      simp [a3]
theorem Sim.count (h : Sim ps all last) : dropN ps = all.length := by
  have h1 := h.count' ps.length (by omega)
  rw [List.take_length] at h1
  unfold dropN
  rw [← h1]
  refine count_all _ all (fun p hp => ?_) h.n
  obtain ⟨a1, a2, _⟩ := h.a p hp
  have := (List.getElem?_eq_some_iff.1 a2).1
  omega
theorem Sim.start (n : Nat) : Sim (List.replicate n zP) [] 0 := ⟨fun p hp => (by cases hp), fun i p hp => .inl (List.eq_of_mem_replicate (List.mem_of_getElem? hp)), by simp, by simp⟩
theorem Sim.empty (n : Nat) (last : Int) : Sim (List.replicate n zP) [] last := ⟨fun p hp => (by cases hp), fun i p hp => .inl (List.eq_of_mem_replicate (List.mem_of_getElem? hp)), by simp, by simp⟩
end
end

section
set_option linter.unusedVariables false
set_option linter.unusedSimpArgs false
set_option linter.unnecessarySimpa false
open Go.RowKit Go.Lib

structure Once (ps : List Pn) (last : Int) (own stg : List (Int × Int)) : Prop where
  l0 : 0 ≤ last
  b : ∀ (i : Nat) (p : Pn), ps[i]? = some p → p = zP ∨ (p.call.client = (i : Int) ∧ (p.stage = 1 ∨ p.stage = 2 ∨ p.stage = 3) ∧ 1 ≤ p.serial ∧ p.serial ≤ last ∧ lk stg p.serial = p.stage ∧ lk own p.serial = (i : Int) ∧ (p.stage = 3 → p.rep.job = p.serial))
  z : ∀ s : Int, s ≤ 0 ∨ last < s → lk stg s = 0
  r : ∀ s : Int, (lk stg s = 1 ∨ lk stg s = 2 ∨ lk stg s = 3) → ∃ (i : Nat) (p : Pn), ps[i]? = some p ∧ p.serial = s ∧ p.stage = lk stg s
section
variable {ps : List Pn} {last : Int} {own stg : List (Int × Int)}
theorem Once.start (n : Nat) : Once (List.replicate n zP) 0 [] [] := ⟨by decide, fun i p hp => .inl (List.eq_of_mem_replicate (List.mem_of_getElem? hp)), fun s _ => rfl, fun s h => by
  have e : lk [] s = 0 := rfl
  rw [e] at h
  omega⟩
theorem Once.stage_zero (h : Once ps last own stg) {i : Nat} {p : Pn} (hp : ps[i]? = some p) (hs : p.stage = 0) : p = zP := by
  rcases h.b i p hp with e | ⟨_, h2, _⟩
  · exact e
  · omega
/-- One more is asked. -/
theorem Once.ask (h : Once ps last own stg) (c : Cl) : (((askD ps last c).2.2 = 0 ∧ pendD ps c.client = 0 ∧ (askD ps last c).2.1 = last + 1 ∧ (askD ps last c).1.2 = last + 1 ∧ pendD (askD ps last c).1.1 c.client = last + 1 ∧ rightC c = true ∧ Once (askD ps last c).1.1 (last + 1) (putI own (last + 1) c.client) (putI stg (last + 1) 1)) ∨ ((askD ps last c).2.2 ≠ 0 ∧ (askD ps last c).2.1 = 0 ∧ (askD ps last c).1 = (ps, last))) ∧ (askD ps last c).1.1.length = ps.length := by
  unfold askD
  by_cases hr : rightC c = true
  · obtain ⟨q0, q1, -⟩ := rightC_facts c hr
    rw [if_pos hr]
    obtain ⟨i, hi⟩ : ∃ i : Nat, c.client = (i : Int) := ⟨c.client.toNat, by omega⟩
    rw [hi, Int.toNat_natCast]
    cases hp : ps[i]? with
    | none => exact ⟨.inr ⟨show (242 : Int) ≠ 0 from by decide, rfl, rfl⟩, rfl⟩
    | some p =>
      dsimp only
      have hil := (List.getElem?_eq_some_iff.1 hp).1
      by_cases hs : p.stage = 0
      · have := h.stage_zero hp hs
        subst this
        rw [if_pos hs]
        have hl0 := h.l0
        refine ⟨.inl ⟨rfl, ?_, rfl, rfl, ?_, hr, ⟨by omega, fun j p hj => ?_, fun s hs => ?_, fun s hs => ?_⟩⟩, List.length_set⟩
        · unfold pendD atD
          rw [if_pos (by omega), Int.toNat_natCast, hp]
          rfl
        · unfold pendD atD
          rw [if_pos (by omega), Int.toNat_natCast, List.getElem?_set_self hil]
        · by_cases hij : i = j
          · subst hij
            rw [List.getElem?_set_self hil] at hj
            cases hj
            refine .inr ⟨hi, .inl rfl, ?_, ?_, ?_, ?_, fun e => absurd e (by show ¬ (1 : Int) = 3; decide)⟩
            · show 1 ≤ last + 1; omega
            · show last + 1 ≤ last + 1; omega
            · show lk _ (last + 1) = 1; rw [lk_put, if_pos rfl]
            · show lk _ (last + 1) = _; rw [lk_put, if_pos rfl]
          · rw [List.getElem?_set_ne hij] at hj
            rcases h.b j p hj with rfl | ⟨b1, b2, b3, b4, b5, b6, b7⟩
            · exact .inl rfl
            · exact .inr ⟨b1, b2, b3, by omega, by rw [lk_put, if_neg (by omega)]; exact b5, by rw [lk_put, if_neg (by omega)]; exact b6, b7⟩
        · rw [lk_put, if_neg (by omega)]
          exact h.z s (by omega)
        · rw [lk_put] at hs ⊢
          by_cases e : s = last + 1
          · rw [if_pos e]
            exact ⟨i, _, List.getElem?_set_self hil, e.symm, rfl⟩
          · rw [if_neg e] at hs ⊢
            obtain ⟨j, p, hj, e1, e2⟩ := h.r s hs
            have hij : i ≠ j := by
              rintro rfl
              rw [hp] at hj
              cases hj
              have : (zP : Pn).stage = 0 := rfl
              omega
            exact ⟨j, p, by rw [List.getElem?_set_ne hij]; exact hj, e1, e2⟩
      · rw [if_neg hs]
        exact ⟨.inr ⟨show (242 : Int) ≠ 0 from by decide, rfl, rfl⟩, rfl⟩
  · rw [if_neg hr]
    exact ⟨.inr ⟨show (241 : Int) ≠ 0 from by decide, rfl, rfl⟩, rfl⟩
/-- One goes on. -/
theorem Once.set (h : Once ps last own stg) {i : Nat} {p : Pn} (hp : ps[i]? = some p) (hz : p ≠ zP) (q : Pn) (e1 : q.call = p.call) (e2 : q.serial = p.serial) (e3 : q.stage = 2 ∨ q.stage = 3) (e4 : q.stage = 3 → q.rep.job = q.serial) : Once (ps.set i q) last own (putI stg p.serial q.stage) := by
  have hil := (List.getElem?_eq_some_iff.1 hp).1
  rcases h.b i p hp with e | ⟨a1, a2, a3, a4, a5, a6, a7⟩
  · exact absurd e hz
  refine ⟨h.l0, fun j x hj => ?_, fun s hs => ?_, fun s hs => ?_⟩
  · by_cases hij : i = j
    · subst hij
      rw [List.getElem?_set_self hil] at hj
      cases hj
      exact .inr ⟨by rw [e1]; exact a1, .inr e3, by omega, by omega, by rw [e2, lk_put, if_pos rfl], by rw [e2]; exact a6, e4⟩
    · rw [List.getElem?_set_ne hij] at hj
      rcases h.b j x hj with rfl | ⟨b1, b2, b3, b4, b5, b6, b7⟩
      · exact .inl rfl
      · have hne : x.serial ≠ p.serial := fun e => by rw [e, a6] at b6; omega
        exact .inr ⟨b1, b2, b3, b4, by rw [lk_put, if_neg hne]; exact b5, b6, b7⟩
  · rw [lk_put, if_neg (by omega)]
    exact h.z s hs
  · rw [lk_put] at hs ⊢
    by_cases e : s = p.serial
    · rw [if_pos e]
      exact ⟨i, q, List.getElem?_set_self hil, by omega, rfl⟩
    · rw [if_neg e] at hs ⊢
      obtain ⟨j, x, hj, f1, f2⟩ := h.r s hs
      have hij : i ≠ j := by
        rintro rfl
        rw [hp] at hj
        cases hj
        omega
      exact ⟨j, x, by rw [List.getElem?_set_ne hij]; exact hj, f1, f2⟩
/-- One is taken. -/
theorem Once.gone (h : Once ps last own stg) {i : Nat} {p : Pn} (hp : ps[i]? = some p) (hz : p ≠ zP) : Once (ps.set i zP) last own (putI stg p.serial 4) := by
  have hil := (List.getElem?_eq_some_iff.1 hp).1
  rcases h.b i p hp with e | ⟨a1, a2, a3, a4, a5, a6, a7⟩
  · exact absurd e hz
  refine ⟨h.l0, fun j x hj => ?_, fun s hs => ?_, fun s hs => ?_⟩
  · by_cases hij : i = j
    · subst hij
      rw [List.getElem?_set_self hil] at hj
      cases hj
      exact .inl rfl
    · rw [List.getElem?_set_ne hij] at hj
      rcases h.b j x hj with rfl | ⟨b1, b2, b3, b4, b5, b6, b7⟩
      · exact .inl rfl
      · have hne : x.serial ≠ p.serial := fun e => by rw [e, a6] at b6; omega
        exact .inr ⟨b1, b2, b3, b4, by rw [lk_put, if_neg hne]; exact b5, b6, b7⟩
  · rw [lk_put, if_neg (by omega)]
    exact h.z s hs
  · rw [lk_put] at hs ⊢
    by_cases e : s = p.serial
    · rw [if_pos e] at hs
      omega
    · rw [if_neg e] at hs ⊢
      obtain ⟨j, x, hj, f1, f2⟩ := h.r s hs
      have hij : i ≠ j := by
        rintro rfl
        rw [hp] at hj
        cases hj
        omega
      exact ⟨j, x, by rw [List.getElem?_set_ne hij]; exact hj, f1, f2⟩
theorem wait_set : ∀ (ps : List Pn) (i : Nat) (p q : Pn), ps[i]? = some p → p.stage = 1 → q.stage ≠ 1 → waitD (ps.set i q) + 1 = waitD ps
  | [], i, p, q, h, _, _ => by simp at h
  | x :: ps, 0, p, q, h, h1, h2 => by
    simp at h
    subst h
    rw [List.set_cons_zero, waitD_cons, waitD_cons, if_pos h1, if_neg h2]
    omega
  | x :: ps, i + 1, p, q, h, h1, h2 => by
    have := wait_set ps i p q (by simpa using h) h1 h2
    rw [List.set_cons_succ, waitD_cons, waitD_cons]
    omega
theorem Once.next (h : Once ps last own stg) (pick : Int) : (waitD ps = 0 ∧ nextD ps pick = (ps, (0, zC, false))) ∨ (0 < waitD ps ∧ (nextD ps pick).2.2.2 = true ∧ lk stg (nextD ps pick).2.1 = 1 ∧ lk own (nextD ps pick).2.1 = (nextD ps pick).2.2.1.client ∧ waitD (nextD ps pick).1 + 1 = waitD ps ∧ (nextD ps pick).1.length = ps.length ∧ Once (nextD ps pick).1 last own (putI stg (nextD ps pick).2.1 2)) := by
  unfold nextD
  by_cases h0 : waitD ps = 0
  · rw [if_pos h0]
    exact .inl ⟨h0, rfl⟩
  · rw [if_neg h0]
    have hlt : (max pick 0).toNat % waitD ps < waitD ps := Nat.mod_lt _ (by omega)
    generalize (max pick 0).toNat % waitD ps = l at *
    obtain ⟨p, hp⟩ : ∃ p, (ps.filter fun p => p.stage == 1)[l]? = some p := ⟨_, List.getElem?_eq_getElem hlt⟩
    obtain ⟨i, h1, h2, h3⟩ := pickD_at ps l p hp
    rw [h3]
    have hz : p ≠ zP := by rintro rfl; exact absurd h2 (by decide)
    rcases h.b i p h1 with e | ⟨a1, a2, a3, a4, a5, a6, a7⟩
    · exact absurd e hz
    · refine .inr ⟨by omega, rfl, by show lk stg p.serial = 1; omega, by show lk own p.serial = p.call.client; omega, wait_set ps i p _ h1 h2 (by show ¬ (2 : Int) = 1; decide), List.length_set, ?_⟩
      exact h.set h1 hz { p with stage := 2 } rfl rfl (.inl rfl) (fun e => absurd e (by show ¬ (2 : Int) = 3; decide))
/-- A reply that says a job's number, and no more. -/
def jR (n : Int) : Rp := { zR with job := n }
theorem Once.ans (h : Once ps last own stg) (s : Int) : (lk stg s = 2 ∧ (ansD ps s (jR s)).2 = true ∧ (ansD ps s (jR s)).1.length = ps.length ∧ Once (ansD ps s (jR s)).1 last own (putI stg s 3)) ∨ (lk stg s ≠ 2 ∧ ansD ps s (jR s) = (ps, false)) := by
  by_cases hx : lk stg s = 2
  · obtain ⟨i, p, hp, e1, e2⟩ := h.r s (.inr (.inl hx))
    rw [hx] at e2
    have hz : p ≠ zP := by rintro rfl; exact absurd e2 (by decide)
    rcases h.b i p hp with e | ⟨a1, a2, a3, a4, a5, a6, a7⟩
    · exact absurd e hz
    have e := ansD_hit ps s (jR s) i p hp ⟨e2, e1⟩ (fun j q hj hq hh => by
      rcases h.b j q hq with rfl | ⟨b1, b2, b3, b4, b5, b6, b7⟩
      · exact absurd hh.1 (by decide)
      · rw [hh.2, ← e1, a6] at b6
        omega)
    rw [e]
    refine .inl ⟨hx, rfl, List.length_set, ?_⟩
    have := h.set hp hz { p with stage := 3, rep := jR s } rfl rfl (.inr rfl) (fun _ => e1.symm)
    have e5 : putI stg s 3 = putI stg p.serial 3 := by rw [e1]
    rw [e5]
    exact this
  · refine .inr ⟨hx, ansD_no ps s (jR s) (fun j q hq hh => ?_)⟩
    rcases h.b j q hq with rfl | ⟨b1, b2, b3, b4, b5, b6, b7⟩
    · exact absurd hh.1 (by decide)
    · rw [hh.2] at b5
      omega
theorem Once.take (h : Once ps last own stg) (c : Int) : ((takeD ps c).2.2.2 = true ∧ lk stg (takeD ps c).2.1 = 3 ∧ lk own (takeD ps c).2.1 = c ∧ (takeD ps c).2.2.1.job = (takeD ps c).2.1 ∧ pendD (takeD ps c).1 c = 0 ∧ (takeD ps c).1.length = ps.length ∧ Once (takeD ps c).1 last own (putI stg (takeD ps c).2.1 4)) ∨ (takeD ps c = (ps, (0, zR, false)) ∧ lk stg (pendD ps c) ≠ 3) := by
  unfold takeD
  cases hp : atD ps c with
  | none =>
    refine .inr ⟨rfl, ?_⟩
    unfold pendD
    rw [hp]
    show lk stg 0 ≠ 3
    rw [h.z 0 (.inl (by omega))]
    decide
  | some p =>
    have hp2 := hp
    unfold atD at hp2
    by_cases h0 : 0 ≤ c
    · rw [if_pos h0] at hp2
      obtain ⟨i, rfl⟩ : ∃ i : Nat, c = (i : Int) := ⟨c.toNat, by omega⟩
      rw [Int.toNat_natCast] at hp2 ⊢
      have hil := (List.getElem?_eq_some_iff.1 hp2).1
      dsimp only
      by_cases hs : p.stage = 3
      · rw [if_pos hs]
        have hz : p ≠ zP := by rintro rfl; exact absurd hs (by decide)
        rcases h.b i p hp2 with e | ⟨a1, a2, a3, a4, a5, a6, a7⟩
        · exact absurd e hz
        refine .inl ⟨rfl, by show lk stg p.serial = 3; omega, by show lk own p.serial = _; omega, a7 hs, ?_, List.length_set, h.gone hp2 hz⟩
        unfold pendD atD
        rw [if_pos (by omega), Int.toNat_natCast, List.getElem?_set_self hil]
        rfl
      · rw [if_neg hs]
        refine .inr ⟨rfl, ?_⟩
        unfold pendD
        rw [hp]
        rcases h.b i p hp2 with rfl | ⟨a1, a2, a3, a4, a5, a6, a7⟩
        · show lk stg 0 ≠ 3
          rw [h.z 0 (.inl (by omega))]
          decide
        · show lk stg p.serial ≠ 3
          omega
    · rw [if_neg h0] at hp2
      cases hp2
end
end

section
set_option linter.unusedVariables false
set_option linter.unusedSimpArgs false
set_option linter.unnecessarySimpa false
open Go.RowKit Go.Lib

section
variable {ps all : List Pn} {last : Int}
theorem Sim.okAll (h : Sim ps all last) (ok : AllOk ps) : AllOk all := fun p hp => by
  obtain ⟨_, a2, _⟩ := h.a p hp
  exact ok p (List.mem_of_getElem? a2)
theorem Sim.le (h : Sim ps all last) : all.length ≤ ps.length := by rw [← h.count]; exact dropN_le ps
theorem askD_ok (ok : AllOk ps) (c : Cl) (okc : c.Ok) (hn : c.name.size ≤ 1000000) : AllOk (askD ps last c).1.1 ∧ last ≤ (askD ps last c).1.2 ∧ (askD ps last c).1.2 ≤ last + 1 := by
  unfold askD
  split
  · split
    · exact ⟨ok, by show last ≤ last; omega, by show last ≤ last + 1; omega⟩
    · split
      · exact ⟨ok.set _ ⟨okc, zR_ok, hn⟩, by show last ≤ last + 1; omega, by show last + 1 ≤ last + 1; omega⟩
      · exact ⟨ok, by show last ≤ last; omega, by show last ≤ last + 1; omega⟩
  · exact ⟨ok, by show last ≤ last; omega, by show last ≤ last + 1; omega⟩
theorem nextD_ok (ok : AllOk ps) (pick : Int) : AllOk (nextD ps pick).1 ∧ (nextD ps pick).2.2.1.Ok := by
  unfold nextD
  by_cases h0 : waitD ps = 0
  · rw [if_pos h0]
    exact ⟨ok, zC_ok⟩
  · rw [if_neg h0]
    have hlt : (max pick 0).toNat % waitD ps < waitD ps := Nat.mod_lt _ (by omega)
    generalize (max pick 0).toNat % waitD ps = l at *
    obtain ⟨p, hp⟩ : ∃ p, (ps.filter fun p => p.stage == 1)[l]? = some p := ⟨_, List.getElem?_eq_getElem hlt⟩
    obtain ⟨i, h1, h2, h3⟩ := pickD_at ps l p hp
    have hok := ok p (List.mem_of_getElem? h1)
    rw [h3]
    exact ⟨ok.set i ⟨hok.c, hok.r, hok.n⟩, hok.c⟩
theorem ansD_ok : ∀ {ps : List Pn}, AllOk ps → ∀ (s : Int) (r : Rp), r.Ok → AllOk (ansD ps s r).1
  | [], _, _, _, _ => fun p hp => by cases hp
  | p :: ps, ok, s, r, okr => by
    have hp := ok p (List.mem_cons_self ..)
    have ih := ansD_ok (fun q hq => ok q (List.mem_cons_of_mem _ hq)) s r okr
    unfold ansD
    split
    · intro q hq
      rcases List.mem_cons.1 hq with rfl | hq
      · exact ⟨hp.c, okr, hp.n⟩
      · exact ok q (List.mem_cons_of_mem _ hq)
    · intro q hq
      rcases List.mem_cons.1 hq with rfl | hq
      · exact hp
      · exact ih q hq
theorem takeD_ok (ok : AllOk ps) (i : Int) : AllOk (takeD ps i).1 ∧ (takeD ps i).2.2.1.Ok := by
  unfold takeD
  split
  · exact ⟨ok, zR_ok⟩
  · rename_i p hp
    have hok : p.Ok := by
      unfold atD at hp
      split at hp
      · exact ok p (List.mem_of_getElem? hp)
      · cases hp
    split
    · exact ⟨ok.set _ zP_ok, hok.r⟩
    · exact ⟨ok, zR_ok⟩
end
def kI : Kn := .int .i64
def slotK : List Kn := [kI, kI, .int .u64, kI] ++ List.replicate 32 (.int .u8)
def replyK : List Kn := [kI, kI, kI, kI, kI] ++ (slotK ++ (slotK ++ [kI, kI, .int .u64]))
theorem kI_ok {n : Int} (h0 : -9223372036854775808 ≤ n) (h1 : n ≤ 9223372036854775807) : kI.ok (.int .i64 n) := ⟨rfl, by simp [Lit.wf, IntKind.min, IntKind.max, IntKind.signed, IntKind.bits]; exact ⟨h0, h1⟩⟩
theorem kU_ok {n : Int} (h0 : 0 ≤ n) (h1 : n ≤ 18446744073709551615) : (Kn.int .u64).ok (.int .u64 n) := ⟨rfl, by simp [Lit.wf, IntKind.min, IntKind.max, IntKind.signed, IntKind.bits]; exact ⟨h0, h1⟩⟩
theorem good_bytes : ∀ (ds : List UInt8), goodRow (List.replicate ds.length (.int .u8)) (ds.map bval)
  | [] => trivial
  | d :: ds => ⟨⟨rfl, by
      have := d.toNat_lt
      simp [Lit.wf, IntKind.min, IntKind.max, IntKind.signed, IntKind.bits]
      omega⟩, good_bytes ds⟩
theorem good_slot (s : Slt) (ok : s.Ok) : goodRow slotK s.cells.toList := by
  have h := good_bytes s.dig
  rw [ok.dig] at h
  exact goodRow.app (ks := [kI, kI, .int .u64, kI]) (vs := [.int .i64 s.st, .int .i64 s.tr, .int .u64 s.ver, .int .i64 s.sz]) ⟨kI_ok ok.st0 ok.st1, kI_ok ok.tr0 ok.tr1, kU_ok ok.ver0 ok.ver1, kI_ok ok.sz0 ok.sz1, trivial⟩ h
theorem good_reply (r : Rp) (ok : r.Ok) : goodRow replyK r.cells.toList :=
  goodRow.app (ks := [kI, kI, kI, kI, kI]) (vs := [.int .i64 r.err, .int .i64 r.job, .int .i64 r.state, .int .i64 r.slot, .int .i64 r.fault]) ⟨kI_ok ok.e0 ok.e1, kI_ok ok.j0 ok.j1, kI_ok ok.t0 ok.t1, kI_ok ok.l0 ok.l1, kI_ok ok.f0 ok.f1, trivial⟩
    (goodRow.app (good_slot _ ok.s0) (goodRow.app (good_slot _ ok.s1) ⟨kI_ok ok.a0 ok.a1, kI_ok ok.b0 ok.b1, kU_ok ok.o0 ok.o1, trivial⟩))
set_option maxRecDepth 100000 in
theorem eq_reply (x y : Rp) (okx : x.Ok) (oky : y.Ok) (w : World) : ∃ r : Bool, (Op.equalIn 10000 44 (.agg x.cells) (.agg y.cells)).run Tryd.prog w = .ok r w ∧ (r = true ↔ x.cells = y.cells) :=
  eq_row 10 (by omega) (by kernel_rfl) (by kernel_rfl) 10 (ks := replyK) (by kernel_rfl) (by kernel_rfl) (good_reply x okx) (good_reply y oky) w
theorem eq_reply_refl (x : Rp) (ok : x.Ok) (w : World) : (Op.equalIn 10000 44 (.agg x.cells) (.agg x.cells)).run Tryd.prog w = .ok true w := by
  obtain ⟨r, h1, h2⟩ := eq_reply x x ok ok w
  rw [h1, h2.2 rfl]
/-- Something that is done at a desk. -/
structure Ac where
  kind : Int
  n : Int
  call : Cl
  rep : Rp
instance : Inhabited Ac := ⟨⟨0, 0, zC, zR⟩⟩
def Ac.list (a : Ac) : List Value := [Value.int .i64 a.kind, .int .i64 a.n, .int .i64 a.call.client, .int .i64 a.call.kind, .int .i64 a.call.slot, .int .i64 a.call.job, .string a.call.name] ++ a.rep.list
def Ac.cells (a : Ac) : Array Value := a.list.toArray
theorem Ac.size (a : Ac) (ok : a.rep.Ok) : a.cells.size = 87 := by
  unfold Ac.cells Ac.list
  rw [List.size_toArray, List.length_append, a.rep.len ok]
  rfl
theorem Ac.one (a : Ac) : a.cells.all (·.oneCell') = true := by
  have h := a.rep.one
  unfold Rp.cells at h
  unfold Ac.cells Ac.list
  rw [List.all_toArray] at h ⊢
  rw [List.all_append, h]
  rfl
theorem Ac.at_ (a : Ac) : a.cells[0]? = some (.int .i64 a.kind) ∧ a.cells[1]? = some (.int .i64 a.n) ∧ a.cells[2]? = some (.int .i64 a.call.client) ∧ a.cells[3]? = some (.int .i64 a.call.kind) ∧ a.cells[4]? = some (.int .i64 a.call.slot) ∧ a.cells[5]? = some (.int .i64 a.call.job) ∧ a.cells[6]? = some (.string a.call.name) := ⟨rfl, rfl, rfl, rfl, rfl, rfl, rfl⟩
theorem Ac.rep_at (a : Ac) (j : Nat) : a.cells[7 + j]? = a.rep.cells[j]? := by
  unfold Ac.cells Ac.list Rp.cells
  rw [List.getElem?_toArray, List.getElem?_append_right (by simp), List.getElem?_toArray]
  congr 1
  simp
theorem act_info (a : Ac) (ok : a.rep.Ok) : (Tryd.prog.info? 46).map (·.size) = some a.cells.size := by rw [a.size ok]; kernel_rfl
section
variable {H : Type} {enc : TypeId × Value → H} {W : World}
set_option maxRecDepth 100000 in
theorem Cel.act {cs : List Value} (h : Cel enc Tryd.prog W 46 cs) : ∃ a : Ac, cs = a.cells.toList ∧ a.rep.Ok ∧ (-9223372036854775808 ≤ a.n ∧ a.n ≤ 9223372036854775807) ∧ (a.call.name.size ≤ 1000000000 → a.call.Ok) ∧ a.call.name.size ≤ 9223372036854775807 := by
  obtain ⟨hl, hf⟩ := h.struct_ Tryd.underlying46
  have hl : cs.length = 87 := by rw [hl]; kernel_rfl
  have f0 : Cel enc Tryd.prog W 3 ((cs.drop 0).take (Tryd.prog.cellsOf 3)) := hf 0 _ rfl
  have f1 : Cel enc Tryd.prog W 3 ((cs.drop 1).take (Tryd.prog.cellsOf 3)) := hf 1 _ rfl
  have f2 : Cel enc Tryd.prog W 23 ((cs.drop 2).take (Tryd.prog.cellsOf 23)) := hf 2 _ rfl
  have f3 : Cel enc Tryd.prog W 44 ((cs.drop 7).take (Tryd.prog.cellsOf 44)) := hf 3 _ rfl
  rw [show Tryd.prog.cellsOf 3 = 1 by kernel_rfl] at f0 f1
  rw [show Tryd.prog.cellsOf 23 = 5 by kernel_rfl] at f2
  rw [show Tryd.prog.cellsOf 44 = 80 by kernel_rfl] at f3
  obtain ⟨n0, e0, w0⟩ := f0.int Tryd.underlying3
  obtain ⟨n1, e1, w1⟩ := f1.int Tryd.underlying3
  obtain ⟨c, e2, okc, hz⟩ := Cel.call f2
  obtain ⟨r, e3, okr⟩ := Cel.reply f3
  refine ⟨⟨n0, n1, c, r⟩, ?_, okr, wf_i64 w1, okc, hz⟩
  have cut : ∀ k n, cs.drop k = (cs.drop k).take n ++ cs.drop (k + n) := fun k n => by
    have h := (List.take_append_drop n (cs.drop k)).symm
    rwa [List.drop_drop] at h
  have c7 : (cs.drop 7).take 80 = cs.drop 7 := List.take_of_length_le (by rw [List.length_drop]; omega)
  rw [c7] at e3
  rw [show cs = cs.drop 0 from rfl, cut 0 1, e0, cut 1 1, e1, cut 2 5, e2, e3]
  rfl
end
/-- A load of a row whose cells are known one by one. -/
theorem wpList_load_rg {P : Program} {w : World} {ops : Array Oper} {rest : List Oper} {o : Oper} {a : Act} {Q : Exit → Act → World → Prop} (hgd : o.guard = none) (ty : TypeId) (x : Operand) (ho : o.op = .load ty x) {g off : Nat} (hx : a.eval x = .pointer (some ⟨g, off, none⟩))
    (ys : Array Value) (hr : w.rangeAt g off ys.toList) (d : TypeDesc) (hu : P.underlying ty = some d) (hd : d.isRow = true)
    (hi : (P.info? ty).map (·.size) = some ys.size) (h : wpList P ops Q rest (a.put o.dst (.agg ys)) w) : wpList P ops Q (o :: rest) a w :=
  wpList_load_mid hgd ty x ho g off hx ys.toList d hr hu hd (by simpa using hi) (by simpa using h)
end
end Go.Proofs.YtjcekmmieihllaaDoor
