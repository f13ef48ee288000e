/- order: one job at a time: in plain Lean. The document's decoder, in plain Lean. The result of a function is a row: see the text that it imports. -/
import Derived.Test.YtnjnooeldkideaaDoorOrSe
import Derived.Test.YtnjnooeldkideaaDoorMParts
import Derived.Test.YtnjnooeldkideaaDoorMOrT
namespace Go.Proofs.YtnjnooeldkideaaDoor
section
set_option linter.unusedVariables false
set_option linter.unusedSimpArgs false
open Go.RowKit Go.Lib Go.Deep
def StepS (e : En) (a b : Slt) : Prop := (b.st = 2 → a.st = 2 ∨ (e.kind = 2 ∧ e.state = 2)) ∧ (b.st = 3 → a.st = 2 ∨ a.st = 3)
theorem StepS.refl (e : En) (a : Slt) : StepS e a a := ⟨.inl, .inr⟩
def SafeC (e : En) (t : Tb) (c : Cg) : Prop := c.kind = 1 → ∀ a, (c.slot = 0 → a = t.s0) → (c.slot ≠ 0 → a = t.s1) → StepS e a c.tos
structure StepT (e : En) (t u : Tb) : Prop where
 s0 : StepS e t.s0 u.s0
 s1 : StepS e t.s1 u.s1
 flo : t.flo ≤ u.flo
 right : rightT t = true → rightT u = true
theorem rightT_iff (t : Tb) : rightT t = true ↔ rightS t.s0 = true ∧ rightS t.s1 = true ∧ ixB t.act = true ∧ (t.boo == -1 || ixB t.boo) = true ∧ t.flo ≤ 281474976710656 := by
 unfold rightT
 simp only [Bool.and_eq_true, decide_eq_true_eq]
theorem apply_step {e : En} (t0 : Tb) : ∀ (cs : List Cg) (t u : Tb), (∀ c ∈ cs, SafeC e t0 c) → (∀ c ∈ cs, crT c = true) → StepT e t0 t → applyL t cs = some u → StepT e t0 u
 | [], t, u, _, _, h, ha => by
  unfold applyL at ha
  injection ha with ha
  exact ha ▸ h
 | c :: cs, t, u, hs, hc, h, ha => by
  have hs0 := hs c (List.mem_cons_self ..)
  have hc0 := hc c (List.mem_cons_self ..)
  have hs' := fun x hx => hs x (List.mem_cons_of_mem _ hx)
  have hc' := fun x hx => hc x (List.mem_cons_of_mem _ hx)
  unfold applyL at ha
  unfold crT at hc0
  split at ha
  ·rename_i hk
   rw [if_pos hk] at hc0
   simp only [Bool.and_eq_true] at hc0
   refine apply_step t0 cs _ u hs' hc' ?_ ha
   unfold Tb.put
   split
   ·rename_i hi
    exact ⟨hs0 hk _ (fun _ => rfl) (fun h => absurd hi h), h.s1, h.flo, fun hr => (rightT_iff _).2 ⟨hc0.2, ((rightT_iff _).1 (h.right hr)).2⟩⟩
   ·rename_i hi
    refine ⟨h.s0, hs0 hk _ (fun h => absurd h hi) (fun _ => rfl), h.flo, fun hr => ?_⟩
    obtain ⟨g1, g2, g3⟩ := (rightT_iff _).1 (h.right hr)
    exact (rightT_iff _).2 ⟨g1, hc0.2, g3⟩
  ·rename_i hk
   rw [if_neg hk] at hc0
   split at ha
   ·rename_i hk2
    rw [if_pos hk2] at hc0
    refine apply_step t0 cs { t with act := c.n } u hs' hc' ⟨h.s0, h.s1, h.flo, fun hr => ?_⟩ ha
    obtain ⟨g1, g2, g3, g4⟩ := (rightT_iff _).1 (h.right hr)
    exact (rightT_iff _).2 ⟨g1, g2, hc0, g4⟩
   ·rename_i hk2
    rw [if_neg hk2] at hc0
    split at ha
    ·rename_i hk3
     rw [if_pos hk3] at hc0
     refine apply_step t0 cs { t with boo := c.n } u hs' hc' ⟨h.s0, h.s1, h.flo, fun hr => ?_⟩ ha
     obtain ⟨g1, g2, g3, g4, g5⟩ := (rightT_iff _).1 (h.right hr)
     exact (rightT_iff _).2 ⟨g1, g2, g3, hc0, g5⟩
    ·rename_i hk3
     rw [if_neg hk3, decide_eq_true_eq] at hc0
     split at ha
     ·cases ha
     ·rename_i hv
      refine apply_step t0 cs { t with flo := c.ver } u hs' hc' ⟨h.s0, h.s1, by show t0.flo ≤ c.ver; have := h.flo; omega, fun hr => ?_⟩ ha
      obtain ⟨g1, g2, g3, g4, g5⟩ := (rightT_iff _).1 (h.right hr)
      exact (rightT_iff _).2 ⟨g1, g2, g3, g4, hc0⟩
theorem StepT.refl (e : En) (t : Tb) : StepT e t t := ⟨StepS.refl _ _, StepS.refl _ _, Int.le_refl _, id⟩
theorem applyT_step {e : En} {t : Tb} {cs : List Cg} (hs : ∀ c ∈ cs, SafeC e t c) (h : (applyT t cs).2 = 0) : StepT e t (applyT t cs).1 := by
 unfold applyT at h ⊢
 split at h
 ·rename_i hc
  rw [if_pos hc]
  cases ha : applyL t cs with
  | none => rw [ha] at h; exact absurd h (by show ¬ (111 : Int) = 0; decide)
  | some u => exact apply_step t cs t u hs (fun c hcm => List.all_eq_true.1 hc.2 c hcm) (StepT.refl e t) ha
 ·exact absurd h (by show ¬ (111 : Int) = 0; decide)
theorem safe_act (e : En) (t : Tb) (i : Int) : SafeC e t (actC i) := fun h => absurd h (by show ¬ (2 : Int) = 1; decide)
theorem safe_boo (e : En) (t : Tb) (i : Int) : SafeC e t (booC i) := fun h => absurd h (by show ¬ (3 : Int) = 1; decide)
theorem safe_flo (e : En) (t : Tb) (i : Int) : SafeC e t (floC i) := fun h => absurd h (by show ¬ (4 : Int) = 1; decide)
theorem at_eq {t : Tb} {i : Int} {a : Slt} (h0 : i = 0 → a = t.s0) (h1 : i ≠ 0 → a = t.s1) : a = t.at_ i := by
 unfold Tb.at_
 by_cases h : i = 0
 ·rw [if_pos h]; exact h0 h
 ·rw [if_neg h]; exact h1 h
theorem safe_set {e : En} {t : Tb} {i : Int} {s : Slt} (h2 : s.st ≠ 2) (h3 : s.st ≠ 3) : SafeC e t (setC i s) := fun _ _ _ _ => ⟨fun h => absurd h h2, fun h => absurd h h3⟩
theorem bad_st (s : Slt) : (badS s).1.st ≠ 2 ∧ (badS s).1.st ≠ 3 := by
 unfold badS
 split
 ·exact ⟨by show (4 : Int) ≠ 2; decide, by show (4 : Int) ≠ 3; decide⟩
 ·exact ⟨by show (0 : Int) ≠ 2; decide, by show (0 : Int) ≠ 3; decide⟩
theorem safe_ask (m : Md) (ns : List ByteArray) (q : Cl) (e : En) : ∀ c ∈ (askA m ns q).l, SafeC e m.known c := by
 have nil : ∀ (x : Int), ∀ c ∈ (refA m x).l, SafeC e m.known c := fun _ c hc => by cases hc
 have said : ∀ (l : List Cg) (x : Int), (x = 0 → ∀ c ∈ l, SafeC e m.known c) → ∀ c ∈ (saidA m l x).l, SafeC e m.known c := fun l x h => by
  unfold saidA
  split
  ·rename_i hx
   exact h hx
  ·exact nil x
 unfold askA
 split
 ·unfold instA
  split
  ·exact nil 251
  ·split
   ·exact nil 182
   ·split
    ·exact nil 101
    ·intro c hc
     have hc : c ∈ (wipeT m.known).1 := hc
     unfold wipeT at hc
     split at hc
     ·cases hc
     ·rcases List.mem_cons.1 hc with rfl | hc
      ·exact safe_set (by show (1 : Int) ≠ 2; decide) (by show (1 : Int) ≠ 3; decide)
      ·cases hc
 ·split
  ·unfold cancA
   split
   ·exact nil 252
   ·intro c hc; cases hc
  ·split
   ·refine said _ _ fun h0 c hc => ?_
    unfold goodT at h0 hc
    split at h0
    ·rename_i hr
     rw [if_pos hr] at hc
     split at h0
     ·rename_i hg
      rw [if_pos hg] at hc
      have sg : SafeC e m.known (setC q.slot (goodS (m.known.at_ q.slot)).1) := fun _ a h1 h2 => by
       have ha : a = m.known.at_ q.slot := at_eq h1 h2
       subst ha
       unfold goodS at hg ⊢
       split
       ·rename_i hf
        simp only [Bool.and_eq_true, fullS, Bool.or_eq_true, beq_iff_eq] at hf
        exact ⟨fun h => absurd h (by show ¬ (3 : Int) = 2; decide), fun _ => hf.2⟩
       ·rename_i hf
        rw [if_neg hf] at hg
        exact absurd hg (by show ¬ (101 : Int) = 0; decide)
      split at hc
      ·rcases List.mem_cons.1 hc with rfl | hc
       ·exact sg
       ·rcases List.mem_cons.1 hc with rfl | hc
        ·exact safe_flo _ _ _
        ·cases hc
      ·rcases List.mem_cons.1 hc with rfl | hc
       ·exact sg
       ·cases hc
     ·rename_i hg
      exact absurd h0 hg
    ·exact absurd h0 (by show ¬ (101 : Int) = 0; decide)
   ·split
    ·split
     ·exact nil 251
     ·refine said _ _ fun h0 c hc => ?_
      unfold badT at hc
      have hb := bad_st (m.known.at_ q.slot)
      split at hc
      ·split at hc
       ·split at hc
        ·split at hc
         ·rcases List.mem_cons.1 hc with rfl | hc
          ·exact safe_set hb.1 hb.2
          ·rcases List.mem_cons.1 hc with rfl | hc
           ·exact safe_act _ _ _
           ·cases hc
         ·rcases List.mem_cons.1 hc with rfl | hc
          ·exact safe_set hb.1 hb.2
          ·cases hc
        ·cases hc
       ·cases hc
      ·cases hc
    ·split
     ·unfold rebA
      split
      ·exact nil 251
      ·split
       ·exact nil 121
       ·intro c hc
        have hc : c ∈ (planT m.known).2 := hc
        unfold planT at hc
        split at hc
        ·unfold planL at hc
         have hb := bad_st (m.known.at_ m.known.act)
         rcases List.mem_append.1 hc with hc | hc
         ·split at hc
          ·cases hc
          ·rcases List.mem_append.1 hc with hc | hc
           ·split at hc
            ·rcases List.mem_cons.1 hc with rfl | hc
             ·exact safe_set hb.1 hb.2
             ·cases hc
            ·cases hc
           ·rcases List.mem_cons.1 hc with rfl | hc
            ·exact safe_act _ _ _
            ·cases hc
         ·rcases List.mem_append.1 hc with hc | hc
          ·split at hc
           ·rename_i h2
            rcases List.mem_cons.1 hc with rfl | hc
            ·intro _ a h1 h3
             have ha : a = m.known.at_ (pickT m.known) := at_eq h1 h3
             subst ha
             have h2 : (m.known.at_ (pickT m.known)).st = 2 := by simpa using h2
             exact ⟨fun _ => .inl h2, fun _ => .inl h2⟩
            ·cases hc
           ·cases hc
          ·rcases List.mem_cons.1 hc with rfl | hc
           ·exact safe_boo _ _ _
           ·cases hc
        ·cases hc
     ·intro c hc
      cases hc
theorem safe_stored (m : Md) (ns : List ByteArray) (q : Cl) (e : En) (x : Int) : ∀ c ∈ (storedA m (askA m ns q) x).1.l, SafeC e m.known c := by
 unfold storedA
 split
 ·intro c hc; cases hc
 ·split
  ·intro c hc; cases hc
  ·exact safe_ask m ns q e
theorem ask_refused (m : Md) (ns : List ByteArray) (q : Cl) (h : (askA m ns q).rep.err ≠ 0) : (askA m ns q).l = [] := by
 have said : ∀ (l : List Cg) (x : Int), (saidA m l x).rep.err ≠ 0 → (saidA m l x).l = [] := fun l x h => by
  unfold saidA at h ⊢
  split
  ·rename_i hx
   rw [if_pos hx] at h
   exact absurd rfl h
  ·rfl
 unfold askA at h ⊢
 split at h
 ·rename_i hk
  rw [if_pos hk]
  unfold instA at h ⊢
  split
  ·rfl
  ·rename_i h1
   rw [if_neg h1] at h
   split
   ·rfl
   ·rename_i h2
    rw [if_neg h2] at h
    split
    ·rfl
    ·rename_i h3
     rw [if_neg h3] at h
     exact absurd rfl h
 ·rename_i hk
  rw [if_neg hk]
  split at h
  ·rename_i hk
   rw [if_pos hk]
   unfold cancA
   split <;> rfl
  ·rename_i hk
   rw [if_neg hk]
   split at h
   ·rename_i hk
    rw [if_pos hk]
    exact said _ _ h
   ·rename_i hk
    rw [if_neg hk]
    split at h
    ·rename_i hk
     rw [if_pos hk]
     split at h
     ·rename_i hk
      rw [if_pos hk]
      rfl
     ·rename_i hk
      rw [if_neg hk]
      exact said _ _ h
    ·rename_i hk
     rw [if_neg hk]
     split at h
     ·rename_i hk
      rw [if_pos hk]
      unfold rebA at h ⊢
      split
      ·rfl
      ·rename_i h1
       rw [if_neg h1] at h
       split
       ·rfl
       ·rename_i h2
        rw [if_neg h2] at h
        exact absurd rfl h
     ·rename_i hk
      rw [if_neg hk]
      rfl
theorem began_other (m : Md) (ns : List ByteArray) (q : Cl) (h : q.kind = 1 → (askA m ns q).rep.err ≠ 0) : (askA m ns q).began = m.began := by
 by_cases hk : q.kind = 1
 ·have h := h hk
  unfold askA at h ⊢
  rw [if_pos hk] at h ⊢
  unfold instA at h ⊢
  split
  ·rfl
  ·rename_i h1
   rw [if_neg h1] at h
   split
   ·rfl
   ·rename_i h2
    rw [if_neg h2] at h
    split
    ·rfl
    ·rename_i h3
     rw [if_neg h3] at h
     exact absurd rfl h
 ·unfold askA
  rw [if_neg hk]
  split
  ·unfold cancA
   split <;> rfl
  ·split
   ·exact saidA_began _ _
   ·split
    ·split
     ·rfl
     ·exact saidA_began _ _
    ·split
     ·unfold rebA
      split
      ·rfl
      ·split <;> rfl
     ·rfl
theorem inst_begins (m : Md) (ns : List ByteArray) (q : Cl) (hk : q.kind = 1) (h : (askA m ns q).rep.err = 0) : m.job.live = false ∧ (askA m ns q).job.live = true ∧ (askA m ns q).rep.job = m.began + 1 ∧ (askA m ns q).began = m.began + 1 := by
 unfold askA at h ⊢
 rw [if_pos hk] at h ⊢
 unfold instA at h ⊢
 split at h
 ·exact absurd h (by show ¬ (251 : Int) = 0; decide)
 ·rename_i h1
  rw [if_neg h1]
  split at h
  ·exact absurd h (by show ¬ (182 : Int) = 0; decide)
  ·rename_i h2
   rw [if_neg h2]
   split at h
   ·exact absurd h (by show ¬ (101 : Int) = 0; decide)
   ·rename_i h3
    rw [if_neg h3]
    exact ⟨by simpa using h1, rfl, rfl, rfl⟩
structure JobStep (m m' : Md) (e : En) : Prop where
 inst : e.kind = 1 → e.call.kind = 1 → e.rep.err = 0 → m.job.live = false ∧ m'.job.live = true ∧ e.rep.job = m.began + 1 ∧ m'.began = m.began + 1
 other : ¬ (e.kind = 1 ∧ e.call.kind = 1 ∧ e.rep.err = 0) → m'.began = m.began
 ends : e.kind = 2 → m.job.live = true ∧ m'.job.live = false
 step : StepT e m.known m'.known
 same : e.kind = 1 → (e.rep.err ≠ 0 ∨ rightC e.call = false) → m'.known = m.known
 kind : e.kind = 1 ∨ e.kind = 2
 right : e.kind = 1 → rightC e.call = true
theorem do_step {m m' : Md} {ns : List ByteArray} {e : En} (h : doM m ns e = some m') : JobStep m m' e := by
 unfold doM at h
 by_cases hk : e.kind = 1
 ·rw [if_pos hk] at h
  obtain ⟨h1, h2, h3, h4, h5⟩ := called_some h
  have hst := applyT_step (safe_stored m ns e.call e e.store) h4
  have n2 : e.kind ≠ 2 := by omega
  by_cases h0 : e.store = 0
  ·rw [h0, storedA_zero] at h3 h4 h5 hst
   simp only at h3 h4 h5 hst
   refine ⟨fun _ hc he => ?_, fun hno => ?_, fun h => absurd h n2, by rw [h5]; exact hst, fun _ he => ?_, .inl hk, fun _ => h1⟩
   ·rw [← h3] at he ⊢
    obtain ⟨g1, g2, g3, g4⟩ := inst_begins m ns e.call hc he
    rw [h5]
    exact ⟨g1, g2, g3, g4⟩
   ·rw [h5]
    refine began_other m ns e.call fun hc he => hno ⟨hk, hc, ?_⟩
    rw [← h3]; exact he
   ·rcases he with he | he
    ·rw [← h3] at he
     rw [ask_refused m ns e.call he] at h4 h5
     rw [h5]
     exact applyT_nil h4
    ·rw [h1] at he; cases he
  ·have hs := (storedA_ne h0 h2).1
   rw [hs] at h3
   have he0 : e.rep.err = e.store := by rw [← h3]; rfl
   have hm := called_skip h h0
   subst hm
   exact ⟨fun _ _ he => absurd (he0.symm.trans he) h0, fun _ => rfl, fun h => absurd h n2, StepT.refl _ _, fun _ _ => rfl, .inl hk, fun _ => h1⟩
 ·rw [if_neg hk] at h
  by_cases hk2 : e.kind = 2
  ·rw [if_pos hk2] at h
   unfold endedM at h
   split at h
   ·rename_i hb
    split at h
    ·rename_i hs2
     split at h
     ·unfold landsM at h
      split at h
      ·cases h
      ·split at h
       ·rename_i hl0
        split at h
        ·rename_i ha0
         simp only [Option.map_some, Option.some.injEq] at h
         subst h
         refine ⟨fun h => absurd h hk, fun _ => rfl, fun _ => ⟨hb.2, rfl⟩, ?_, fun h => absurd h hk, .inr hk2, fun h => absurd h hk⟩
         refine applyT_step (fun c hc => ?_) ha0
         unfold landT at hl0 hc
         split at hc
         ·rename_i hcc
          rcases List.mem_cons.1 hc with rfl | hc
          ·have h2 : e.slot.st = 2 := hcc.2.2.2.2.2
           exact fun _ _ _ _ => ⟨fun _ => .inr ⟨hk2, hs2⟩, fun h => absurd (h2.symm.trans h) (by decide)⟩
          ·rcases List.mem_cons.1 hc with rfl | hc
           ·exact safe_act _ _ _
           ·cases hc
         ·cases hc
        ·cases h
       ·cases h
     ·cases h
    ·split at h
     ·split at h
      ·cases h
      ·injection h with h
       subst h
       exact ⟨fun h => absurd h hk, fun _ => rfl, fun _ => ⟨hb.2, rfl⟩, StepT.refl _ _, fun h => absurd h hk, .inr hk2, fun h => absurd h hk⟩
     ·cases h
   ·cases h
  ·rw [if_neg hk2] at h
   cases h
end

section
set_option linter.unusedVariables false
set_option linter.unusedSimpArgs false
open Go.RowKit Go.Lib
def refOne (t : ByteArray) : Nat × Nat × Bool := if brokenAt t 0 then ((t.get! 0).toNat, 1, true) else ((Utf8.decode t 0).1, (Utf8.decode t 0).2, false)
def contB (c : Nat) : Prop := 128 ≤ c ∧ c ≤ 191
def Kd (a sz base least : Nat) : Prop := (194 ≤ a ∧ a < 224 ∧ sz = 2 ∧ base = 192 ∧ least = 128) ∨ (224 ≤ a ∧ a < 240 ∧ sz = 3 ∧ base = 224 ∧ least = 2048) ∨ (240 ≤ a ∧ a < 245 ∧ sz = 4 ∧ base = 240 ∧ least = 65536)
def accV (t : ByteArray) (base : Nat) : Nat → Nat
 | 0 => 0
 | 1 => (t.get! 0).toNat - base
 | i + 2 => 64 * accV t base (i + 1) + (t.get! (i + 1)).toNat - 128
theorem pairEq {a b c d : Nat} (h : a = c) (k : b = d) : (a, b) = (c, d) := by rw [h, k]
theorem fin2_bad (n a b c d : Nat) (k1 : 194 ≤ a) (k2 : a < 224) (hn : 2 ≤ n) (cb : 128 ≤ b ∧ b ≤ 191) (h : 64 * (a - 192) + b - 128 < 128 ∨ 1114111 < 64 * (a - 192) + b - 128 ∨ (55296 ≤ 64 * (a - 192) + b - 128 ∧ 64 * (a - 192) + b - 128 ≤ 57343)) : decodeN n a b c d = (65533, 1) := by
 unfold decodeN
 repeat' split
 all_goals (exfalso; omega)
theorem fin2_good (n a b c d : Nat) (k1 : 194 ≤ a) (k2 : a < 224) (hn : 2 ≤ n) (cb : 128 ≤ b ∧ b ≤ 191) (h : ¬ (64 * (a - 192) + b - 128 < 128 ∨ 1114111 < 64 * (a - 192) + b - 128 ∨ (55296 ≤ 64 * (a - 192) + b - 128 ∧ 64 * (a - 192) + b - 128 ≤ 57343))) : decodeN n a b c d = (64 * (a - 192) + b - 128, 2) := by
 unfold decodeN
 repeat' split
 all_goals first | (exfalso; omega) | exact pairEq (by omega) (by omega)
theorem fin3_bad (n a b c d : Nat) (k1 : 224 ≤ a) (k2 : a < 240) (hn : 3 ≤ n) (cb : 128 ≤ b ∧ b ≤ 191) (cc : 128 ≤ c ∧ c ≤ 191) (h : 64 * (64 * (a - 224) + b - 128) + c - 128 < 2048 ∨ 1114111 < 64 * (64 * (a - 224) + b - 128) + c - 128 ∨ (55296 ≤ 64 * (64 * (a - 224) + b - 128) + c - 128 ∧ 64 * (64 * (a - 224) + b - 128) + c - 128 ≤ 57343)) : decodeN n a b c d = (65533, 1) := by
 unfold decodeN
 repeat' split
 all_goals first | (exfalso; omega) | exact pairEq (by omega) (by omega)
theorem fin3_good (n a b c d : Nat) (k1 : 224 ≤ a) (k2 : a < 240) (hn : 3 ≤ n) (cb : 128 ≤ b ∧ b ≤ 191) (cc : 128 ≤ c ∧ c ≤ 191) (h : ¬ (64 * (64 * (a - 224) + b - 128) + c - 128 < 2048 ∨ 1114111 < 64 * (64 * (a - 224) + b - 128) + c - 128 ∨ (55296 ≤ 64 * (64 * (a - 224) + b - 128) + c - 128 ∧ 64 * (64 * (a - 224) + b - 128) + c - 128 ≤ 57343))) : decodeN n a b c d = (64 * (64 * (a - 224) + b - 128) + c - 128, 3) := by
 unfold decodeN
 repeat' split
 all_goals first | (exfalso; omega) | exact pairEq (by omega) (by omega)
theorem fin4_bad (n a b c d : Nat) (k1 : 240 ≤ a) (k2 : a < 245) (hn : 4 ≤ n) (cb : 128 ≤ b ∧ b ≤ 191) (cc : 128 ≤ c ∧ c ≤ 191) (cd : 128 ≤ d ∧ d ≤ 191) (h : 64 * (64 * (64 * (a - 240) + b - 128) + c - 128) + d - 128 < 65536 ∨ 1114111 < 64 * (64 * (64 * (a - 240) + b - 128) + c - 128) + d - 128 ∨ (55296 ≤ 64 * (64 * (64 * (a - 240) + b - 128) + c - 128) + d - 128 ∧ 64 * (64 * (64 * (a - 240) + b - 128) + c - 128) + d - 128 ≤ 57343)) : decodeN n a b c d = (65533, 1) := by
 unfold decodeN
 repeat' split
 all_goals first | (exfalso; omega) | exact pairEq (by omega) (by omega)
theorem fin4_good (n a b c d : Nat) (k1 : 240 ≤ a) (k2 : a < 245) (hn : 4 ≤ n) (cb : 128 ≤ b ∧ b ≤ 191) (cc : 128 ≤ c ∧ c ≤ 191) (cd : 128 ≤ d ∧ d ≤ 191) (h : ¬ (64 * (64 * (64 * (a - 240) + b - 128) + c - 128) + d - 128 < 65536 ∨ 1114111 < 64 * (64 * (64 * (a - 240) + b - 128) + c - 128) + d - 128 ∨ (55296 ≤ 64 * (64 * (64 * (a - 240) + b - 128) + c - 128) + d - 128 ∧ 64 * (64 * (64 * (a - 240) + b - 128) + c - 128) + d - 128 ≤ 57343))) : decodeN n a b c d = (64 * (64 * (64 * (a - 240) + b - 128) + c - 128) + d - 128, 4) := by
 unfold decodeN
 repeat' split
 all_goals first | (exfalso; omega) | exact pairEq (by omega) (by omega)
section
variable {t : ByteArray} {a sz base least : Nat}
theorem one_raw (t : ByteArray) : refOne t = (if (decodeN t.size (t.get! 0).toNat (t.get! 1).toNat (t.get! 2).toNat (t.get! 3).toNat).1 = 65533 ∧ (decodeN t.size (t.get! 0).toNat (t.get! 1).toNat (t.get! 2).toNat (t.get! 3).toNat).2 = 1 then ((t.get! 0).toNat, 1, true)
  else ((decodeN t.size (t.get! 0).toNat (t.get! 1).toNat (t.get! 2).toNat (t.get! 3).toNat).1, (decodeN t.size (t.get! 0).toNat (t.get! 1).toNat (t.get! 2).toNat (t.get! 3).toNat).2, false)) := by
 unfold refOne brokenAt
 rw [decode_at]
 simp only [Nat.sub_zero, Nat.zero_add, Bool.and_eq_true, beq_iff_eq]
theorem one_ascii (h : (t.get! 0).toNat < 128) : refOne t = ((t.get! 0).toNat, 1, false) := by
 rw [one_raw]
 have e : decodeN t.size (t.get! 0).toNat (t.get! 1).toNat (t.get! 2).toNat (t.get! 3).toNat = ((t.get! 0).toNat, 1) := by unfold decodeN; rw [if_pos h]
 rw [e, if_neg (by simp only []; omega)]
theorem one_of_bad (h : decodeN t.size (t.get! 0).toNat (t.get! 1).toNat (t.get! 2).toNat (t.get! 3).toNat = (65533, 1)) : refOne t = ((t.get! 0).toNat, 1, true) := by
 rw [one_raw, h, if_pos ⟨rfl, rfl⟩]
theorem one_of_good {v w : Nat} (h : decodeN t.size (t.get! 0).toNat (t.get! 1).toNat (t.get! 2).toNat (t.get! 3).toNat = (v, w)) (hw : w ≠ 1) : refOne t = (v, w, false) := by
 rw [one_raw, h, if_neg (by simp only []; omega)]
theorem one_out (h : 128 ≤ (t.get! 0).toNat) (h2 : (t.get! 0).toNat < 194 ∨ 245 ≤ (t.get! 0).toNat) : refOne t = ((t.get! 0).toNat, 1, true) := by
 apply one_of_bad
 have h0 := (t.get! 0).toNat_lt
 generalize (t.get! 0).toNat = a at *
 generalize (t.get! 1).toNat = b at *
 generalize (t.get! 2).toNat = c at *
 generalize (t.get! 3).toNat = d at *
 unfold decodeN
 repeat' split
 all_goals first | (exfalso; omega) | exact pairEq (by omega) (by omega)
theorem one_short (hK : Kd (t.get! 0).toNat sz base least) (h : t.size < sz) : refOne t = ((t.get! 0).toNat, 1, true) := by
 apply one_of_bad
 generalize (t.get! 0).toNat = a at *
 generalize (t.get! 1).toNat = b at *
 generalize (t.get! 2).toNat = c at *
 generalize (t.get! 3).toNat = d at *
 generalize t.size = n at *
 rcases hK with ⟨_, _, rfl, rfl, rfl⟩ | ⟨_, _, rfl, rfl, rfl⟩ | ⟨_, _, rfl, rfl, rfl⟩
 all_goals
  unfold decodeN
  repeat' split
  all_goals first | (exfalso; omega) | exact pairEq (by omega) (by omega)
set_option maxRecDepth 100000 in
theorem one_cont (hK : Kd (t.get! 0).toNat sz base least) (j : Nat) (h1 : 1 ≤ j) (h2 : j < sz) (h3 : ¬ contB (t.get! j).toNat) : refOne t = ((t.get! 0).toNat, 1, true) := by
 apply one_of_bad
 have hb1 := (t.get! 1).toNat_lt
 have hb2 := (t.get! 2).toNat_lt
 have hb3 := (t.get! 3).toNat_lt
 have hj : j = 1 ∨ j = 2 ∨ j = 3 := by rcases hK with ⟨_, _, rfl, _⟩ | ⟨_, _, rfl, _⟩ | ⟨_, _, rfl, _⟩ <;> omega
 have h4 : (j = 1 ∧ ¬ contB (t.get! 1).toNat) ∨ (j = 2 ∧ ¬ contB (t.get! 2).toNat) ∨ (j = 3 ∧ ¬ contB (t.get! 3).toNat) := by
  rcases hj with hj | hj | hj
  ·subst hj; exact .inl ⟨rfl, h3⟩
  ·subst hj; exact .inr (.inl ⟨rfl, h3⟩)
  ·subst hj; exact .inr (.inr ⟨rfl, h3⟩)
 clear h3 hj
 unfold contB at h4
 generalize t.size = n at *
 generalize (t.get! 0).toNat = a at *
 generalize (t.get! 1).toNat = b at *
 generalize (t.get! 2).toNat = c at *
 generalize (t.get! 3).toNat = d at *
 rcases hK with ⟨_, _, rfl, rfl, rfl⟩ | ⟨_, _, rfl, rfl, rfl⟩ | ⟨_, _, rfl, rfl, rfl⟩
 all_goals
  unfold decodeN
  repeat' split
  all_goals first | (exfalso; omega) | exact pairEq (by omega) (by omega)
set_option maxRecDepth 100000 in
theorem one_fin (hK : Kd (t.get! 0).toNat sz base least) (hn : sz ≤ t.size) (hc : ∀ j, 1 ≤ j → j < sz → contB (t.get! j).toNat) :
  (accV t base sz < least ∨ 1114111 < accV t base sz ∨ (55296 ≤ accV t base sz ∧ accV t base sz ≤ 57343) → refOne t = ((t.get! 0).toNat, 1, true)) ∧
  (¬ (accV t base sz < least ∨ 1114111 < accV t base sz ∨ (55296 ≤ accV t base sz ∧ accV t base sz ≤ 57343)) → refOne t = (accV t base sz, sz, false)) := by
 rcases hK with ⟨k1, k2, rfl, rfl, rfl⟩ | ⟨k1, k2, rfl, rfl, rfl⟩ | ⟨k1, k2, rfl, rfl, rfl⟩
 ·have c1 := hc 1 (by omega) (by omega)
  exact ⟨fun h => one_of_bad (fin2_bad _ _ _ _ _ k1 k2 hn c1 h), fun h => one_of_good (fin2_good _ _ _ _ _ k1 k2 hn c1 h) (by omega)⟩
 ·have c1 := hc 1 (by omega) (by omega)
  have c2 := hc 2 (by omega) (by omega)
  exact ⟨fun h => one_of_bad (fin3_bad _ _ _ _ _ k1 k2 hn c1 c2 h), fun h => one_of_good (fin3_good _ _ _ _ _ k1 k2 hn c1 c2 h) (by omega)⟩
 ·have c1 := hc 1 (by omega) (by omega)
  have c2 := hc 2 (by omega) (by omega)
  have c3 := hc 3 (by omega) (by omega)
  exact ⟨fun h => one_of_bad (fin4_bad _ _ _ _ _ k1 k2 hn c1 c2 c3 h), fun h => one_of_good (fin4_good _ _ _ _ _ k1 k2 hn c1 c2 c3 h) (by omega)⟩
end
end

section

end
end Go.Proofs.YtnjnooeldkideaaDoor
