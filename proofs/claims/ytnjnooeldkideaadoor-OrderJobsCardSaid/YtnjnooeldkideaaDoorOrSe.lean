/- order: what the log says can be: in plain Lean. -/
import Derived.Test.YtnjnooeldkideaaDoorMOrArg
namespace Go.Proofs.YtnjnooeldkideaaDoor
set_option linter.unusedVariables false
set_option linter.unusedSimpArgs false
open Go.RowKit Go.Lib Go.Deep
theorem saidA_err {m : Md} (l : List Cg) {x : Int} (h : x ≠ 92 ∧ x ≠ 64) : (saidA m l x).rep.err ≠ 92 ∧ (saidA m l x).rep.err ≠ 64 := by
 unfold saidA
 split
 ·exact ⟨by show (0 : Int) ≠ 92; decide, by show (0 : Int) ≠ 64; decide⟩
 ·exact h
theorem refA_err (m : Md) {x : Int} (h : x ≠ 92 ∧ x ≠ 64) : (refA m x).rep.err ≠ 92 ∧ (refA m x).rep.err ≠ 64 := h
theorem askA_err (m : Md) (ns : List ByteArray) (q : Cl) : (askA m ns q).rep.err ≠ 92 ∧ (askA m ns q).rep.err ≠ 64 := by
 have d : ∀ x : Int, x = 251 ∨ x = 182 ∨ x = 101 ∨ x = 252 ∨ x = 121 ∨ x = 0 → x ≠ 92 ∧ x ≠ 64 := fun x h => by omega
 unfold askA
 split
 ·unfold instA
  split
  ·exact refA_err m (d 251 (by simp))
  ·split
   ·exact refA_err m (d 182 (by simp))
   ·split
    ·exact refA_err m (d 101 (by simp))
    ·exact d 0 (by simp)
 ·split
  ·unfold cancA
   split
   ·exact refA_err m (d 252 (by simp))
   ·exact d 0 (by simp)
  ·split
   ·exact saidA_err _ (by have := goodT_err m.known q.slot; omega)
   ·split
    ·split
     ·exact refA_err m (d 251 (by simp))
     ·exact saidA_err _ (by have := badT_err m.known q.slot; omega)
    ·split
     ·unfold rebA
      split
      ·exact refA_err m (d 251 (by simp))
      ·split
       ·exact refA_err m (d 121 (by simp))
       ·exact d 0 (by simp)
     ·exact d 0 (by simp)
theorem keptB_iff (x : Int) : keptB x = true ↔ x = 0 ∨ x = 92 ∨ x = 64 := by simp [keptB]
theorem applyT_nil {t : Tb} (h : (applyT t []).2 = 0) : (applyT t []).1 = t := by
 unfold applyT at h ⊢
 split
 ·rename_i hc
  simp [applyL]
 ·rename_i hc
  rw [if_neg hc] at h
  exact absurd h (by decide)
theorem called_some {m m' : Md} {ns : List ByteArray} {e : En} (h : calledM m ns e = some m') : rightC e.call = true ∧ (storedA m (askA m ns e.call) e.store).2 = true ∧ (storedA m (askA m ns e.call) e.store).1.rep = e.rep ∧ (applyT m.known (storedA m (askA m ns e.call) e.store).1.l).2 = 0 ∧
  m' = ⟨(applyT m.known (storedA m (askA m ns e.call) e.store).1.l).1, m.tries, (storedA m (askA m ns e.call) e.store).1.job, (storedA m (askA m ns e.call) e.store).1.began⟩ := by
 unfold calledM at h
 split at h
 ·rename_i h1
  split at h
  ·rename_i h2
   split at h
   ·rename_i h3
    injection h with h
    exact ⟨h1.2, h2.1, (eqRy_iff _ _).1 h2.2, h3, h.symm⟩
   ·cases h
  ·cases h
 ·cases h
theorem storedA_ne {m : Md} {a : An} {x : Int} (hx : x ≠ 0) (h : (storedA m a x).2 = true) : storedA m a x = (refA m x, true) ∧ keptB x = true ∧ a.keeps = true := by
 unfold storedA at h ⊢
 split
 ·rename_i hc
  rw [if_pos hc] at h
  cases h
 ·rename_i hc
  simp only [if_pos hx]
  have hb : (x != 0) = true := by simpa using hx
  rw [hb] at hc
  simp only [Bool.true_and, Bool.or_eq_true, Bool.not_eq_true', not_or, Bool.not_eq_false] at hc
  exact ⟨trivial, hc.1, hc.2⟩
theorem storedA_zero (m : Md) (a : An) : storedA m a 0 = (a, true) := by
 unfold storedA
 rw [if_neg (by simp [keptB]), if_neg (by decide)]
theorem called_skip {m m' : Md} {ns : List ByteArray} {e : En} (h : calledM m ns e = some m') (hs : e.store ≠ 0) : m' = m := by
 obtain ⟨_, h2, _, h4, h5⟩ := called_some h
 have := (storedA_ne hs h2).1
 rw [this] at h4 h5
 have h6 : (applyT m.known (refA m e.store).l).1 = m.known := applyT_nil h4
 rw [h5]
 show (⟨(applyT m.known (refA m e.store).l).1, m.tries, m.job, m.began⟩ : Md) = m
 rw [h6]
theorem called_make {m : Md} {ns : List ByteArray} {q : Cl} {x s : Int} {A : An} (hA : storedA m (askA m ns q) x = (A, true)) (hr : rightC q = true) (ha : (applyT m.known A.l).2 = 0) : doM m ns ⟨1, s, q, A.rep, x, 0, 0, zS⟩ = some ⟨(applyT m.known A.l).1, m.tries, A.job, A.began⟩ := by
 unfold doM
 rw [if_pos rfl]
 unfold calledM
 rw [if_pos ⟨(eqEn_iff _ _).2 rfl, hr⟩]
 simp only [hA]
 rw [if_pos ⟨trivial, (eqRy_iff _ _).2 rfl⟩, if_pos ha]
theorem called_place {m m' : Md} {ns : List ByteArray} {e : En} {y : Sp} (h : calledM m ns e = some m') (hc : e.call = y.call) (hr : 0 < y.upto → e.rep = y.rep) (hs : e.store = 0 ∨ 0 < y.upto) : placeM m ns y = some m' := by
 obtain ⟨h1, h2, h3, h4, h5⟩ := called_some h
 have hst : storeOf y = e.store := by
  by_cases h0 : e.store = 0
  ·rw [h0, storedA_zero] at h3
   unfold storeOf
   rw [if_neg, h0]
   intro hk
   simp only [Bool.and_eq_true, decide_eq_true_eq, bne_iff_ne, ne_eq] at hk
   obtain ⟨hu, hn, hk⟩ := hk
   rw [← hr hu, ← h3] at hn hk
   have := askA_err m ns e.call
   rcases (keptB_iff _).1 hk with hk | hk | hk
   ·exact hn hk
   ·exact this.1 hk
   ·exact this.2 hk
  ·have hu : 0 < y.upto := hs.resolve_left h0
   obtain ⟨g1, g2, g3⟩ := storedA_ne h0 h2
   rw [g1] at h3
   have he : y.rep.err = e.store := by rw [← hr hu, ← h3]; rfl
   unfold storeOf
   rw [he, if_pos]
   simp only [Bool.and_eq_true, decide_eq_true_eq, bne_iff_ne, ne_eq]
   exact ⟨hu, h0, g2⟩
 obtain ⟨A, hA⟩ : ∃ A, storedA m (askA m ns e.call) e.store = (A, true) := ⟨_, Prod.ext rfl h2⟩
 rw [hA] at h3 h4 h5
 have hrep : replyM m ns y.call (storeOf y) = (A.rep, true) := by
  unfold replyM
  rw [← hc, if_pos h1, hst, hA]
 unfold placeM
 rw [hrep]
 rw [if_pos ⟨rfl, fun hu => (eqRy_iff _ _).2 (h3.trans (hr (by simpa using hu)))⟩, hst, ← hc, called_make hA h1 h4, h5]
structure Seen (R : List Sp) (es : List En) : Prop where
 left : ∀ y ∈ R, 0 < y.upto → ∃ e ∈ es, e.kind = 1 ∧ e.serial = y.serial
 has : ∀ e ∈ es, e.kind = 1 → ∃ y ∈ R, y.serial = e.serial ∧ e.call = y.call ∧ (0 < y.upto → e.rep = y.rep)
 one : R.Pairwise (fun a b => a.serial ≠ b.serial)
 ones : es.Pairwise (fun a b => a.kind = 1 → b.kind = 1 → a.serial ≠ b.serial)
 order : es.Pairwise (fun a b => a.kind = 1 → b.kind = 1 → ∀ x ∈ R, ∀ y ∈ R, x.serial = a.serial → y.serial = b.serial → aheadB y x = false)
theorem aheadB_not {a b : Sp} (h : ¬ 0 < a.upto) : aheadB a b = false := by simp [aheadB, h]
theorem nodup_eq {R : List Sp} (h : R.Pairwise (fun a b => a.serial ≠ b.serial)) : ∀ {x y : Sp}, x ∈ R → y ∈ R → x.serial = y.serial → x = y := by
 induction h with
 | nil => intro x y hx; cases hx
 | cons hh _ ih =>
  intro x y hx hy he
  rcases List.mem_cons.1 hx with h1 | h1 <;> rcases List.mem_cons.1 hy with h2 | h2
  ·rw [h1, h2]
  ·exact absurd (h1 ▸ he) (hh _ h2)
  ·exact absurd (h2 ▸ he).symm (hh _ h1)
  ·exact ih h1 h2 he
theorem seen_found (ns : List ByteArray) : ∀ (es : List En) (R : List Sp) (m m' : Md) (f : Nat), Seen R es → runM ns es m = some m' → R.length + (endsOf es).length + 1 ≤ f → foundM ns f R (endsOf es) m = true
 | _, _, _, _, 0, _, _, hf => absurd hf (by omega)
 | [], R, m, m', f + 1, hs, _, hf => by
  unfold foundM
  have : overB R (endsOf []) = true := by
   unfold overB anyUp
   have : (R.any fun s => decide (0 < s.upto)) = false := List.any_eq_false.2 fun y hy => by
    simp only [decide_eq_true_eq]
    intro hu
    obtain ⟨e, he, _⟩ := hs.left y hy hu
    cases he
   rw [this]; rfl
  rw [this]; rfl
 | e :: es, R, m, m', f + 1, hs, hr, hf => by
  unfold runM at hr
  cases hd : doM m ns e with
  | none => rw [hd] at hr; cases hr
  | some m2 =>
   rw [hd] at hr
   simp only at hr
   have ho := List.pairwise_cons.1 hs.ones
   have hor := List.pairwise_cons.1 hs.order
   have tl : (R' : List Sp) → (∀ y ∈ R', y ∈ R) → R'.Pairwise (fun a b => a.serial ≠ b.serial) → (∀ y ∈ R', 0 < y.upto → ∃ e ∈ es, e.kind = 1 ∧ e.serial = y.serial) → (∀ e ∈ es, e.kind = 1 → ∃ y ∈ R', y.serial = e.serial ∧ e.call = y.call ∧ (0 < y.upto → e.rep = y.rep)) → Seen R' es := fun R' hsub h1 h2 h3 =>
    ⟨h2, h3, h1, ho.2, hor.2.imp fun h k1 k2 x hx y hy => h k1 k2 x (hsub x hx) y (hsub y hy)⟩
   have hdo := hd
   unfold doM at hdo
   by_cases hk : e.kind = 1
   ·rw [if_pos hk] at hdo
    have hen : endsOf (e :: es) = endsOf es := by
     unfold endsOf
     rw [List.filter_cons_of_neg]
     simp [hk]
    obtain ⟨y, hy, hser, hcall, hrep⟩ := hs.has e (List.mem_cons_self ..) hk
    by_cases hskip : e.store ≠ 0 ∧ ¬ 0 < y.upto
    ·have hm := called_skip hdo hskip.1
     rw [hm] at hr
     rw [hen] at hf ⊢
     refine seen_found ns es R m m' (f + 1) (tl R (fun _ h => h) hs.one (fun z hz hu => ?_) (fun e' he' hk' => hs.has e' (List.mem_cons_of_mem _ he') hk')) hr hf
     obtain ⟨e', he', h1, h2⟩ := hs.left z hz hu
     rcases List.mem_cons.1 he' with rfl | he'
     ·exact absurd (nodup_eq hs.one hy hz (hser.trans h2) ▸ hu) hskip.2
     ·exact ⟨e', he', h1, h2⟩
    ·have hst : e.store = 0 ∨ 0 < y.upto := by
      by_cases h0 : e.store = 0
      ·exact .inl h0
      ·exact .inr (by by_cases hu : 0 < y.upto; exact hu; exact absurd ⟨h0, hu⟩ hskip)
     have hp := called_place hdo hcall hrep hst
     obtain ⟨k, hky⟩ := List.mem_iff_getElem?.1 hy
     have hperm := perm_erase hky
     have hone : (y :: R.eraseIdx k).Pairwise (fun a b => a.serial ≠ b.serial) := (hperm.pairwise_iff (fun h => h.symm)).1 hs.one
     have hone' := List.pairwise_cons.1 hone
     have hsub : ∀ z ∈ R.eraseIdx k, z ∈ R := fun z hz => hperm.mem_iff.2 (List.mem_cons_of_mem _ hz)
     have hlen : R.length = (R.eraseIdx k).length + 1 := by rw [hperm.length_eq]; rfl
     unfold foundM
     rw [Bool.or_eq_true, Bool.or_eq_true]
     right; right
     rw [spTry_iff]
     refine ⟨k, y, hky, fun x hx => ?_, m2, hp, ?_⟩
     ·by_cases hu : 0 < x.upto
      ·obtain ⟨e', he', h1, h2⟩ := hs.left x (hsub x hx) hu
       rcases List.mem_cons.1 he' with rfl | he'
       ·exact absurd (hser.trans h2) (hone'.1 x hx)
       ·exact hor.1 e' he' hk h1 y hy x (hsub x hx) hser h2.symm
      ·exact aheadB_not hu
     ·rw [hen] at hf ⊢
      refine seen_found ns es _ m2 m' f (tl _ hsub hone'.2 (fun z hz hu => ?_) (fun e' he' hk' => ?_)) hr (by omega)
      ·obtain ⟨e', he', h1, h2⟩ := hs.left z (hsub z hz) hu
       rcases List.mem_cons.1 he' with rfl | he'
       ·exact absurd (hser.trans h2) (hone'.1 z hz)
       ·exact ⟨e', he', h1, h2⟩
      ·obtain ⟨z, hz, h1, h2⟩ := hs.has e' (List.mem_cons_of_mem _ he') hk'
       rcases List.mem_cons.1 (hperm.mem_iff.1 hz) with rfl | hz
       ·exact absurd (hser.symm.trans h1) (ho.1 e' he' hk hk')
       ·exact ⟨z, hz, h1, h2⟩
   ·rw [if_neg hk] at hdo
    by_cases hk2 : e.kind = 2
    ·have hen : endsOf (e :: es) = e :: endsOf es := by
      unfold endsOf
      rw [List.filter_cons_of_pos]
      simp [hk2]
     rw [hen] at hf ⊢
     unfold foundM
     rw [Bool.or_eq_true, Bool.or_eq_true]
     right; left
     unfold enTry
     simp only [hd]
     refine seen_found ns es R m2 m' f (tl R (fun _ h => h) hs.one (fun z hz hu => ?_) (fun e' he' hk' => hs.has e' (List.mem_cons_of_mem _ he') hk')) hr (by simp only [List.length_cons] at hf; omega)
     obtain ⟨e', he', h1, h2⟩ := hs.left z hz hu
     rcases List.mem_cons.1 he' with rfl | he'
     ·exact absurd h1 hk
     ·exact ⟨e', he', h1, h2⟩
    ·rw [if_neg hk2] at hdo
     cases hdo
theorem placesA_some : ∀ (es : List En) (i : Nat) (l l' : List (Int × Int)), placesA es i l = some l' →
  (∀ k v, lookI l k = some v → lookI l' k = some v) ∧ (∀ j e, es[j]? = some e → e.kind = 1 → lookI l' e.serial = some ((i + j : Nat) : Int) ∧ lookI l e.serial = none) ∧
  (∀ k v, lookI l' k = some v → lookI l k = some v ∨ ∃ j e, es[j]? = some e ∧ e.kind = 1 ∧ e.serial = k ∧ v = ((i + j : Nat) : Int))
 | [], i, l, l', h => by
  unfold placesA at h
  injection h with h
  subst h
  exact ⟨fun _ _ h => h, fun j e h => by simp at h, fun _ _ h => .inl h⟩
 | e :: es, i, l, l', h => by
  unfold placesA plStep at h
  by_cases hk : e.kind = 1
  ·by_cases hl : (lookI l e.serial).isSome = true
   ·rw [if_pos hk, if_pos hl] at h; cases h
   ·rw [if_pos hk, if_neg hl] at h
    simp only at h
    have hn : lookI l e.serial = none := by simpa using hl
    obtain ⟨h1, h2, h3⟩ := placesA_some es (i + 1) _ l' h
    refine ⟨fun k v hv => h1 k v ?_, fun j e' hj hk' => ?_, fun k v hv => ?_⟩
    ·rw [lookI_put, if_neg (by rintro rfl; rw [hn] at hv; cases hv), hv]
    ·cases j with
     | zero =>
      simp only [List.getElem?_cons_zero, Option.some.injEq] at hj
      subst hj
      exact ⟨by rw [Nat.add_zero]; exact h1 _ _ (by rw [lookI_put, if_pos rfl]), hn⟩
     | succ j =>
      simp only [List.getElem?_cons_succ] at hj
      obtain ⟨g1, g2⟩ := h2 j e' hj hk'
      refine ⟨by rw [g1]; congr 1; omega, ?_⟩
      rw [lookI_put] at g2
      split at g2
      ·cases g2
      ·exact g2
    ·rcases h3 k v hv with g | ⟨j, e', g1, g2, g3, g4⟩
     ·rw [lookI_put] at g
      split at g
      ·rename_i hke
       injection g with g
       exact .inr ⟨0, e, rfl, hk, hke.symm, by rw [← g]; simp⟩
      ·exact .inl g
     ·exact .inr ⟨j + 1, e', by simpa using g1, g2, g3, by rw [g4]; congr 1; omega⟩
  ·rw [if_neg hk] at h
   simp only at h
   obtain ⟨h1, h2, h3⟩ := placesA_some es (i + 1) _ l' h
   refine ⟨h1, fun j e' hj hk' => ?_, fun k v hv => ?_⟩
   ·cases j with
    | zero =>
     simp only [List.getElem?_cons_zero, Option.some.injEq] at hj
     exact absurd (hj ▸ hk') hk
    | succ j =>
     simp only [List.getElem?_cons_succ] at hj
     obtain ⟨g1, g2⟩ := h2 j e' hj hk'
     exact ⟨by rw [g1]; congr 1; omega, g2⟩
   ·rcases h3 k v hv with g | ⟨j, e', g1, g2, g3, g4⟩
    ·exact .inl g
    ·exact .inr ⟨j + 1, e', by simpa using g1, g2, g3, by rw [g4]; congr 1; omega⟩
theorem check_seen {t : Tb} {nms : List ByteArray} {tries : Int} {es : List En} {ss : List Sp} (h : checkM t nms tries es ss = 0) : (∃ m', runM (filtN nms) es (newM t tries) = some m') ∧ Seen ss es := by
 unfold checkM at h
 cases hr : runM (filtN nms) es (newM t tries) with
 | none => simp only [hr] at h; exact absurd h (by decide)
 | some m' =>
  refine ⟨⟨m', rfl⟩, ?_⟩
  rw [hr] at h
  simp only at h
  cases hp : placesM es with
  | none => simp only [hp] at h; exact absurd h (by decide)
  | some l =>
   rw [hp] at h
   simp only at h
   split at h
   ·exact absurd h (by decide)
   rename_i ha
   split at h
   ·exact absurd h (by decide)
   rename_i hlate
   obtain ⟨a1, a2, a3⟩ := (answered_iff es ss l).1 (by simpa using ha)
   have hlate : ∀ a ∈ ss, ∀ b ∈ ss, lateP l a b = false := fun a ha b hb => by
    have h1 : lateB l ss = false := by simpa using hlate
    have h2 := List.any_eq_false.1 h1 a ha
    have h2 : lateIn l a ss = false := by simpa using h2
    have := List.any_eq_false.1 h2 b hb
    simpa using this
   obtain ⟨_, p2, p3⟩ := placesA_some es 0 [] l hp
   have look : ∀ s ∈ ss, ∀ v, lookI l s.serial = some v → ∃ (j : Nat) (e : En), es[j]? = some e ∧ e.kind = 1 ∧ e.serial = s.serial ∧ v = (j : Int) := fun s _ v hv => by
    rcases p3 _ v hv with g | ⟨j, e, g1, g2, g3, g4⟩
    ·cases g
    ·exact ⟨j, e, g1, g2, g3, by rw [g4, Nat.zero_add]⟩
   have spot : ∀ (j : Nat) (e : En), es[j]? = some e → e.kind = 1 → lookI l e.serial = some (j : Int) := fun j e hj hk => by have := (p2 j e hj hk).1; rwa [Nat.zero_add] at this
   refine ⟨fun y hy hu => ?_, fun e he hk => ?_, List.pairwise_map.1 a2, ?_, ?_⟩
   ·have hf := a1 y hy
    unfold fitS at hf
    cases hl : lookI l y.serial with
    | none => rw [hl] at hf; simp [hu] at hf
    | some v =>
     obtain ⟨j, e, g1, g2, g3, _⟩ := look y hy v hl
     exact ⟨e, List.mem_of_getElem? g1, g2, g3⟩
   ·obtain ⟨y, hy, hser⟩ := List.mem_map.1 (a3 e he hk)
    obtain ⟨j, hj⟩ := List.mem_iff_getElem?.1 he
    have hf := a1 y hy
    unfold fitS at hf
    rw [hser, spot j e hj hk] at hf
    simp only [Int.toNat_natCast, hj, Bool.and_eq_true, Bool.or_eq_true, Bool.not_eq_true', decide_eq_false_iff_not] at hf
    exact ⟨y, hy, hser, (eqC_iff _ _).1 hf.1, fun hu => (eqRy_iff _ _).1 (hf.2.resolve_left (fun h => h hu))⟩
   ·refine List.pairwise_iff_getElem.2 fun i j hi hj hij k1 k2 he => ?_
    have s1 := spot i _ (List.getElem?_eq_getElem hi) k1
    have s2 := spot j _ (List.getElem?_eq_getElem hj) k2
    rw [he, s2] at s1
    injection s1 with s1
    omega
   ·refine List.pairwise_iff_getElem.2 fun i j hi hj hij k1 k2 x hx y hy e1 e2 => ?_
    have s1 := spot i _ (List.getElem?_eq_getElem hi) k1
    have s2 := spot j _ (List.getElem?_eq_getElem hj) k2
    have := hlate y hy x hx
    unfold lateP at this
    rw [e1, e2, s1, s2] at this
    simp only [Bool.and_eq_false_iff, decide_eq_false_iff_not] at this
    exact this.resolve_right (by omega)
def modS (s : Sp) : Sp := { s with upto := 0, rep := zRy }
def moreS (w : Int) (i : Nat) (s : Sp) : Sp := if (i : Int) = w ∧ 0 < s.upto then modS s else s
def moreL (w : Int) : List Sp → Nat → List Sp
 | [], _ => []
 | s :: ss, i => moreS w i s :: moreL w ss (i + 1)
theorem moreL_len (w : Int) : ∀ (ss : List Sp) (i : Nat), (moreL w ss i).length = ss.length
 | [], _ => rfl
 | s :: ss, i => by rw [moreL, List.length_cons, List.length_cons, moreL_len w ss]
theorem moreS_ser (w : Int) (i : Nat) (s : Sp) : (moreS w i s).serial = s.serial ∧ (moreS w i s).call = s.call ∧ (moreS w i s).frm = s.frm ∧ (0 < (moreS w i s).upto → moreS w i s = s) := by
 unfold moreS
 split
 ·exact ⟨rfl, rfl, rfl, fun h => absurd h (by show ¬ (0 : Int) < 0; decide)⟩
 ·exact ⟨rfl, rfl, rfl, fun _ => rfl⟩
theorem moreL_mem (w : Int) : ∀ (ss : List Sp) (i : Nat) (y : Sp), y ∈ moreL w ss i → ∃ j s, s ∈ ss ∧ y = moreS w j s
 | [], _, y, h => by cases h
 | s :: ss, i, y, h => by
  rcases List.mem_cons.1 h with rfl | h
  ·exact ⟨i, s, List.mem_cons_self .., rfl⟩
  ·obtain ⟨j, s', h1, h2⟩ := moreL_mem w ss (i + 1) y h
   exact ⟨j, s', List.mem_cons_of_mem _ h1, h2⟩
theorem mem_moreL (w : Int) : ∀ (ss : List Sp) (i : Nat) (s : Sp), s ∈ ss → ∃ j, moreS w j s ∈ moreL w ss i
 | [], _, s, h => by cases h
 | x :: ss, i, s, h => by
  rcases List.mem_cons.1 h with rfl | h
  ·exact ⟨i, List.mem_cons_self ..⟩
  ·obtain ⟨j, hj⟩ := mem_moreL w ss (i + 1) s h
   exact ⟨j, List.mem_cons_of_mem _ hj⟩
theorem moreL_one (w : Int) : ∀ (ss : List Sp) (i : Nat), ss.Pairwise (fun a b => a.serial ≠ b.serial) → (moreL w ss i).Pairwise (fun a b => a.serial ≠ b.serial)
 | [], _, _ => .nil
 | s :: ss, i, h => by
  obtain ⟨h1, h2⟩ := List.pairwise_cons.1 h
  refine List.pairwise_cons.2 ⟨fun y hy => ?_, moreL_one w ss (i + 1) h2⟩
  obtain ⟨j, s', hs', rfl⟩ := moreL_mem w ss (i + 1) y hy
  rw [(moreS_ser w i s).1, (moreS_ser w j s').1]
  exact h1 s' hs'
theorem more_seen {ss : List Sp} {es : List En} (w : Int) (h : Seen ss es) : Seen (moreL w ss 0) es := by
 refine ⟨fun y hy hu => ?_, fun e he hk => ?_, moreL_one w ss 0 h.one, h.ones, h.order.imp fun hp k1 k2 x hx y hy e1 e2 => ?_⟩
 ·obtain ⟨j, s, hs, rfl⟩ := moreL_mem w ss 0 y hy
  have he := (moreS_ser w j s).2.2.2 hu
  rw [he] at hu ⊢
  exact h.left s hs hu
 ·obtain ⟨s, hs, h1, h2, h3⟩ := h.has e he hk
  obtain ⟨j, hj⟩ := mem_moreL w ss 0 s hs
  have hm := moreS_ser w j s
  exact ⟨_, hj, hm.1.trans h1, h2.trans hm.2.1.symm, fun hu => by have e1 := hm.2.2.2 hu; rw [e1]; rw [e1] at hu; exact h3 hu⟩
 ·obtain ⟨j, s, hs, rfl⟩ := moreL_mem w ss 0 x hx
  obtain ⟨k, s', hs', rfl⟩ := moreL_mem w ss 0 y hy
  have m1 := moreS_ser w j s
  have m2 := moreS_ser w k s'
  by_cases hu : 0 < (moreS w k s').upto
  ·rw [m2.2.2.2 hu] at e2 ⊢
   have := hp k1 k2 s hs s' hs' (m1.1.symm.trans e1) e2
   unfold aheadB at this ⊢
   rwa [m1.2.2.1]
  ·exact aheadB_not hu
theorem find_zero {t : Tb} {nms : List ByteArray} {tries : Int} {es : List En} {ss : List Sp} {m' : Md} (hr : runM (filtN nms) es (newM t tries) = some m') (h : Seen ss es) (h5 : ss.length ≤ 5) (h3 : (endsOf es).length ≤ 3) : findM t nms tries es ss = 0 := by
 unfold findM
 rw [if_neg (by omega), if_pos (seen_found (filtN nms) es ss _ m' _ h hr (Nat.le_refl _))]
theorem seen_find {t : Tb} {nms : List ByteArray} {tries : Int} {es : List En} {ss : List Sp} (hc : checkM t nms tries es ss = 0) (h5 : ss.length ≤ 5) (w : Int) :
  (3 < (endsOf es).length → findM t nms tries es ss = 264) ∧ ((endsOf es).length ≤ 3 → findM t nms tries es ss = 0 ∧ findM t nms tries es (moreL w ss 0) = 0) := by
 obtain ⟨⟨m', hr⟩, hs⟩ := check_seen hc
 refine ⟨fun h => ?_, fun h => ⟨find_zero hr hs h5 h, find_zero hr (more_seen w hs) (by rw [moreL_len]; exact h5) h⟩⟩
 unfold findM
 rw [if_pos (.inr h)]
end Go.Proofs.YtnjnooeldkideaaDoor
