/- NetRuns: the plain law; Has and Size once more. -/
import Derived.Test.YtjmdhljhlcbneaaDoorRArgs
namespace Go.Proofs.YtjmdhljhlcbneaaDoor
set_option linter.unusedVariables false
set_option linter.unusedSimpArgs false
open Go.RowKit

def key (o : ByteArray × Part) : ByteArray × List UInt8 := (⟨(foldOf o.1).toArray⟩, o.2.bs)
theorem key_eq (a b : List UInt8) : ((⟨a.toArray⟩ : ByteArray) = ⟨b.toArray⟩) ↔ a = b := by
  constructor
  · intro h
    have h1 : a.toArray = b.toArray := by injection h
    exact Array.toList_inj.2 h1 |> fun h2 => by simpa using h2
  · rintro rfl; rfl
theorem lookB_find (nm : ByteArray) : ∀ (ros : List (ByteArray × Part)) (k : Nat), (findFrom nm ros k = -1 ∧ lookB (ros.map key) ⟨(foldOf nm).toArray⟩ = none) ∨ ∃ j o, findFrom nm ros k = ((k + j : Nat) : Int) ∧ ros[j]? = some o ∧ lookB (ros.map key) ⟨(foldOf nm).toArray⟩ = some o.2.bs
  | [], k => .inl ⟨rfl, rfl⟩
  | o :: ros, k => by
    simp only [findFrom, List.map_cons, key, lookB]
    by_cases h : foldOf o.1 = foldOf nm
    · rw [if_pos h, if_pos ((key_eq _ _).2 h.symm)]
      exact .inr ⟨0, o, rfl, rfl, rfl⟩
    · rw [if_neg h, if_neg (fun h2 => h ((key_eq _ _).1 h2).symm)]
      rcases lookB_find nm ros (k + 1) with ⟨h1, h2⟩ | ⟨j, o', h1, h2, h3⟩
      · exact .inl ⟨h1, h2⟩
      · exact .inr ⟨j + 1, o', by rw [h1]; congr 1; omega, by simpa using h2, h3⟩
theorem addOff_key (acc : List (ByteArray × Part)) (o : ByteArray × Part) : addOff (acc.map key) o = (addR acc o).map key := by
  unfold addOff addR findIx
  rcases lookB_find o.1 acc 0 with ⟨h1, h2⟩ | ⟨j, o', h1, h2, h3⟩
  · rw [h1, h2]
    cases nameOk o.1 with
    | true => simp [key]
    | false => simp
  · rw [h1, h3]
    have h4 : ¬ ((j : Int) < 0) := by omega
    rw [Nat.zero_add]
    simp [h4]
theorem newOffs_key (os : List (ByteArray × Part)) : newOffs os = (rOffs os).map key := by
  have : ∀ (l acc : List (ByteArray × Part)), l.foldl addOff (acc.map key) = (l.foldl addR acc).map key := by
    intro l
    induction l with
    | nil => intro acc; rfl
    | cons o l ih => intro acc; simp only [List.foldl_cons]; rw [addOff_key, ih]
  exact this os []
/-- What both find. -/
theorem find_both {es : List (ByteArray × Part)} {os : List (ByteArray × Part)} (h : es.map eb = newOffs os) (nm : ByteArray) :
    (findIx (rOffs os) nm = -1 ∧ lookP es ⟨(foldOf nm).toArray⟩ = none) ∨ ∃ (j : Nat) (onm : ByteArray) (q p : Part), findIx (rOffs os) nm = (j : Int) ∧ (rOffs os)[j]? = some (onm, q) ∧ lookP es ⟨(foldOf nm).toArray⟩ = some p ∧ q.bs = p.bs := by
  rw [newOffs_key] at h
  have hl := lookB_eb es ⟨(foldOf nm).toArray⟩
  rw [h] at hl
  rcases lookB_find nm (rOffs os) 0 with ⟨h1, h2⟩ | ⟨j, o', h1, h2, h3⟩
  · rw [h2] at hl
    refine .inl ⟨h1, ?_⟩
    cases hp : lookP es ⟨(foldOf nm).toArray⟩ with
    | none => rfl
    | some p => rw [hp] at hl; cases hl
  · rw [h3] at hl
    cases hp : lookP es ⟨(foldOf nm).toArray⟩ with
    | none => rw [hp] at hl; cases hl
    | some p =>
      rw [hp] at hl
      injection hl with hl
      exact .inr ⟨j, o'.1, o'.2, p, by unfold findIx; rw [h1, Nat.zero_add], h2, rfl, hl⟩

section
variable {W w : World} {J : Nat → Option Obj} {g m : Nat} {es : List (ByteArray × Part)} {fs : List Fault} {cnt : Nat} {F : List (Nat × Obj)}
set_option maxRecDepth 100000 in
set_option maxHeartbeats 2000000 in
theorem net_has_x (φ : NetF fs) (t : TB W J) (s : ByteArray) (hs : s.size ≤ 35184372088830) (h : St W w J (φ.L' g m es cnt ++ F)) :
    Calls Tryd.prog 13 #[.pointer (some ⟨g, 0, none⟩), .string s] w fun e w' => e = .returned (.bool (lookP es ⟨(foldOf s).toArray⟩).isSome) ∧ St W w' J (φ.L' g m es cnt ++ F) := by
  have c0 : ∀ x : SW W J (φ.L' g m es cnt ++ F), x.w.cell? ⟨g, 0, none⟩ = some (.map (some m)) := fun x => (net_cells φ x.ok).1
  have hlk : ∀ x : SW W J (φ.L' g m es cnt ++ F), (Instr.lookup 54 (.map (some m)) (.string ⟨(foldOf s).toArray⟩) true).run Tryd.prog x.w = .ok (.tuple #[((lookP es ⟨(foldOf s).toArray⟩).map Part.val).getD (.slice none 0 0), .bool (lookP es ⟨(foldOf s).toArray⟩).isSome]) x.w := fun x => by
    rw [run_lookup_map Tryd.underlying54 Tryd.underlying9 (net_cells φ x.ok).2.2.2.1 (Tryd.zeroValue22 x.w), look_ev]
    simp
  have hF := fun (x : SW W J (φ.L' g m es cnt ++ F)) => fold_any t s hs x.ok
  generalize foldOf s = fo at *
  generalize lookP es ⟨fo.toArray⟩ = lp at *
  have HF := Lib.hid hF; have H := Lib.hid h
  have hne : Nonempty (SW W J (φ.L' g m es cnt ++ F)) := ⟨⟨_, h⟩⟩
  clear hF h
  go_enter Tryd.func13, Tryd.ntmps13
  go_wp2_with fail
  refine wp_region_sw _ H.out (by kernel_rfl) (by kernel_rfl) ?_
  repeat (go_big_quiet_step ((go_at_call 20; (with_reducible refine (HF.out _).mono ?_); exact fun e w'' ⟨h1, h2⟩ => ⟨h1, ⟨_, h2⟩, rfl⟩)))
  refine wpQuiet_nil ?_
  rintro _ ⟨x, rfl⟩
  have hfin := x.ok
  have HFIN := Lib.hid hfin
  clear hfin c0 hlk HF H hne
  go_wp2_with fail
  go_ret
  exact ⟨rfl, HFIN.out⟩

set_option maxRecDepth 100000 in
set_option maxHeartbeats 2000000 in
theorem net_size_x (φ : NetF fs) (t : TB W J) (ho : Offs W J es) (s : ByteArray) (hs : s.size ≤ 35184372088830) (h : St W w J (φ.L' g m es cnt ++ F)) :
    Calls Tryd.prog 14 #[.pointer (some ⟨g, 0, none⟩), .string s] w fun e w' => e = .returned (.int .i64 (((lookP es ⟨(foldOf s).toArray⟩).map fun p => p.bs.length).getD 0 : Nat)) ∧ St W w' J (φ.L' g m es cnt ++ F) := by
  have c0 : ∀ x : SW W J (φ.L' g m es cnt ++ F), x.w.cell? ⟨g, 0, none⟩ = some (.map (some m)) := fun x => (net_cells φ x.ok).1
  have hlk : ∀ x : SW W J (φ.L' g m es cnt ++ F), (Instr.lookup 54 (.map (some m)) (.string ⟨(foldOf s).toArray⟩) false).run Tryd.prog x.w = .ok (((lookP es ⟨(foldOf s).toArray⟩).map Part.val).getD (.slice none 0 0)) x.w := fun x => by
    rw [run_lookup_map Tryd.underlying54 Tryd.underlying9 (net_cells φ x.ok).2.2.2.1 (Tryd.zeroValue22 x.w), look_ev]
    simp
  have hF := fun (x : SW W J (φ.L' g m es cnt ++ F)) => fold_any t s hs x.ok
  generalize foldOf s = fo at *
  obtain ⟨A1, n1, c1, hv, hn⟩ : ∃ A1 n1 c1, ((lookP es ⟨fo.toArray⟩).map Part.val).getD (.slice none 0 0) = .slice A1 n1 c1 ∧ ((lookP es ⟨fo.toArray⟩).map fun p => p.bs.length).getD 0 = n1 := by
    cases lookP es ⟨fo.toArray⟩ with
    | none => exact ⟨_, _, _, rfl, rfl⟩
    | some p => exact ⟨_, _, _, rfl, rfl⟩
  rw [hv] at hlk
  rw [hn]
  have HF := Lib.hid hF; have H := Lib.hid h
  have hne : Nonempty (SW W J (φ.L' g m es cnt ++ F)) := ⟨⟨_, h⟩⟩
  clear hF h hv hn
  go_enter Tryd.func14, Tryd.ntmps14
  go_wp2_with fail
  refine wp_region_sw _ H.out (by kernel_rfl) (by kernel_rfl) ?_
  repeat (go_big_quiet_step ((go_at_call 20; (with_reducible refine (HF.out _).mono ?_); exact fun e w'' ⟨h1, h2⟩ => ⟨h1, ⟨_, h2⟩, rfl⟩)))
  refine wpQuiet_nil ?_
  rintro _ ⟨x, rfl⟩
  have hfin := x.ok
  have HFIN := Lib.hid hfin
  clear hfin c0 hlk HF H hne
  go_wp2_with fail
  go_ret
  exact ⟨rfl, HFIN.out⟩

end
end Go.Proofs.YtjmdhljhlcbneaaDoor
