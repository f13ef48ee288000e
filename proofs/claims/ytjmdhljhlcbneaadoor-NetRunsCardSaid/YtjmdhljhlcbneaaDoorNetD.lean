/- net: Fetch of what is not there; More; New. -/
import Derived.Test.YtjmdhljhlcbneaaDoorNetC
import Derived.Deep.RegionHeld3
namespace Go.Proofs.YtjmdhljhlcbneaaDoor
set_option linter.unusedVariables false
set_option linter.unusedSimpArgs false
open Go.RowKit
section
variable {W w : World} {J : Nat → Option Obj} {g m : Nat} {es : List (ByteArray × Part)} {fs : List Fault} {cnt : Nat} {F : List (Nat × Obj)}

set_option maxRecDepth 100000 in
set_option maxHeartbeats 4000000 in
theorem net_fetch_none (t : TB W J) (s : ByteArray) (hs : s.size ≤ 35184372088830) (a n : Int) (hlp : lookP es ⟨(foldOf s).toArray⟩ = none) (h : NetSt W w J g m es fs cnt F) :
    Calls Tryd.prog 9 #[.pointer (some ⟨g, 0, none⟩), .string s, .int .i64 a, .int .i64 n] w fun e w' => e = .returned (.tuple #[.slice none 0 0, .int .i64 182]) ∧ NetSt W w' J g m es fs cnt F := by
  obtain ⟨φ, h⟩ := h
  have c0 : ∀ x : SW W J (φ.L' g m es cnt ++ F), x.w.cell? ⟨g, 0, none⟩ = some (.map (some m)) := fun x => (net_cells φ x.ok).1
  have hlk : ∀ x : SW W J (φ.L' g m es cnt ++ F), (Instr.lookup 54 (.map (some m)) (.string ⟨(foldOf s).toArray⟩) true).run Tryd.prog x.w = .ok (.tuple #[.slice none 0 0, .bool false]) x.w := fun x => by
    rw [run_lookup_map Tryd.underlying54 Tryd.underlying9 (net_cells φ x.ok).2.2.2.1 (Tryd.zeroValue22 x.w), look_ev, hlp]
    rfl
  have hF := fun (x : SW W J (φ.L' g m es cnt ++ F)) => fold_any t s hs x.ok
  generalize foldOf s = fo at *
  have HF := Lib.hid hF; have H := Lib.hid h
  have hne : Nonempty (SW W J (φ.L' g m es cnt ++ F)) := ⟨⟨_, h⟩⟩
  clear hF h hlp
  go_enter Tryd.func9, Tryd.ntmps9
  go_wp2_with fail
  refine wp_region_sw _ H.out (by kernel_rfl) (by kernel_rfl) ?_
  repeat (go_big_quiet_step ((go_at_call 20; (with_reducible refine (HF.out _).mono ?_); exact fun e w'' ⟨h1, h2⟩ => ⟨h1, ⟨_, h2⟩, rfl⟩)))
  refine wpQuiet_nil ?_
  rintro _ ⟨x, rfl⟩
  have hfin := x.ok
  have HFIN := Lib.hid hfin
  clear hfin c0 hlk HF H hne
  go_wp2_with fail
  go_ret2
  exact ⟨rfl, φ, HFIN.out⟩

theorem run_slice3 {P : Program} {t e : TypeId} {sz : Nat} (ht : P.underlying t = some (.slice e)) (hs : ∀ w, (sizeOf e).run P w = .ok sz w) (A : Option Addr) (n c : Nat) (hc : n ≤ c) (w : World) :
    (Instr.slice t (.slice A n c) none (some (.int .i64 n)) (some (.int .i64 n))).run P w = .ok (.slice A n n) w := by
  have h1 : (n : Int) ≤ c := by omega
  simp [Instr.slice, run_underlying ht, Instr.sliceBounds, Instr.sliceBound, asIntOf, h1, hs, addr_add0]
  intro h2
  omega
theorem row_clip {E : TypeId} {sz : Nat} {A : Option Addr} {n c : Nat} {xs : List Value} {L : List (Nat × Obj)} (h : Row E sz (.slice A n c) n xs L) : Row E sz (.slice A n n) n xs L ∧ n ≤ c := by
  obtain ⟨hl, ⟨hv, h0, hL⟩ | ⟨g, off, cap, cur, hv, rfl, hnc, hcm, hsz, hxs⟩⟩ := h
  · injection hv with h1 _ h2
    subst h1; subst h2; subst h0; subst hL
    exact ⟨⟨hl, .inl ⟨rfl, rfl, rfl⟩⟩, by omega⟩
  injection hv with h1 _ h2
  subst h1; subst h2
  refine ⟨⟨hl, .inr ⟨g, off, n, cur, rfl, rfl, Nat.le_refl _, by omega, ?_, hxs⟩⟩, hnc⟩
  have := Nat.mul_le_mul_right sz hnc
  omega

set_option maxRecDepth 100000 in
set_option maxHeartbeats 2000000 in
theorem clip_faults {A : Option Addr} {n c : Nat} (hc : n ≤ c) (w : World) : Calls Tryd.prog 25 #[.slice A n c] w fun e w' => e = .returned (.slice A n n) ∧ w = w' := by
  have e1 := run_slice3 (P := Tryd.prog) (sz := 3) Tryd.underlying33 (fun w => by simp [Tryd.sizeOf36 w]) A n c hc
  go_enter Tryd.func25, Tryd.ntmps25
  go_wp2_with fail
  go_ret
  exact ⟨rfl, rfl⟩

set_option maxRecDepth 100000 in
set_option maxHeartbeats 4000000 in
theorem net_more (A : Option Addr) (c : Nat) (l : List Fault) (hp : FIn A l W J) (hlen : fs.length + l.length ≤ 1000000) (h : NetSt W w J g m es fs cnt F) :
    Calls Tryd.prog 12 #[.pointer (some ⟨g, 0, none⟩), .slice A l.length c] w fun e w' => e = .returned (.tuple #[]) ∧ NetSt W w' J g m es (fs ++ l) cnt F := by
  obtain ⟨φ, h⟩ := h
  obtain ⟨_, c1, _, _, f1, _⟩ := net_cells φ h
  obtain ⟨hr, hc⟩ := row_clip φ.row
  have hsrc := hp _ _ h
  have hone := fall_one l
  have h2 : St W w J (φ.L ++ ([(g, .cells #[.map (some m), .slice φ.A fs.length φ.c, .int .i64 cnt] 57 (0, 0)), (m, mapObj (es.map ev))] ++ F)) := St.swap (A := [_, _]) h
  go_enter Tryd.func12, Tryd.ntmps12
  go_wp2_with fail
  refine (clip_faults hc w).mono ?_
  rintro e w1 ⟨rfl, rfl⟩
  go_wp2_with (at_builtin; refine Hid.out ?_)
  refine Lib.hid ?_
  refine wpList_append_row0 (F := [(g, .cells #[.map (some m), .slice φ.A fs.length φ.c, .int .i64 cnt] 57 (0, 0)), (m, mapObj (es.map ev))] ++ F) rfl (.tmp 9) (.tmp 10) 33 rfl 36 (.agg #[.int .i64 0, .int .i64 0, .int .u8 0]) 3 24 Tryd.underlying33 (by kernel_rfl) rfl (by omega) rfl hr (by exact h2) rfl (by exact hsrc) hone (fs.length + l.length) rfl (fall fs ++ fall l) rfl (by unfold maxLen; omega) (by omega) ?_
  intro A1 c2 w2 L1 hr1 h3 ho
  have h4 := St.swap (B := [(g, .cells #[.map (some m), .slice φ.A fs.length φ.c, .int .i64 cnt] 57 (0, 0)), (m, mapObj (es.map ev))]) h3
  have q2 : w2.cell? ⟨g, 1, none⟩ = some (.slice φ.A fs.length φ.c) := h4.cell (g := g) (cs := #[.map (some m), .slice φ.A fs.length φ.c, .int .i64 cnt]) (t := 57) (fr := (0, 0)) (by simp) 1
  have f2 : w2.frozen? ⟨g, 1, none⟩ = false := h4.frozen (g := g) (cs := #[.map (some m), .slice φ.A fs.length φ.c, .int .i64 cnt]) (t := 57) (by simp) 1
  have h5 := St.set (A := []) h4 1 (.slice A1 (fs.length + l.length) c2)
  have hfin : NetSt W (w2.setCell ⟨g, 1, none⟩ (.slice A1 (fs.length + l.length) c2)) J g m es (fs ++ l) cnt F := by
    have hle : fs.length + l.length = (fs ++ l).length := by simp
    have hfa : fall fs ++ fall l = fall (fs ++ l) := by simp [fall]
    rw [hle] at hr1 h5 ⊢
    rw [hfa] at hr1
    exact ⟨⟨A1, c2, L1, hr1⟩, h5⟩
  have HFIN := Lib.hid hfin
  clear hfin h5 h4 h3 hr1 ho h2 hsrc hone hr h
  go_wp2_with fail
  go_end0
  exact ⟨rfl, HFIN.out⟩
end
end Go.Proofs.YtjmdhljhlcbneaaDoor
