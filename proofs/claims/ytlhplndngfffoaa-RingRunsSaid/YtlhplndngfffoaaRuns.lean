/- RingRuns: the walk of the law. -/
import Derived.Test.YtlhplndngfffoaaBoth
namespace Go.Proofs.Ytlhplndngfffoaa
open Go.RowKit

/-- What the law looks at behind each act. -/
theorem tail_quiet_len {ρ : Ring} {σ : Ref} {r g n : Nat} (h : Both ρ σ r g n) {W w : World} {I : Nat → Option Obj} {F : List (Nat × Obj)} (hs : St W w I (ρ.L 89 9 ++ F)) (m : Nat) : Calls Try.prog 31 #[.pointer (some ⟨r, 0, none⟩)] (w.drewN m) fun e w'' => e = .returned (.int .i64 (σ.xs.length : Int)) ∧ ∃ k, w'' = w.drewN k :=
  quiet_left (b_len h (hs.drew m))
theorem tail_quiet_closed {ρ : Ring} {σ : Ref} {r g n : Nat} (h : Both ρ σ r g n) {W w : World} {I : Nat → Option Obj} {F : List (Nat × Obj)} (hs : St W w I (ρ.L 89 9 ++ F)) (m : Nat) : Calls Try.prog 30 #[.pointer (some ⟨r, 0, none⟩)] (w.drewN m) fun e w'' => e = .returned (.bool σ.closed) ∧ ∃ k, w'' = w.drewN k :=
  quiet_left (b_closed h (hs.drew m))
theorem tail_quiet_room {ρ : Ring} {σ : Ref} {r g n : Nat} (h : Both ρ σ r g n) {W w : World} {I : Nat → Option Obj} {F : List (Nat × Obj)} (hs : St W w I (ρ.L 89 9 ++ F)) (m : Nat) : Calls Try.prog 32 #[.pointer (some ⟨r, 0, none⟩)] (w.drewN m) fun e w'' => e = .returned (.int .i64 (σ.room : Int)) ∧ ∃ k, w'' = w.drewN k :=
  Calls.quiet_of (b_room h (hs.drew m))
theorem tail_quiet_ref_room {ρ : Ring} {σ : Ref} {r g n : Nat} (h : Both ρ σ r g n) {W w : World} {I : Nat → Option Obj} {F : List (Nat × Obj)} (hs : St W w I (σ.L ++ F)) (m : Nat) : Calls Try.prog 38 #[.pointer (some ⟨g, 0, none⟩)] (w.drewN m) fun e w'' => e = .returned (.int .i64 (σ.room : Int)) ∧ ∃ k, w'' = w.drewN k :=
  Calls.quiet_of (b_ref_room h (hs.drew m))

set_option maxRecDepth 10000 in
set_option maxHeartbeats 4000000 in
theorem walk_ringRuns (W : World) {H : Type} {enc : TypeId × Value → H} {v0 v1 : Value} (a0 : Arg enc Try.prog W 3 v0) (a1 : Arg enc Try.prog W 59 v1) :
    Calls Try.prog 6 #[v0, v1] W fun e w' => e = .returned (.bool true) ∧ Below W.heap.size W w' := by
  obtain ⟨room, rfl, _⟩ := a0.int Try.underlying3
  obtain ⟨A, len, cap, acts, rfl, hsl⟩ := a1.slice (α := Int × ByteArray) (Q := fun cs p => cs = [.int .i64 p.1, .string p.2] ∧ p.2.size ≤ maxLen) (size := 2) Try.underlying59 (by kernel_rfl) (by omega) (fun cs h => by
    obtain ⟨hl, hf⟩ := h.ones Try.underlying63 (by kernel_rfl) (by kernel_rfl)
    obtain ⟨c0, e0, h0⟩ := hf 0 _ rfl
    obtain ⟨c1, e1, h1⟩ := hf 1 _ rfl
    obtain ⟨k, hk, _⟩ := Cel.int (t := 3) Try.underlying3 h0
    obtain ⟨s, hs, hm⟩ := Cel.string (t := 9) Try.underlying9 h1
    have hl' : cs.length = 2 := hl
    match cs, hl' with
    | [x0, x1], _ =>
      simp at e0 e1 hk hs
      exact ⟨(k, s), by rw [e0, e1, hk, hs], hm⟩)
  have hlen := hsl.len
  have hcap := hsl.cap
  have hcap' := hsl.cap'
  unfold maxLen at hcap'
  have hat : ∀ k, k < len → ∃ b off kind s, A = some ⟨b, off, none⟩ ∧ s.size ≤ maxLen ∧ W.cell? ⟨b, off + k * 2, none⟩ = some (.int .i64 kind) ∧ W.cell? ⟨b, off + k * 2 + 1, none⟩ = some (.string s) := by
    intro k hk
    obtain ⟨b, off, cs, h1, h2, h3, h4, h5⟩ := hsl.at_ k (acts[k]'(by omega)) (List.getElem?_eq_getElem _)
    subst h4
    exact ⟨b, off, _, _, h1, h5, by have := h3 0 (by omega); rw [roCell_start] at this; simpa using this, by have := h3 1 (by omega); rw [roCell_start] at this; simpa using this⟩
  clear hsl hlen
  have Hat := Lib.hid hat; clear hat
  have hst0 := St.start W
  go_enter Try.func6, Try.ntmps6
  go_wp2_with fail
  refine (alive hst0).mono ?_
  rintro e w1 ⟨rfl, hst1⟩
  by_cases h200 : (120 : Int) < len
  · go_wp2_with fail
    go_ret
    exact ⟨rfl, hst1.below (Le.refl _)⟩
  go_wp2_with fail
  refine (new_str' room hst1).mono ?_
  rintro e w2 ⟨ρ0, hnew, rfl, hst2⟩
  go_wp2_with fail
  refine (ref_new room hst2).mono ?_
  rintro e w3 ⟨σ0, oks, hms, hxs, hcs, rfl, hst3⟩
  have both0 : Both ρ0 σ0 ρ0.r σ0.g (roomOf room) := ⟨hnew.ok, oks, rfl, rfl, hnew.n, hms, by rw [hnew.closed, hcs], by rw [hnew.xs, hxs]; rfl⟩
  have hst4 := St.swap hst3
  clear hnew oks hms hxs hcs hst3 hst2 hst1 hst0 a0 a1
  generalize roomOf room = n at *
  generalize ρ0.r = r at *
  generalize σ0.g = g at *
  go_wp2_with fail
  go_loopw [27] (fun i wr => ∃ (k : Nat) (ρ : Ring) (σ : Ref), k ≤ len ∧ i = .int .i64 k ∧ Both ρ σ r g n ∧ St W wr (fun b => W.heap[b]?) (ρ.L 89 9 ++ (σ.L ++ [])))
    (fun i _ => len - (intOf i).toNat)
  case atStart => exact ⟨0, ρ0, σ0, by omega, rfl, both0, hst4⟩
  case round =>
    obtain ⟨k, ρ, σ, hk, rfl, both, hst⟩ := hrel
    clear both0 hst4
    by_cases hlt : k < len
    · obtain ⟨b, off, kind, s, rfl, hs, hc0, hc1⟩ := Hat.out k hlt
      unfold maxLen at hs
      have hcw0 := hst.ro (by rw [roCell_start]; exact hc0)
      have hcw1 := hst.ro (by rw [roCell_start]; exact hc1)
      clear hc0 hc1
      by_cases h50 : (50 : Int) < s.size
      · go_wp2_with fail
        go_ret
        exact ⟨rfl, (hst.alloc_ _).below (Le.refl _)⟩
      have hstA := hst.alloc (.cells #[.int .i64 kind, .string s] 63)
      have hz : wr.heap.size = wr.heap.size := rfl
      by_cases k0 : kind = 0
      · subst k0
        go_wp2_with fail
        have hstB : St W (wr.alloc (.cells #[.int .i64 0, .string s] 63)) (fun b => W.heap[b]?) (ρ.L 89 9 ++ ([(wr.heap.size, .cells #[.int .i64 0, .string s] 63)] ++ (σ.L ++ []))) := St.swap (A := [(wr.heap.size, _)]) hstA
        have d1 : ∀ m, ((wr.alloc (.cells #[.int .i64 0, .string s] 63)).drewN m).cell? ⟨wr.heap.size, 1, none⟩ = some (.string s) := fun m => (hstB.drew m).cell (g := wr.heap.size) (cs := #[.int .i64 0, .string s]) (t := 63) (fr := (0, 0)) (by simp) 1
        go_region_held3 (fun w' => w'.cell? ⟨wr.heap.size, 1, none⟩ = some (.string s)) (first | exact d1 _ | assumption) (first
          | (go_at_call 26; refine (b_send both s (by first | exact hstB.drew _ | exact hstB)).mono ?_; rintro e w4 ⟨rfl, hst4⟩; have d2 : w4.cell? ⟨wr.heap.size, 1, none⟩ = some (.string s) := hst4.cell (g := wr.heap.size) (cs := #[.int .i64 0, .string s]) (t := 63) (fr := (0, 0)) (by simp) 1; have hst5 := St.swap (A := Ring.L 89 9 _ ++ [(wr.heap.size, _)]) (B := σ.L) (F := []) (by simpa using hst4))
          | (go_at_call 34; refine (b_ref_send both s (by exact hst5)).mono ?_; rintro e w5 ⟨rfl, σ', both', hst6⟩; have d3 : w5.cell? ⟨wr.heap.size, 1, none⟩ = some (.string s) := hst6.cell (g := wr.heap.size) (cs := #[.int .i64 0, .string s]) (t := 63) (fr := (0, 0)) (by simp) 1))
        have hend : St W w5 (fun b => W.heap[b]?) ((ρ.put (.string s)).L 89 9 ++ (σ'.L ++ [])) := by
          have s6 := St.mid (A := σ'.L ++ (ρ.put (.string s)).L 89 9) (B := [(wr.heap.size, _)]) (F := []) (by simpa using hst6)
          exact St.swap (by simpa using s6)
        have bothX := both'
        clear both' hst4 hst5 hst6 d2 d3 d1 hstA hstB
        generalize ρ.put (.string s) = ρX at *
        obtain ⟨A9, c9, q1, q2⟩ := Both.cells bothX (St.swap hend)
        have b16 := bothX.oks.m16
        have bmy := bothX.oks.many
        have Q5 := Lib.hid hend; have Q6 := Lib.hid bothX
        clear hend bothX
        go_wp2_with fail
        go_quiet (first | (go_at_call 31; exact tail_quiet_len Q6.out Q5.out _) | (go_at_call 32; exact tail_quiet_room Q6.out Q5.out _) | (go_at_call 38; exact tail_quiet_ref_room Q6.out (St.swap Q5.out) _) | (go_at_call 30; exact tail_quiet_closed Q6.out Q5.out _))
        go_wp2_with fail
        go_roundw
        case rel => exact ⟨k + 1, _, _, by omega, by go_num, Q6.out, Q5.out.drew _⟩
        case measure => simp [intOf]; omega
      by_cases k1 : kind = 1
      · subst k1
        have hstB : St W (wr.alloc (.cells #[.int .i64 1, .string s] 63)) (fun b => W.heap[b]?) (ρ.L 89 9 ++ ([(wr.heap.size, .cells #[.int .i64 1, .string s] 63)] ++ (σ.L ++ []))) := St.swap (A := [(wr.heap.size, _)]) hstA
        go_wp2_with fail
        refine (b_recv both hstB).mono ?_
        rintro e w4 ⟨rfl, hst4⟩
        have hst5 := St.swap (A := Ring.L 89 9 _ ++ [(wr.heap.size, _)]) (B := σ.L) (F := []) (by simpa using hst4)
        go_wp2_with fail
        refine (b_ref_recv both hst5).mono ?_
        rintro e w5 ⟨rfl, σ', both', hst6⟩
        have hend : St W w5 (fun b => W.heap[b]?) ((ρ.recv (.string ⟨#[]⟩)).L 89 9 ++ (σ'.L ++ [])) := by
          have s6 := St.mid (A := σ'.L ++ (ρ.recv (.string ⟨#[]⟩)).L 89 9) (B := [(wr.heap.size, _)]) (F := []) (by simpa using hst6)
          exact St.swap (by simpa using s6)
        have bothX := both'
        clear both' hst4 hst5 hst6 hstA hstB
        generalize ρ.recv (.string ⟨#[]⟩) = ρX at *
        obtain ⟨A9, c9, q1, q2⟩ := Both.cells bothX (St.swap hend)
        have b16 := bothX.oks.m16
        have bmy := bothX.oks.many
        have Q5 := Lib.hid hend; have Q6 := Lib.hid bothX
        clear hend bothX
        go_wp2_with fail
        go_quiet (first | (go_at_call 31; exact tail_quiet_len Q6.out Q5.out _) | (go_at_call 32; exact tail_quiet_room Q6.out Q5.out _) | (go_at_call 38; exact tail_quiet_ref_room Q6.out (St.swap Q5.out) _) | (go_at_call 30; exact tail_quiet_closed Q6.out Q5.out _))
        go_wp2_with fail
        go_roundw
        case rel => exact ⟨k + 1, _, _, by omega, by go_num, Q6.out, Q5.out.drew _⟩
        case measure => simp [intOf]; omega
      by_cases k3 : kind = 3
      · subst k3
        have hstB : St W (wr.alloc (.cells #[.int .i64 3, .string s] 63)) (fun b => W.heap[b]?) (ρ.L 89 9 ++ ([(wr.heap.size, .cells #[.int .i64 3, .string s] 63)] ++ (σ.L ++ []))) := St.swap (A := [(wr.heap.size, _)]) hstA
        go_wp2_with fail
        refine (b_close both hstB).mono ?_
        rintro e w4 ⟨rfl, hst4⟩
        have hst5 := St.swap (A := Ring.L 89 9 _ ++ [(wr.heap.size, _)]) (B := σ.L) (F := []) (by simpa using hst4)
        go_wp2_with fail
        refine (b_ref_close both hst5).mono ?_
        rintro e w5 ⟨rfl, σ', both', hst6⟩
        have hend : St W w5 (fun b => W.heap[b]?) ((ρ.close (.string ⟨#[]⟩)).L 89 9 ++ (σ'.L ++ [])) := by
          have s6 := St.mid (A := σ'.L ++ (ρ.close (.string ⟨#[]⟩)).L 89 9) (B := [(wr.heap.size, _)]) (F := []) (by simpa using hst6)
          exact St.swap (by simpa using s6)
        have bothX := both'
        clear both' hst4 hst5 hst6 hstA hstB
        generalize ρ.close (.string ⟨#[]⟩) = ρX at *
        obtain ⟨A9, c9, q1, q2⟩ := Both.cells bothX (St.swap hend)
        have b16 := bothX.oks.m16
        have bmy := bothX.oks.many
        have Q5 := Lib.hid hend; have Q6 := Lib.hid bothX
        clear hend bothX
        go_wp2_with fail
        go_quiet (first | (go_at_call 31; exact tail_quiet_len Q6.out Q5.out _) | (go_at_call 32; exact tail_quiet_room Q6.out Q5.out _) | (go_at_call 38; exact tail_quiet_ref_room Q6.out (St.swap Q5.out) _) | (go_at_call 30; exact tail_quiet_closed Q6.out Q5.out _))
        go_wp2_with fail
        go_roundw
        case rel => exact ⟨k + 1, _, _, by omega, by go_num, Q6.out, Q5.out.drew _⟩
        case measure => simp [intOf]; omega
      have hend0 := hst.alloc_ (.cells #[.int .i64 kind, .string s] 63)
      clear hstA hst
      cases hx : σ.xs with
      | nil =>
        have e1 : σ.front = ⟨#[]⟩ := by rw [Ref.front, hx]; rfl
        have e2 : σ.any = false := by rw [Ref.any, hx]; rfl
        have hp := b_peek both hend0
        rw [e1, e2] at hp
        have Hp := Lib.hid hp; clear hp
        have Hx := Lib.hid hx; clear e1 e2 hx
        go_wp2_with fail
        refine Hp.out.mono ?_
        rintro e w5 ⟨rfl, m5, rfl⟩
        have hend := hend0.drew m5
        clear hend0
        generalize ((wr.alloc (.cells #[.int .i64 kind, .string s] 63)).drewN m5) = w5 at *
        obtain ⟨A8, c8, q8, _⟩ := Both.cells both (St.swap hend)
        rw [Hx.out] at q8
        simp only [List.length_nil] at q8
        go_wp2_with fail
        clear q8
        have bothX := both
        obtain ⟨A9, c9, q1, q2⟩ := Both.cells bothX (St.swap hend)
        have b16 := bothX.oks.m16
        have bmy := bothX.oks.many
        have Q5 := Lib.hid hend; have Q6 := Lib.hid bothX
        clear hend bothX
        go_wp2_with fail
        go_quiet (first | (go_at_call 31; exact tail_quiet_len Q6.out Q5.out _) | (go_at_call 32; exact tail_quiet_room Q6.out Q5.out _) | (go_at_call 38; exact tail_quiet_ref_room Q6.out (St.swap Q5.out) _) | (go_at_call 30; exact tail_quiet_closed Q6.out Q5.out _))
        go_wp2_with fail
        go_roundw
        case rel => exact ⟨k + 1, _, _, by omega, by go_num, Q6.out, Q5.out.drew _⟩
        case measure => simp [intOf]; omega
      | cons x l =>
        have e1 : σ.front = x := by rw [Ref.front, hx]; rfl
        have e2 : σ.any = true := by rw [Ref.any, hx]; rfl
        have hp := b_peek both hend0
        rw [e1, e2] at hp
        have Hp := Lib.hid hp; clear hp
        have Hx := Lib.hid hx; clear e1 e2 hx
        have bl := both.oks.many
        have b16' := both.oks.m16
        rw [Hx.out] at bl
        simp only [List.length_cons] at bl
        go_wp2_with fail
        refine Hp.out.mono ?_
        rintro e w5 ⟨rfl, m5, rfl⟩
        have hend := hend0.drew m5
        clear hend0
        generalize ((wr.alloc (.cells #[.int .i64 kind, .string s] 63)).drewN m5) = w5 at *
        obtain ⟨g8, off8, c8, q8, q9⟩ := Both.head both (St.swap hend) Hx.out
        go_wp2_with fail
        clear q8 q9
        have bothX := both
        obtain ⟨A9, c9, q1, q2⟩ := Both.cells bothX (St.swap hend)
        have b16 := bothX.oks.m16
        have bmy := bothX.oks.many
        have Q5 := Lib.hid hend; have Q6 := Lib.hid bothX
        clear hend bothX
        go_wp2_with fail
        go_quiet (first | (go_at_call 31; exact tail_quiet_len Q6.out Q5.out _) | (go_at_call 32; exact tail_quiet_room Q6.out Q5.out _) | (go_at_call 38; exact tail_quiet_ref_room Q6.out (St.swap Q5.out) _) | (go_at_call 30; exact tail_quiet_closed Q6.out Q5.out _))
        go_wp2_with fail
        go_roundw
        case rel => exact ⟨k + 1, _, _, by omega, by go_num, Q6.out, Q5.out.drew _⟩
        case measure => simp [intOf]; omega
    · have : k = len := by omega
      subst this
      go_wp2_with fail
      go_ret
      exact ⟨rfl, hst.below (Le.refl _)⟩
end Go.Proofs.Ytlhplndngfffoaa
