/- The document's code: size, Fixed, Text: walks. The document's code: a scan: Raw, FixedOf, TextOf: walks. The document's manifest: hash, Bytes: walks. The document's manifest: Bytes: walk. -/
import Derived.Test.YtfbffmckmchbbaaDoorCodM
import Derived.Test.YtfbffmckmchbbaaDoorGlyphA
import Derived.Lib.ConvBytes
import Derived.Test.YtfbffmckmchbbaaDoorMbH
import Derived.Test.YtfbffmckmchbbaaDoorResRow
import Derived.Test.YtfbffmckmchbbaaDoorMkR
namespace Go.Proofs.YtfbffmckmchbbaaDoor
section
set_option linter.unusedVariables false
set_option linter.unusedSimpArgs false
open Go.RowKit Go.Lib

section
variable {W w : World} {I : Nat → Option Obj} {F : List (Nat × Obj)}
theorem rsize (k : Nat) (hk : k ≤ 8) (w : World) : Calls Tryd.prog 64 #[.int .i64 k] w fun e w' => e = .returned (.int .i64 k) ∧ w = w' := by
  have h1 : ¬ ((k : Int) < 0) := by omega
  have h2 : ¬ ((8 : Int) < k) := by omega
  go_enter Tryd.func64, Tryd.ntmps64
  go_wp2_with fail
  go_ret
  exact ⟨rfl, rfl⟩

set_option maxRecDepth 100000 in
set_option maxHeartbeats 2000000 in
theorem rfixed (n k : Nat) (hn : n < 18446744073709551616) (hk : k ≤ 8) (h : St W w I F) :
    Calls Tryd.prog 54 #[.int .u64 n, .int .i64 k] w fun e w' => ∃ v, e = .returned v ∧ FreshB W w' I F (leB n k) v := by
  have h1 := h.alloc (.cells #[] 5)
  have kS := fun w => rsize k hk w
  have H1 := Lib.hid h1; have KS := Lib.hid kS
  clear h h1 kS
  go_enter Tryd.func54, Tryd.ntmps54
  go_wp2_with fail
  go_loopw [0, 5, 6] (fun x o i wr => ∃ (j : Nat) (A : Option Addr) (c : Nat) (L0 : List (Nat × Obj)), i = .int .i64 j ∧ j ≤ k ∧ x = .int .u64 (n / 256 ^ j : Nat) ∧ o = .slice A j c ∧ Row 5 1 (.slice A j c) j ((leB n j).map bval) L0 ∧ St W wr I (L0 ++ F)) (fun _ _ i _ => k - (intOf i).toNat)
  case atStart => exact ⟨0, _, _, _, rfl, by omega, by simp, rfl, by simpa [leB] using Row.empty 5 1 w.heap.size, H1.out⟩
  case round =>
    obtain ⟨j, A, c, L0, rfl, hj, rfl, rfl, hrow, hst⟩ := hrel
    clear H1
    by_cases hjk : j < k
    · have hx : n / 256 ^ j < 18446744073709551616 := Nat.lt_of_le_of_lt (Nat.div_le_self _ _) hn
      have hsucc := leB_succ j n
      have hnext : n / 256 ^ (j + 1) = n / 256 ^ j / 256 := by rw [Nat.pow_succ, Nat.div_div_eq_div_mul]
      generalize n / 256 ^ j = x at *
      have hbv := bval_ofNat (x % 256) (Nat.mod_lt _ (by omega))
      have hjki : (j : Int) < (k : Int) := by omega
      have hj8 : (j : Int) < 8 := by omega
      have htm : (x : Int).tmod 256 = (x : Int) % 256 := Int.tmod_eq_emod_of_nonneg (by omega)
      have htd : (x : Int).tdiv 256 = (x : Int) / 256 := Int.tdiv_eq_ediv_of_nonneg (by omega)
      have HROW := Lib.hid hrow; have HST := Lib.hid hst; have HS := Lib.hid hsucc; have HN := Lib.hid hnext; have HBV := Lib.hid hbv
      clear hrow hst hsucc hnext hbv
      go_wp2_with fail
      refine (KS.out _).mono ?_
      rintro e w5 ⟨rfl, rfl⟩
      go_wp2_with (at_builtin; refine Hid.out ?_)
      refine Lib.hid ?_
      refine wpList_append_row (F := F) rfl (.tmp 14) (.tmp 18) 22 rfl 5 (.int .u8 0) 1 1 Tryd.underlying22 (by kernel_rfl) rfl (by omega) rfl HROW.out (St.alloc_ HST.out _) rfl (Src.one _ (.int .u8 ((x : Int) % 256)) 5) (by intro u hu; simp at hu; subst hu; rfl) (j + 1) (by omega) ((leB n (j + 1)).map bval) (by rw [HS.out, List.map_append, List.map_cons, HBV.out]; simp) (by unfold maxLen; omega) (by omega) ?_
      intro A5 c5 w5 L5 hr5 h5
      have H5 := Lib.hid h5; have HR5 := Lib.hid hr5
      clear h5 hr5 HROW HST HS HBV
      go_wp2_with fail
      refine ⟨⟨j + 1, A5, c5, L5, by go_num, by omega, by rw [HN.out]; rfl, rfl, HR5.out, H5.out⟩, ?_⟩
      simp [intOf]; omega
    · obtain rfl : j = k := by omega
      have HROW := Lib.hid hrow; have HST := Lib.hid hst
      clear hrow hst
      go_wp2_with fail
      refine (KS.out _).mono ?_
      rintro e w5 ⟨rfl, rfl⟩
      go_wp2_with fail
      go_ret
      refine ⟨.slice A j c, rfl, A, c, L0, by rw [leB_len], ?_, HST.out⟩
      rw [leB_len]
      exact HROW.out

theorem St.conv (h : St W w I F) (e : TypeId) (s : ByteArray) : St W (Lib.bytesWorld w e s) I F :=
  h.belowTo ⟨rfl, rfl, rfl, by rw [Lib.bytesWorld_size]; omega, fun k hk => Lib.bytesWorld_at_old w e s k hk⟩
theorem Src.conv (w : World) (e : TypeId) (s : ByteArray) : Src (Lib.bytesWorld w e s) 1 (some ⟨w.heap.size, 0, none⟩) s.size ((sB s).map bval) := by
  refine ⟨by simp [sB_len], fun j u hj => ⟨_, rfl, ?_⟩⟩
  have hjl := (List.getElem?_eq_some_iff.1 hj).1
  rw [List.length_map, sB_len] at hjl
  rw [show (⟨w.heap.size, 0, none⟩ : Addr).add j = ⟨w.heap.size, j, none⟩ by unfold Addr.add; split <;> simp_all, Lib.bytesWorld_cell w e s j hjl, ← hj]
  have hjl2 : j < s.data.toList.length := by rw [Array.length_toList]; exact hjl
  unfold sB
  rw [List.getElem?_map, List.getD_eq_getElem?_getD, List.getElem?_eq_getElem hjl2]
  rfl

set_option maxRecDepth 100000 in
set_option maxHeartbeats 2000000 in
theorem rtxt (str : ByteArray) (hs : str.size ≤ 1000000) (h : St W w I F) :
    Calls Tryd.prog 53 #[.string str] w fun e w' => ∃ v, e = .returned v ∧ FreshB W w' I F (txB str) v := by
  have kF := rfixed str.size 2 (by omega) (by omega) h
  obtain ⟨N, hN⟩ : ∃ N, str.size = N := ⟨_, rfl⟩
  rw [hN] at kF hs
  have htx : (leB N 2).map bval ++ (sB str).map bval = (txB str).map bval := by unfold txB; rw [List.map_append, hN]
  have KF := Lib.hid kF; have HTX := Lib.hid htx; have HN := Lib.hid hN
  clear kF h htx
  go_enter Tryd.func53, Tryd.ntmps53
  go_wp2_with fail
  refine KF.out.mono ?_
  rintro e w5 ⟨v, rfl, A5, c5, L5, rfl, hr5, h5⟩
  have cv := Lib.run_convert_string_bytes (P := Tryd.prog) w5 9 22 5 str Tryd.underlying9 Tryd.underlying22 Tryd.underlying5
  have hc := h5.conv 5 str
  have hsrc := Src.conv w5 5 str
  rw [hN] at hsrc cv
  have HC := Lib.hid hc; have HR5 := Lib.hid hr5; have HSRC := Lib.hid hsrc
  have e2 : (leB N 2).length = 2 := leB_len _ _
  rw [e2] at HR5 ⊢
  clear h5 hr5 hc hsrc KF hN
  generalize Lib.bytesWorld w5 5 str = wb at *
  go_wp2_with (at_builtin; refine Hid.out ?_)
  refine Lib.hid ?_
  refine wpList_append_row (F := F) (L := L5) rfl (.tmp 6) (.tmp 8) 22 rfl 5 (.int .u8 0) 1 1 Tryd.underlying22 (by kernel_rfl) rfl (by omega) rfl HR5.out HC.out rfl HSRC.out (by intro u hu; obtain ⟨b, _, rfl⟩ := List.mem_map.1 hu; rfl) (2 + N) rfl ((txB str).map bval) HTX.out (by unfold maxLen; omega) (by omega) ?_
  intro A6 c6 w6 L6 hr6 h6
  have H6 := Lib.hid h6; have HR6 := Lib.hid hr6
  clear h6 hr6 HC HR5 HSRC
  go_wp2_with fail
  go_ret
  have hl := txB_len str
  rw [HN.out] at hl
  exact ⟨.slice A6 (2 + N) c6, rfl, A6, c6, L6, by rw [hl], by rw [hl]; exact HR6.out, H6.out⟩
end
end

section
set_option linter.unusedVariables false
set_option linter.unusedSimpArgs false
open Go.RowKit Go.Lib

section
variable {W w : World} {I : Nat → Option Obj} {F : List (Nat × Obj)} {g : Nat} {s : Rs}
/-- The document's reader. -/
def SSc (W w : World) (I : Nat → Option Obj) (g : Nat) (s : Rs) (F : List (Nat × Obj)) : Prop :=
  ∃ A n c e, Rd W I s A n c e ∧ St W w I ((g, .cells #[.slice A n c, .int .i64 e] 60 (0, 0)) :: F)
theorem SSc.facts {A : Option Addr} {n c : Nat} {e : Int} (h : St W w I ((g, .cells #[.slice A n c, .int .i64 e] 60 (0, 0)) :: F)) :
    w.cell? ⟨g, 0, none⟩ = some (.slice A n c) ∧ w.cell? ⟨g, 1, none⟩ = some (.int .i64 e) ∧ w.frozen? ⟨g, 0, none⟩ = false ∧ w.frozen? ⟨g, 1, none⟩ = false := by
  have hc := h.cell (g := g) (t := 60) (fr := (0, 0)) (List.mem_cons_self ..)
  have hf := h.frozen (g := g) (t := 60) (List.mem_cons_self ..)
  exact ⟨hc 0, hc 1, hf 0, hf 1⟩
def RRawPost (W : World) (I : Nat → Option Obj) (g : Nat) (bs : List UInt8) (s' : Rs) (F : List (Nat × Obj)) (e : Ending) (w' : World) : Prop :=
  ∃ A c L', e = .returned (.slice A bs.length c) ∧ Row 5 1 (.slice A bs.length c) bs.length (bs.map bval) L' ∧ SSc W w' I g s' (L' ++ F)

set_option maxRecDepth 100000 in
set_option maxHeartbeats 1000000 in
theorem rraw0 {A : Option Addr} {k c : Nat} {e : Int} (hst : St W w I ((g, .cells #[.slice A k c, .int .i64 e] 60 (0, 0)) :: F)) (he : e = 51 ∨ e = 52) (n : Nat) :
    Calls Tryd.prog 63 #[.pointer (some ⟨g, 0, none⟩), .int .i64 n] w (RRawPost W I g [] none F) := by
  obtain ⟨q0, q1, f0, f1⟩ := SSc.facts hst
  have hn0 : ¬ ((n : Int) < 0) := by omega
  have he0 : e ≠ 0 := by rintro rfl; rcases he with h | h <;> cases h
  have h4 := St.set (A := []) hst 0 (.slice none 0 0)
  have H4 := Lib.hid h4
  clear hst h4
  go_enter Tryd.func63, Tryd.ntmps63
  go_wp2_with fail
  go_ret
  exact ⟨none, 0, [], rfl, Row.nil _ _, none, 0, 0, e, ⟨he, rfl, rfl, rfl⟩, H4.out⟩

set_option maxRecDepth 100000 in
set_option maxHeartbeats 1000000 in
theorem rraw (h : SSc W w I g s F) (n : Nat) (hn : n ≤ 9223372036854775807) :
    Calls Tryd.prog 63 #[.pointer (some ⟨g, 0, none⟩), .int .i64 n] w (RRawPost W I g (tk n s).1 (tk n s).2 F) := by
  obtain ⟨A, k, c, e, hr, hst⟩ := h
  obtain ⟨q0, q1, f0, f1⟩ := SSc.facts hst
  have hn0 : ¬ ((n : Int) < 0) := by omega
  cases s with
  | none => exact rraw0 hst hr.1 n
  | some r =>
    obtain ⟨rfl, rfl, hl, hc, hin⟩ := hr
    by_cases hnr : n ≤ r.length
    · have htk : tk n (some r) = (r.take n, some (r.drop n)) := if_pos hnr
      have e1 : (r.take n).length = n := by simp; omega
      have hx := hst.alloc (.cells #[] 5)
      have hsrc := Part.In_take c n hin _ _ hx
      simp only [e1] at hsrc
      have hRd : Rd W I (some (r.drop n)) (subA A c n) (r.length - n) (c - n) 0 := ⟨rfl, by simp, by simp; omega, by simp; omega, Part.In_drop (c - n) n hc hin⟩
      have hone : ∀ u ∈ (r.take n).map bval, u.oneCell' = true := by intro u hu; obtain ⟨b, _, rfl⟩ := List.mem_map.1 hu; rfl
      have sl1 := fun w => run_slice_to Tryd.underlying22 Tryd.sizeOf5 A r.length c n (by omega) w
      have sl2 := fun w => run_slice_from Tryd.underlying22 Tryd.sizeOf5 A r.length c n hnr hc w
      rw [htk]
      have HX := Lib.hid hx; have HSRC := Lib.hid hsrc; have HRD := Lib.hid hRd; have HONE := Lib.hid hone; have HE1 := Lib.hid e1
      clear hst hx hsrc hRd hone htk hin e1
      generalize hrl : r.length = rl at *
      have hgt : ¬ ((rl : Int) < (n : Int)) := by omega
      have q0' : (w.alloc (.cells #[] 5)).cell? ⟨g, 0, none⟩ = some (.slice A rl c) := cell_old q0
      go_enter Tryd.func63, Tryd.ntmps63
      go_wp2_with (at_builtin; refine Hid.out ?_)
      refine Lib.hid ?_
      refine wpList_append_row (F := ((g, .cells #[.slice A rl c, .int .i64 0] 60 (0, 0)) :: F)) rfl (.tmp 33) (.tmp 39) 22 rfl 5 (.int .u8 0) 1 1 Tryd.underlying22 (by kernel_rfl) rfl (by omega) rfl (Row.empty 5 1 w.heap.size) (by exact HX.out) rfl HSRC.out HONE.out n (by omega) ((r.take n).map bval) (by simp) (by unfold maxLen; omega) (by omega) ?_
      intro A5 c5 w5 L5 hr5 h5
      have hg := h5.cell (g := g) (cs := #[.slice A rl c, .int .i64 0]) (t := 60) (fr := (0, 0)) (by simp) 0
      have hf := h5.frozen (g := g) (cs := #[.slice A rl c, .int .i64 0]) (t := 60) (by simp) 0
      have g0 : w5.cell? ⟨g, 0, none⟩ = some (.slice A rl c) := hg
      have h6 := St.set (A := L5) h5 0 (.slice (subA A c n) (rl - n) (c - n))
      have H6 := Lib.hid h6; have HR5 := Lib.hid hr5
      clear h5 hr5 h6 hg HX HSRC q0 q0' q1 f0 f1
      go_wp2_with fail
      go_ret
      refine ⟨A5, c5, L5, by rw [HE1.out]; rfl, by rw [HE1.out]; exact HR5.out, _, _, _, _, HRD.out, ?_⟩
      exact St.swap (A := L5) (B := [_]) H6.out
    · have htk : tk n (some r) = ([], none) := if_neg hnr
      rw [htk]
      have h1 := St.set (A := []) hst 1 (.int .i64 51)
      have h2 := St.set (A := []) h1 0 (.slice none 0 0)
      obtain ⟨_, g1, g2, _⟩ := SSc.facts h1
      have H2 := Lib.hid h2
      clear hst htk hin h1 h2
      generalize hrl : r.length = rl at *
      have hgt : ((rl : Int) < (n : Int)) := by omega
      go_enter Tryd.func63, Tryd.ntmps63
      go_wp2_with fail
      go_ret
      exact ⟨none, 0, [], rfl, Row.nil _ _, none, 0, 0, 51, ⟨.inl rfl, rfl, rfl, rfl⟩, H2.out⟩

/-- What a number of bytes is, summed up from its first one. -/
def wV : List UInt8 → Nat → Nat
  | bs, k => leV (bs.take k)
theorem leV_take (bs : List UInt8) (k : Nat) (b : UInt8) (h : bs[k]? = some b) : leV (bs.take (k + 1)) = leV (bs.take k) + b.toNat * 256 ^ k := by
  have hk := (List.getElem?_eq_some_iff.1 h).1
  rw [List.take_add_one, h, leV_append]
  have : (bs.take k).length = k := by simp; omega
  rw [this]
  simp [leV, Nat.mul_comm]
theorem leV_take_lt (bs : List UInt8) (k : Nat) : leV (bs.take k) < 256 ^ k := Nat.lt_of_lt_of_le (leV_lt _) (Nat.pow_le_pow_right (by omega) (by simp; omega))

set_option maxRecDepth 100000 in
set_option maxHeartbeats 2000000 in
theorem rfixedof (h : SSc W w I g s F) (k : Nat) (hk : k ≤ 8) :
    Calls Tryd.prog 36 #[.pointer (some ⟨g, 0, none⟩), .int .i64 k] w fun e w' => e = .returned (.int .u64 (leV (tk k s).1)) ∧ SSc W w' I g (tk k s).2 F := by
  have kS := fun w => rsize k hk w
  have kR := rraw h k (by omega)
  have hlen := tk_len k s
  generalize (tk k s).1 = bs at *
  generalize (tk k s).2 = s' at *
  have KS := Lib.hid kS; have KR := Lib.hid kR
  clear h kS kR
  go_enter Tryd.func36, Tryd.ntmps36
  go_wp2_with fail
  refine (KS.out _).mono ?_
  rintro e w5 ⟨rfl, rfl⟩
  go_wp2_with fail
  refine KR.out.mono ?_
  rintro e w6 ⟨A, c, L0, rfl, hrow, A1, n1, c1, e1, hrd, h1⟩
  have hst0 := St.swap (A := [_]) (B := L0) h1
  have HROW := Lib.hid hrow; have HRD := Lib.hid hrd; have H1 := Lib.hid hst0
  clear hrow hrd h1 hst0 KR KS
  obtain ⟨N, hN⟩ : ∃ N, bs.length = N := ⟨_, rfl⟩
  rw [hN] at hlen
  have HN := Lib.hid hN
  rw [hN]
  clear hN
  go_wp2_with fail
  go_loopw [5, 6, 14] (fun a wt i wr => ∃ j : Nat, j ≤ N ∧ i = .int .i64 j ∧ a = .int .u64 (leV (bs.take j) : Nat) ∧ (j < 8 → wt = .int .u64 (256 ^ j : Nat)) ∧ (∃ z, wt = .int .u64 z) ∧ wr = w6) (fun _ _ i _ => N - (intOf i).toNat)
  case atStart => exact ⟨0, by omega, rfl, rfl, fun _ => rfl, ⟨_, rfl⟩, rfl⟩
  case round =>
    obtain ⟨j, hj, rfl, rfl, hwt, ⟨z, rfl⟩, rfl⟩ := hrel
    by_cases hjn : j < N
    · have hn := HN.out
      obtain ⟨b, hb⟩ : ∃ b, bs[j]? = some b := ⟨_, List.getElem?_eq_getElem (by omega)⟩
      have hbv : (bs.map bval)[j]? = some (.int .u8 (b.toNat : Int)) := by rw [List.getElem?_map, hb]; rfl
      obtain ⟨gs, off, cap, cur, hv, hL, hcu⟩ := HROW.out.cells hbv
      injection hv with hv1 hv2 hv3
      have d0 : wr.cell? ⟨gs, off + j, none⟩ = some (.int .u8 (b.toNat : Int)) := (H1.out.cell (g := gs) (cs := cur) (t := 5) (fr := (0, 0)) (by rw [hL]; simp) (off + j)).trans hcu
      have hwt := hwt (by omega)
      injection hwt with _ hwt
      subst hwt
      have hs := leV_take bs j b hb
      have hl1 := leV_take_lt bs (j + 1)
      have hp : 256 ^ (j + 1) ≤ 18446744073709551616 := by
        have := Nat.pow_le_pow_right (show 0 < 256 by omega) (show j + 1 ≤ 8 by omega)
        have h8 : (256 : Nat) ^ 8 = 18446744073709551616 := by decide
        omega
      have hps : 256 ^ (j + 1) = 256 ^ j * 256 := Nat.pow_succ ..
      have hbt : b.toNat < 256 := b.toNat_lt
      have hbt0 : (0 : Int) ≤ b.toNat := by omega
      obtain ⟨P, hP⟩ : ∃ P, 256 ^ j = P := ⟨_, rfl⟩
      have hmul : (b.toNat : Int) * (P : Int) = ((b.toNat * P : Nat) : Int) := by simp
      rw [hP] at hs hps ⊢
      have hle : b.toNat * P ≤ leV (bs.take (j + 1)) := by omega
      have HS := Lib.hid hs
      have w1 : ((leV (bs.take j) : Nat) : Int) + ((b.toNat * P : Nat) : Int) = ((leV (bs.take (j + 1)) : Nat) : Int) := by omega
      obtain ⟨X, hX⟩ : ∃ X, leV (bs.take j) = X := ⟨_, rfl⟩
      obtain ⟨Y, hY⟩ : ∃ Y, leV (bs.take (j + 1)) = Y := ⟨_, rfl⟩
      rw [hX] at w1 ⊢
      rw [hY] at w1 hl1 hle
      have HY := Lib.hid hY; have HP := Lib.hid hP; have HPS := Lib.hid hps
      have hjI : (j : Int) < (N : Int) := by omega
      have hY64 : Y < 18446744073709551616 := by omega
      clear hcu hbv hb hv3 hv2 hL hs hX hY hP hps
      generalize hQ : b.toNat * P = Q at *
      subst hv1
      clear hn
      go_wp2_with fail
      refine ⟨⟨j + 1, by omega, by go_num, by rw [HY.out], fun h8 => ?_, ⟨_, rfl⟩, trivial⟩, by simp [intOf]; omega⟩
      have h7 := Nat.pow_le_pow_right (show 0 < 256 by omega) (show j + 1 ≤ 7 by omega)
      have h77 : (256 : Nat) ^ 7 = 72057594037927936 := by decide
      rw [HPS.out] at h7
      rw [show (P : Int) * 256 = ((P * 256 : Nat) : Int) by simp, IntWalk.u64_in _ (by omega), HPS.out]
    · obtain rfl : j = N := by omega
      rw [show bs.take j = bs from List.take_of_length_le (by have := HN.out; omega)]
      clear hwt
      go_wp2_with fail
      go_ret
      exact ⟨rfl, A1, n1, c1, e1, HRD.out, St.weaken (A := L0) H1.out⟩

/-- A row of bytes is read as a string, and let go. -/
theorem raw_str {bs : List UInt8} {s' : Rs} {A : Option Addr} {c : Nat} {L' : List (Nat × Obj)} (hr : Row 5 1 (.slice A bs.length c) bs.length (bs.map bval) L') (h : SSc W w I g s' (L' ++ F)) :
    (convert 22 9 (.slice A bs.length c)).run Tryd.prog w = .ok (.string (pA bs)) w ∧ SSc W w I g s' F := by
  obtain ⟨A1, n1, c1, e1, hrd, hst⟩ := h
  have h2 := St.swap (A := [_]) (B := L') hst
  exact ⟨conv_str (P := Tryd.prog) Tryd.underlying22 Tryd.underlying5 Tryd.underlying9 (c := c) (hr.src fun p hp => h2.own p (List.mem_append.2 (.inl hp))), A1, n1, c1, e1, hrd, St.weaken (A := L') h2⟩

set_option maxRecDepth 100000 in
set_option maxHeartbeats 1000000 in
theorem rtextof (h : SSc W w I g s F) (L : Nat) (hL : L ≤ 1000000) :
    Calls Tryd.prog 35 #[.pointer (some ⟨g, 0, none⟩), .int .i64 L] w fun e w' => e = .returned (.string (pA (txR L s).1)) ∧ SSc W w' I g (txR L s).2 F := by
  have k2 := rfixedof h 2 (by omega)
  have hV2 := leV_tk2 s
  unfold txR
  obtain ⟨V, hV⟩ : ∃ V, leV (tk 2 s).1 = V := ⟨_, rfl⟩
  obtain ⟨S, hS⟩ : ∃ S, (tk 2 s).2 = S := ⟨_, rfl⟩
  rw [hV, hS] at k2 ⊢
  rw [hV] at hV2
  obtain ⟨T, hT⟩ : ∃ T, limR L V S = T := ⟨_, rfl⟩
  rw [hT]
  have K2 := Lib.hid k2; have HT := Lib.hid hT
  clear k2 h hV hS hT
  go_enter Tryd.func35, Tryd.ntmps35
  go_wp2_with fail
  refine K2.out.mono ?_
  rintro e1 w1 ⟨rfl, h1⟩
  clear K2
  obtain ⟨A, n, c, e, hr, hst⟩ := id h1
  obtain ⟨q0, q1, f0, f1⟩ := SSc.facts hst
  cases S with
  | none =>
    clear hst
    obtain ⟨he, rfl, rfl, rfl⟩ := hr
    have he0 : e ≠ 0 := by rintro rfl; rcases he with h | h <;> cases h
    have hlim : limR L V none = none := by unfold limR; split <;> rfl
    obtain rfl : T = none := by rw [← HT.out]; exact hlim
    have kT := rraw h1 V (by omega)
    have KT := Lib.hid kT
    clear kT h1 hlim
    go_wp2_with fail
    refine KT.out.mono ?_
    rintro e3 w3 ⟨A3, c3, L3, rfl, hr3, h3⟩
    clear KT
    obtain ⟨hcv, h4⟩ := raw_str hr3 h3
    have H4 := Lib.hid h4
    clear hr3 h3 h4
    go_wp2_with fail
    go_ret
    exact ⟨rfl, H4.out⟩
  | some r =>
    obtain ⟨rfl, rfl, hl, hc, hin⟩ := hr
    by_cases hVL : V ≤ L
    · clear hst
      have hlim : limR L V (some r) = some r := if_pos hVL
      obtain rfl : T = some r := by rw [← HT.out]; exact hlim
      have kT := rraw h1 V (by omega)
      have hgt : ¬ ((L : Int) < (V : Int)) := by omega
      have KT := Lib.hid kT
      clear kT h1 hlim hin
      go_wp2_with fail
      refine KT.out.mono ?_
      rintro e3 w3 ⟨A3, c3, L3, rfl, hr3, h3⟩
      clear KT
      obtain ⟨hcv, h4⟩ := raw_str hr3 h3
      have H4 := Lib.hid h4
      clear hr3 h3 h4
      go_wp2_with fail
      go_ret
      exact ⟨rfl, H4.out⟩
    · have hlim : limR L V (some r) = none := if_neg hVL
      obtain rfl : T = none := by rw [← HT.out]; exact hlim
      have h5 := St.set (A := []) hst 1 (.int .i64 52)
      have kT := rraw0 h5 (.inr rfl) V
      have hnil : (tk V none).1 = [] := rfl
      have hgt : ((L : Int) < (V : Int)) := by omega
      have KT := Lib.hid kT
      clear kT h1 hlim hin hst h5
      go_wp2_with fail
      refine KT.out.mono ?_
      rintro e3 w3 ⟨A3, c3, L3, rfl, hr3, h3⟩
      clear KT
      obtain ⟨hcv, h4⟩ := raw_str hr3 h3
      simp only [List.length_nil] at hcv ⊢
      have H4 := Lib.hid h4
      clear hr3 h3 h4 hnil
      go_wp2_with fail
      go_ret
      exact ⟨rfl, H4.out⟩
end
end

section
set_option linter.unusedVariables false
set_option linter.unusedSimpArgs false
open Go.RowKit Go.Lib

theorem pad_list (bs : List UInt8) (hl : bs.length ≤ 32) (j : Nat) (b : UInt8) (h : bs[j]? = some b) : (pad32 (bs.take j)).set j b = pad32 (bs.take (j + 1)) := by
  have hj := (List.getElem?_eq_some_iff.1 h).1
  have h1 : (bs.take j).length = j := by simp; omega
  have h2 : (bs.take (j + 1)).length = j + 1 := by simp; omega
  unfold pad32
  rw [List.set_append_right _ _ (by omega), h1, h2, List.take_add_one, h, Nat.sub_self, show 32 - j = (32 - (j + 1)) + 1 by omega, List.replicate_succ]
  simp
theorem pad_set (bs : List UInt8) (hl : bs.length ≤ 32) (j : Nat) (b : UInt8) (h : bs[j]? = some b) : (bcells (pad32 (bs.take j))).setIfInBounds j (.int .u8 (b.toNat : Int)) = bcells (pad32 (bs.take (j + 1))) := by
  rw [← pad_list bs hl j b h]
  unfold bcells
  apply Array.toList_inj.1
  rw [Array.toList_setIfInBounds]
  simp only [List.map_set]
  rfl
theorem pad_nil : bcells (pad32 []) = #[.int .u8 0, .int .u8 0, .int .u8 0, .int .u8 0, .int .u8 0, .int .u8 0, .int .u8 0, .int .u8 0, .int .u8 0, .int .u8 0, .int .u8 0, .int .u8 0, .int .u8 0, .int .u8 0, .int .u8 0, .int .u8 0, .int .u8 0, .int .u8 0, .int .u8 0, .int .u8 0, .int .u8 0, .int .u8 0, .int .u8 0, .int .u8 0, .int .u8 0, .int .u8 0, .int .u8 0, .int .u8 0, .int .u8 0, .int .u8 0, .int .u8 0, .int .u8 0] := by kernel_rfl

section
variable {W w : World} {I : Nat → Option Obj} {F : List (Nat × Obj)} {g : Nat} {s : Rs}
set_option maxRecDepth 100000 in
set_option maxHeartbeats 2000000 in
theorem rhash (h : SSc W w I g s F) :
    Calls Tryd.prog 37 #[.pointer (some ⟨g, 0, none⟩)] w fun e w' => e = .returned (.agg (bcells (pad32 (tk 32 s).1))) ∧ SSc W w' I g (tk 32 s).2 F := by
  have hlen := tk_len 32 s
  have kR := fun (v : World) (F' : List (Nat × Obj)) (hv : SSc W v I g s F') => rraw hv 32 (by omega)
  obtain ⟨A, n, c, x, hr, hst⟩ := h
  obtain ⟨b2, hb2⟩ : ∃ b, w.heap.size = b := ⟨_, rfl⟩
  have h1 := (hst.alloc (.cells #[.int .u8 0, .int .u8 0, .int .u8 0, .int .u8 0, .int .u8 0, .int .u8 0, .int .u8 0, .int .u8 0, .int .u8 0, .int .u8 0, .int .u8 0, .int .u8 0, .int .u8 0, .int .u8 0, .int .u8 0, .int .u8 0, .int .u8 0, .int .u8 0, .int .u8 0, .int .u8 0, .int .u8 0, .int .u8 0, .int .u8 0, .int .u8 0, .int .u8 0, .int .u8 0, .int .u8 0, .int .u8 0, .int .u8 0, .int .u8 0, .int .u8 0, .int .u8 0] 26)).alloc (.cells #[.int .u8 0, .int .u8 0, .int .u8 0, .int .u8 0, .int .u8 0, .int .u8 0, .int .u8 0, .int .u8 0, .int .u8 0, .int .u8 0, .int .u8 0, .int .u8 0, .int .u8 0, .int .u8 0, .int .u8 0, .int .u8 0, .int .u8 0, .int .u8 0, .int .u8 0, .int .u8 0, .int .u8 0, .int .u8 0, .int .u8 0, .int .u8 0, .int .u8 0, .int .u8 0, .int .u8 0, .int .u8 0, .int .u8 0, .int .u8 0, .int .u8 0, .int .u8 0] 26)
  rw [World.size_alloc, hb2] at h1
  generalize (tk 32 s).1 = bs at *
  generalize (tk 32 s).2 = s' at *
  obtain ⟨Z, hZ⟩ : ∃ Z, Z = bcells (pad32 []) := ⟨_, rfl⟩
  have hZs : Z.size = 32 := by rw [hZ]; rfl
  have hZo : Z.all (·.oneCell') = true := by rw [hZ]; exact bcells_one _
  have hZi : (Tryd.prog.info? 26).map (·.size) = some Z.size := by rw [hZs]; kernel_rfl
  have hZf : 0 + Z.size ≤ (#[.int .u8 0, .int .u8 0, .int .u8 0, .int .u8 0, .int .u8 0, .int .u8 0, .int .u8 0, .int .u8 0, .int .u8 0, .int .u8 0, .int .u8 0, .int .u8 0, .int .u8 0, .int .u8 0, .int .u8 0, .int .u8 0, .int .u8 0, .int .u8 0, .int .u8 0, .int .u8 0, .int .u8 0, .int .u8 0, .int .u8 0, .int .u8 0, .int .u8 0, .int .u8 0, .int .u8 0, .int .u8 0, .int .u8 0, .int .u8 0, .int .u8 0, .int .u8 0] : Array Value).size := by rw [hZs]; decide
  have hZb : ∀ w, (Instr.build 26 #[]).run Tryd.prog w = .ok (.agg Z) w := fun w => by rw [hZ]; exact run_build w _ _ _ (by kernel_rfl)
  have H1 := Lib.hid h1; have KR := Lib.hid kR; have HR := Lib.hid hr; have HZS := Lib.hid hZs; have HZO := Lib.hid hZo; have HZI := Lib.hid hZi; have HZF := Lib.hid hZf; have HZB := Lib.hid hZb; have HZ := Lib.hid hZ; have HB2 := Lib.hid hb2
  clear h1 kR hr hst hZ hZs hZo hZi hZf hZb
  go_enter Tryd.func37, Tryd.ntmps37
  go_wp2_with (first
    | (with_reducible refine wpList_build_st rfl 26 _ rfl _ ?_ (HZB.out _) ?_; · go_simp)
    | (with_reducible refine wpList_store_st rfl 26 (.tmp 3) (.tmp 6) rfl (g := b2 + 1) (off := 0) Z rfl rfl H1.out HZF.out HZI.out HZO.out ?_; intro w6 h6; refine Hid.out ?_))
  refine Lib.hid ?_
  rw [setMany_whole _ _ (by rw [Array.length_toList, HZS.out]; rfl), Array.toArray_toList] at h6
  have h7 := St.swap (A := [_, _]) (B := [_]) h6
  have kR := KR.out w6 _ ⟨_, _, _, _, HR.out, h7⟩
  have KR6 := Lib.hid kR
  clear H1 KR HR HZB HZF h6 h7 kR hb2
  go_wp2_with fail
  refine KR6.out.mono ?_
  rintro e w7 ⟨A7, c7, L7, rfl, hr7, A8, n8, c8, x8, hrd, h8⟩
  clear KR6
  have h9 := St.swap (A := (g, _) :: L7) (B := [(b2 + 1, _)]) h8
  have h9 : St W w7 I ((b2 + 1, .cells (bcells (pad32 (bs.take 0))) 26 (0, 0)) :: ((g, .cells #[.slice A8 n8 c8, .int .i64 x8] 60 (0, 0)) :: L7 ++ ((b2, .cells #[.int .u8 0, .int .u8 0, .int .u8 0, .int .u8 0, .int .u8 0, .int .u8 0, .int .u8 0, .int .u8 0, .int .u8 0, .int .u8 0, .int .u8 0, .int .u8 0, .int .u8 0, .int .u8 0, .int .u8 0, .int .u8 0, .int .u8 0, .int .u8 0, .int .u8 0, .int .u8 0, .int .u8 0, .int .u8 0, .int .u8 0, .int .u8 0, .int .u8 0, .int .u8 0, .int .u8 0, .int .u8 0, .int .u8 0, .int .u8 0, .int .u8 0, .int .u8 0] 26 (0, 0)) :: F))) := by
    rw [List.take_zero, ← HZ.out]
    exact h9
  obtain ⟨X, hX⟩ : ∃ X, X = ((g, Obj.cells #[.slice A8 n8 c8, .int .i64 x8] 60 (0, 0)) :: L7 ++ ((b2, .cells #[.int .u8 0, .int .u8 0, .int .u8 0, .int .u8 0, .int .u8 0, .int .u8 0, .int .u8 0, .int .u8 0, .int .u8 0, .int .u8 0, .int .u8 0, .int .u8 0, .int .u8 0, .int .u8 0, .int .u8 0, .int .u8 0, .int .u8 0, .int .u8 0, .int .u8 0, .int .u8 0, .int .u8 0, .int .u8 0, .int .u8 0, .int .u8 0, .int .u8 0, .int .u8 0, .int .u8 0, .int .u8 0, .int .u8 0, .int .u8 0, .int .u8 0, .int .u8 0] 26 (0, 0)) :: F)) := ⟨_, rfl⟩
  rw [← hX] at h9
  obtain ⟨N, hN⟩ : ∃ N, bs.length = N := ⟨_, rfl⟩
  have hlN : N ≤ 32 := by omega
  rw [hN]
  have H9 := Lib.hid h9; have HX := Lib.hid hX; have HROW := Lib.hid hr7; have HRD := Lib.hid hrd; have HN := Lib.hid hN; have HLEN := Lib.hid hlen
  clear h8 h9 hX hr7 hrd hN hlen
  go_wp2_with fail
  go_loopw [10] (fun i wr => ∃ j : Nat, j ≤ N ∧ i = .int .i64 j ∧ St W wr I ((b2 + 1, .cells (bcells (pad32 (bs.take j))) 26 (0, 0)) :: X)) (fun i _ => N - (intOf i).toNat)
  case atStart => exact ⟨0, by omega, rfl, H9.out⟩
  case round =>
    obtain ⟨j, hj, rfl, hst⟩ := hrel
    clear H9
    by_cases hjn : j < N
    · have hn := HN.out
      obtain ⟨b, hb⟩ : ∃ b, bs[j]? = some b := ⟨_, List.getElem?_eq_getElem (by omega)⟩
      have hbv : (bs.map bval)[j]? = some (.int .u8 (b.toNat : Int)) := by rw [List.getElem?_map, hb]; rfl
      obtain ⟨gs, off, cap, cur, hv, hL, hcu⟩ := HROW.out.cells hbv
      injection hv with hv1 hv2 hv3
      have hm : (gs, Obj.cells cur 5 (0, 0)) ∈ X := by rw [HX.out, hL]; simp
      have d0 : wr.cell? ⟨gs, off + j, none⟩ = some (.int .u8 (b.toNat : Int)) := (hst.cell (g := gs) (cs := cur) (t := 5) (fr := (0, 0)) (List.mem_cons_of_mem _ hm) (off + j)).trans hcu
      have hps : (bcells (pad32 (bs.take j))).size = 32 := by rw [bcells_size]; exact pad32_len (by simp; omega)
      have d1 : wr.cell? ⟨b2 + 1, j, none⟩ = (bcells (pad32 (bs.take j)))[j]? := hst.cell (g := b2 + 1) (cs := bcells (pad32 (bs.take j))) (t := 26) (fr := (0, 0)) (by simp) j
      have d2 : wr.frozen? ⟨b2 + 1, j, none⟩ = false := hst.frozen (g := b2 + 1) (cs := bcells (pad32 (bs.take j))) (t := 26) (by simp) j
      obtain ⟨u, hu⟩ : ∃ u, (bcells (pad32 (bs.take j)))[j]? = some u := ⟨_, Array.getElem?_eq_getElem (by omega)⟩
      rw [hu] at d1
      have h10 := St.set (A := []) hst j (.int .u8 (b.toNat : Int))
      rw [pad_set bs HLEN.out j b hb] at h10
      have hjI : (j : Int) < (N : Int) := by omega
      have hj32 : (j : Int) < 32 := by omega
      have H10 := Lib.hid h10
      clear hst h10 hu hps hm hcu hL hbv hb hv2 hv3 hn
      subst hv1
      go_wp2_with fail
      refine ⟨⟨j + 1, by omega, by go_num, H10.out⟩, by simp [intOf]; omega⟩
    · obtain rfl : j = N := by omega
      rw [show bs.take j = bs from List.take_of_length_le (by have := HN.out; omega)] at hst
      rw [HX.out] at hst
      have h11 := St.swap (A := (b2 + 1, _) :: (g, _) :: L7) (B := [(b2, _)]) hst
      have hRs : (bcells (pad32 bs)).size = 32 := by rw [bcells_size]; exact pad32_len (by have := HN.out; omega)
      have hRo := bcells_one (pad32 bs)
      obtain ⟨R, hR⟩ : ∃ R, bcells (pad32 bs) = R := ⟨_, rfl⟩
      rw [hR] at hst h11 hRs hRo
      have HRR := Lib.hid hR
      clear hR
      have hRi : (Tryd.prog.info? 26).map (·.size) = some R.size := by rw [hRs]; kernel_rfl
      have hRf : 0 + R.size ≤ (#[.int .u8 0, .int .u8 0, .int .u8 0, .int .u8 0, .int .u8 0, .int .u8 0, .int .u8 0, .int .u8 0, .int .u8 0, .int .u8 0, .int .u8 0, .int .u8 0, .int .u8 0, .int .u8 0, .int .u8 0, .int .u8 0, .int .u8 0, .int .u8 0, .int .u8 0, .int .u8 0, .int .u8 0, .int .u8 0, .int .u8 0, .int .u8 0, .int .u8 0, .int .u8 0, .int .u8 0, .int .u8 0, .int .u8 0, .int .u8 0, .int .u8 0, .int .u8 0] : Array Value).size := by rw [hRs]; decide
      have hRe : setMany #[.int .u8 0, .int .u8 0, .int .u8 0, .int .u8 0, .int .u8 0, .int .u8 0, .int .u8 0, .int .u8 0, .int .u8 0, .int .u8 0, .int .u8 0, .int .u8 0, .int .u8 0, .int .u8 0, .int .u8 0, .int .u8 0, .int .u8 0, .int .u8 0, .int .u8 0, .int .u8 0, .int .u8 0, .int .u8 0, .int .u8 0, .int .u8 0, .int .u8 0, .int .u8 0, .int .u8 0, .int .u8 0, .int .u8 0, .int .u8 0, .int .u8 0, .int .u8 0] 0 R.toList = R := by rw [setMany_whole _ _ (by simp [hRs]), Array.toArray_toList]
      have H10 := Lib.hid hst; have H11 := Lib.hid h11; have HRI := Lib.hid hRi; have HRF := Lib.hid hRf; have HRE := Lib.hid hRe; have HRO := Lib.hid hRo
      clear hst h11 hRs hRi hRf hRe hRo
      go_wp2_with (first
        | (with_reducible refine wpList_load_st rfl 26 (.tmp 3) rfl (g := b2 + 1) (off := 0) rfl H10.out (List.mem_cons_self ..) R (fun j hj => by rw [Nat.zero_add]) _ Tryd.underlying26 rfl HRI.out ?_)
        | (with_reducible refine wpList_store_st rfl 26 (.tmp 2) (.tmp 19) rfl (g := b2) (off := 0) R rfl rfl H11.out HRF.out HRI.out HRO.out ?_; intro w9 h12; refine Hid.out ?_))
      refine Lib.hid ?_
      rw [HRE.out] at h12
      have H12 := Lib.hid h12
      clear h12 H10 H11
      go_wp2_with fail
      refine bodyPost_ret (results_row rfl _ _ b2 26 R (0, 0) _ rfl (H12.out.own (b2, _) (List.mem_cons_self ..)) Tryd.underlying26 rfl HRI.out) rfl ?_
      refine ⟨by rw [HRR.out], A8, n8, c8, x8, HRD.out, ?_⟩
      exact St.mid (A := [_]) (B := L7) (St.weaken (A := [_, _]) H12.out)
end
end

section
set_option linter.unusedVariables false
set_option linter.unusedSimpArgs false
open Go.RowKit Go.Lib

theorem Src.bytes_of_row {A : Option Addr} {c : Nat} {xs : List UInt8} {L X : List (Nat × Obj)} {W w : World} {I : Nat → Option Obj} (hr : Row 5 1 (.slice A xs.length c) xs.length (xs.map bval) L) (h : St W w I (L ++ X)) : Src w 1 A xs.length (xs.map bval) := hr.src fun p hp => h.own p (List.mem_append.2 (.inl hp))
theorem one_bval (xs : List UInt8) : ∀ u ∈ xs.map bval, u.oneCell' = true := by intro u hu; obtain ⟨b, _, rfl⟩ := List.mem_map.1 hu; rfl

section
variable {W w : World} {I : Nat → Option Obj} {F : List (Nat × Obj)}
set_option maxRecDepth 100000 in
set_option maxHeartbeats 4000000 in
theorem rbytes (t : TB W I) (m : Man) (ok : m.Ok) (hs : List (List UInt8)) (hn : m.n = hs.length) (hh : HsIn m.A hs W I) (hps : m.prod.size ≤ 500000) (h : St W w I F) :
    Calls Tryd.prog 27 #[m.val] w fun e w' => ∃ v, e = .returned v ∧ FreshB W w' I F (if rightM m = true then mBy m hs else []) v := by
  obtain ⟨b1, hb1⟩ : ∃ b, w.heap.size = b := ⟨_, rfl⟩
  have h1 := (h.alloc (.cells m.cells 29)).alloc (.cells #[] 5)
  rw [World.size_alloc, hb1] at h1
  have cR := rright13 t m ok (by omega) h1
  have hsz := Man.cells_size ok
  have hmi : (Tryd.prog.info? 29).map (·.size) = some m.cells.size := by rw [hsz]; kernel_rfl
  obtain ⟨R, hR⟩ : ∃ R, rightM m = R := ⟨_, rfl⟩
  rw [hR] at cR ⊢
  have facts : ∀ (v : World) (L : List (Nat × Obj)), St W v I L → (b1, Obj.cells m.cells 29 (0, 0)) ∈ L → v.cell? ⟨b1, 0, none⟩ = some (.string m.prod) ∧ v.cell? ⟨b1, 1, none⟩ = some (.int .u64 m.ver) ∧ v.cell? ⟨b1, 2, none⟩ = some (.int .i64 m.size) ∧ v.cell? ⟨b1, 3, none⟩ = some (.int .i64 m.chunk) ∧ v.cell? ⟨b1, 36, none⟩ = some (.slice m.A m.n m.c) := fun v L hv hm => man_cells ok hv hm
  unfold Man.val at cR ⊢
  obtain ⟨mk, hmk⟩ : ∃ mk, m.cells = mk := ⟨_, rfl⟩
  rw [hmk] at h1 cR hsz hmi facts ⊢
  have H1 := Lib.hid h1; have CR := Lib.hid cR; have HMI := Lib.hid hmi; have HMK := Lib.hid hmk; have HR := Lib.hid hR; have HH := Lib.hid hh; have HSZ := Lib.hid hsz; have FACTS := Lib.hid facts; have OK := Lib.hid ok
  clear h h1 cR hmi hmk hR hh hsz facts t ok
  go_enter Tryd.func27, Tryd.ntmps27
  go_wp2_with (with_reducible refine wpList_load_st rfl 29 (.tmp 1) rfl (g := b1) (off := 0) rfl H1.out (List.mem_cons_of_mem _ (List.mem_cons_self ..)) mk (fun j hj => by rw [Nat.zero_add]) _ Tryd.underlying29 rfl HMI.out ?_)
  refine CR.out.mono ?_
  rintro e w1 ⟨rfl, h2⟩
  have H2 := Lib.hid h2
  clear H1 CR h2
  (try rw [hb1])
  cases R with
  | false =>
    go_wp2_with fail
    go_ret
    exact ⟨_, rfl, some ⟨b1 + 1, 0, none⟩, 0, [(b1 + 1, .cells #[] 5 (0, 0))], rfl, Row.empty _ _ _, St.mid (A := [_]) (B := [_]) H2.out⟩
  | true =>
    obtain ⟨r1, r2, r3, r4, r5, r6, r7, r8, r9, r10⟩ := (rightM_iff m).1 HR.out
    obtain ⟨ver, hver⟩ : ∃ n : Nat, m.ver = (n : Int) := ⟨m.ver.toNat, by omega⟩
    obtain ⟨size, hsize⟩ : ∃ n : Nat, m.size = (n : Int) := ⟨m.size.toNat, by omega⟩
    obtain ⟨chunk, hchunk⟩ : ∃ n : Nat, m.chunk = (n : Int) := ⟨m.chunk.toNat, by omega⟩
    rw [hver] at r2 r3; rw [hsize] at r4 r5; rw [hchunk] at r6 r7
    have uw : ∀ k : Nat, k ≤ 100000 → IntKind.u64.wrap (k : Int) = (k : Int) := fun k hk => IntWalk.u64_in _ (by omega)
    have facts := FACTS.out
    rw [hver, hsize, hchunk, hn] at facts
    have FA := Lib.hid facts
    have hB0 : (b1 + 1, Obj.cells #[] 5 (0, 0)) :: (b1, .cells mk 29 (0, 0)) :: F = [(b1 + 1, Obj.cells #[] 5 (0, 0))] ++ ((b1, .cells mk 29 (0, 0)) :: F) := rfl
    have hr0 : Row 5 1 (.slice (some ⟨b1 + 1, 0, none⟩) ([] : List UInt8).length 0) ([] : List UInt8).length (([] : List UInt8).map bval) [(b1 + 1, .cells #[] 5 (0, 0))] := Row.empty _ _ _
    have hlT := txB_len m.prod
    obtain ⟨PS, hPS⟩ : ∃ PS, m.prod.size = PS := ⟨_, rfl⟩
    have e1 : mBy1 m = txB m.prod ++ leB ver 8 := by unfold mBy1; rw [hver, Int.toNat_natCast]
    have e3 : mBy3 m = mBy1 m ++ leB size 4 ++ leB chunk 2 := by unfold mBy3; rw [hsize, hchunk, Int.toNat_natCast, Int.toNat_natCast]
    have l1 := mBy1_len m
    have l3 := mBy3_len m
    have ok := OK.out
    have h32 := HH.out.len
    have hLK := fun k hk => mByK_len ok h32 k hk
    have hSU := mByK_succ m hs
    have hKE : mByK m hs hs.length = mBy m hs := by unfold mByK; rw [List.take_length]; exact mBy_eq m hs
    have hKz : mByK m hs 0 = mBy3 m ++ m.dig := by unfold mByK; simp
    rw [hPS] at hlT l1 l3 hps hLK
    have KT := Lib.hid (fun (v : World) (L : List (Nat × Obj)) (hv : St W v I L) => rtxt (w := v) m.prod (by omega) hv)
    have K8 := Lib.hid (fun (v : World) (L : List (Nat × Obj)) (hv : St W v I L) => rfixed (w := v) ver 8 (by omega) (by omega) hv)
    have K4 := Lib.hid (fun (v : World) (L : List (Nat × Obj)) (hv : St W v I L) => rfixed (w := v) size 4 (by omega) (by omega) hv)
    have K2 := Lib.hid (fun (v : World) (L : List (Nat × Obj)) (hv : St W v I L) => rfixed (w := v) chunk 2 (by omega) (by omega) hv)
    have hmy : mBy1 m ++ leB size 4 = mBy1 m ++ leB size 4 := rfl
    have HLT := Lib.hid hlT; have HL1 := Lib.hid l1; have HL3 := Lib.hid l3; have HE1 := Lib.hid e1; have HE3 := Lib.hid e3; have HLK := Lib.hid hLK; have HSU := Lib.hid hSU; have HKE := Lib.hid hKE; have HKZ := Lib.hid hKz; have UW := Lib.hid uw
    have HROW0 := Lib.hid hr0; have HST0 := Lib.hid H2.out
    obtain ⟨s0, _⟩ := facts _ _ H2.out (by simp)
    have hdl := ok.dig
    have hpsB : PS ≤ 500000 := hps
    clear hlT l1 l3 e1 e3 hLK hSU hKE hKz uw hr0 hB0 hmy facts ok h32 H2 hver hsize hchunk hPS hps
    generalize hgA : m.A = A36 at *
    obtain ⟨A0, hA0⟩ : ∃ A : Option Addr, A = some ⟨b1 + 1, 0, none⟩ := ⟨_, rfl⟩
    obtain ⟨L0, hL0⟩ : ∃ L : List (Nat × Obj), L = [(b1 + 1, .cells #[] 5 (0, 0))] := ⟨_, rfl⟩
    have HROW0 : Hid (Row 5 1 (.slice A0 ([] : List UInt8).length 0) ([] : List UInt8).length (([] : List UInt8).map bval) L0) := Lib.hid (by rw [hA0, hL0]; exact HROW0.out)
    have HST0 : Hid (St W w1 I (L0 ++ ((b1, .cells mk 29 (0, 0)) :: F))) := Lib.hid (by rw [hL0]; exact HST0.out)
    rw [← hA0]
    clear hA0 hL0
    go_wp2_with fail
    (try simp only [UW.out _ (show _ ≤ 100000 by omega)])
    refine (KT.out _ _ HST0.out).mono ?_
    rintro e wx ⟨v5, rfl, A5, c5, L5, rfl, hr5, h5⟩
    have hsrc := Src.bytes_of_row hr5 h5
    have h6 := St.swap (A := L5) (B := L0) h5
    have H6 := Lib.hid h6; have HSRC := Lib.hid hsrc; have HONE := Lib.hid (one_bval (txB m.prod))
    clear h5 hr5 h6 hsrc HST0
    have hcl : (txB m.prod).length = 2 + PS := by first | exact HLT.out | exact leB_len _ _
    rw [hcl] at HSRC ⊢
    go_wp2_with (at_builtin; refine Hid.out ?_)
    refine Lib.hid ?_
    refine wpList_append_row (F := L5 ++ ((b1, .cells mk 29 (0, 0)) :: F)) (L := L0) rfl (.tmp 11) (.tmp 14) 22 rfl 5 (.int .u8 0) 1 1 Tryd.underlying22 (by kernel_rfl) rfl (by omega) rfl HROW0.out H6.out rfl HSRC.out HONE.out (2 + PS) (by first | omega | simp) ((txB m.prod).map bval) (by simp) (by unfold maxLen; omega) (by omega) ?_
    intro A1 c1 w2 L1 hr h7
    have h8 := St.mid (A := L1) (B := L5) h7
    obtain ⟨s0', s1', s2', s3', s4'⟩ := FA.out _ _ h8 (by simp)
    have HROW1 := Lib.hid hr; have HST1 := Lib.hid h8
    clear hr h7 h8 H6 HSRC HONE HROW0 hcl s0' s2' s3' s4'
    clear s0
    go_wp2_with fail
    (try simp only [UW.out _ (show _ ≤ 100000 by omega)])
    refine (K8.out _ _ HST1.out).mono ?_
    rintro e wx ⟨v5, rfl, A5, c5, L5, rfl, hr5, h5⟩
    have hsrc := Src.bytes_of_row hr5 h5
    have h6 := St.swap (A := L5) (B := L1) h5
    have H6 := Lib.hid h6; have HSRC := Lib.hid hsrc; have HONE := Lib.hid (one_bval (leB ver 8))
    clear h5 hr5 h6 hsrc HST1
    have hcl : (leB ver 8).length = 8 := by first | exact HLT.out | exact leB_len _ _
    rw [hcl] at HSRC ⊢
    go_wp2_with (at_builtin; refine Hid.out ?_)
    refine Lib.hid ?_
    refine wpList_append_row (F := L5 ++ ((b1, .cells mk 29 (0, 0)) :: F)) (L := L1) rfl (.tmp 16) (.tmp 19) 22 rfl 5 (.int .u8 0) 1 1 Tryd.underlying22 (by kernel_rfl) rfl (by omega) rfl HROW1.out H6.out rfl HSRC.out HONE.out (10 + PS) (by first | omega | simp) ((mBy1 m).map bval) (by rw [HE1.out, List.map_append]) (by unfold maxLen; omega) (by omega) ?_
    intro A2 c2 w3 L2 hr h7
    have h8 := St.mid (A := L2) (B := L5) h7
    obtain ⟨s0', s1', s2', s3', s4'⟩ := FA.out _ _ h8 (by simp)
    have HROW2 := Lib.hid hr; have HST2 := Lib.hid h8
    clear hr h7 h8 H6 HSRC HONE HROW1 hcl s0' s1' s3' s4'
    clear s1'
    go_wp2_with fail
    (try simp only [UW.out _ (show _ ≤ 100000 by omega)])
    refine (K4.out _ _ HST2.out).mono ?_
    rintro e wx ⟨v5, rfl, A5, c5, L5, rfl, hr5, h5⟩
    have hsrc := Src.bytes_of_row hr5 h5
    have h6 := St.swap (A := L5) (B := L2) h5
    have H6 := Lib.hid h6; have HSRC := Lib.hid hsrc; have HONE := Lib.hid (one_bval (leB size 4))
    clear h5 hr5 h6 hsrc HST2
    have hcl : (leB size 4).length = 4 := by first | exact HLT.out | exact leB_len _ _
    rw [hcl] at HSRC ⊢
    go_wp2_with (at_builtin; refine Hid.out ?_)
    refine Lib.hid ?_
    refine wpList_append_row (F := L5 ++ ((b1, .cells mk 29 (0, 0)) :: F)) (L := L2) rfl (.tmp 21) (.tmp 25) 22 rfl 5 (.int .u8 0) 1 1 Tryd.underlying22 (by kernel_rfl) rfl (by omega) rfl HROW2.out H6.out rfl HSRC.out HONE.out (14 + PS) (by first | omega | simp) ((mBy1 m ++ leB size 4).map bval) (by rw [List.map_append]) (by unfold maxLen; omega) (by omega) ?_
    intro A3 c3 w4 L3 hr h7
    have h8 := St.mid (A := L3) (B := L5) h7
    obtain ⟨s0', s1', s2', s3', s4'⟩ := FA.out _ _ h8 (by simp)
    have HROW3 := Lib.hid hr; have HST3 := Lib.hid h8
    clear hr h7 h8 H6 HSRC HONE HROW2 hcl s0' s1' s2' s4'
    clear s2'
    go_wp2_with fail
    (try simp only [UW.out _ (show _ ≤ 100000 by omega)])
    refine (K2.out _ _ HST3.out).mono ?_
    rintro e wx ⟨v5, rfl, A5, c5, L5, rfl, hr5, h5⟩
    have hsrc := Src.bytes_of_row hr5 h5
    have h6 := St.swap (A := L5) (B := L3) h5
    have H6 := Lib.hid h6; have HSRC := Lib.hid hsrc; have HONE := Lib.hid (one_bval (leB chunk 2))
    clear h5 hr5 h6 hsrc HST3
    have hcl : (leB chunk 2).length = 2 := by first | exact HLT.out | exact leB_len _ _
    rw [hcl] at HSRC ⊢
    go_wp2_with (at_builtin; refine Hid.out ?_)
    refine Lib.hid ?_
    refine wpList_append_row (F := L5 ++ ((b1, .cells mk 29 (0, 0)) :: F)) (L := L3) rfl (.tmp 27) (.tmp 31) 22 rfl 5 (.int .u8 0) 1 1 Tryd.underlying22 (by kernel_rfl) rfl (by omega) rfl HROW3.out H6.out rfl HSRC.out HONE.out (16 + PS) (by first | omega | simp) ((mBy3 m).map bval) (by rw [HE3.out, List.map_append (l₂ := leB chunk 2)]) (by unfold maxLen; omega) (by omega) ?_
    intro A4 c4 w5 L4 hr h7
    have h8 := St.mid (A := L4) (B := L5) h7
    obtain ⟨s0', s1', s2', s3', s4'⟩ := FA.out _ _ h8 (by simp)
    have HROW4 := Lib.hid hr; have HST4 := Lib.hid h8
    clear hr h7 h8 H6 HSRC HONE HROW3 hcl s0' s1' s2' s3' s4'
    clear s3'
    have hsrc : Src w5 1 (some ⟨b1, 4, none⟩) 32 (m.dig.map bval) := by
      refine ⟨by rw [List.length_map, hdl], fun j u hj => ⟨_, rfl, ?_⟩⟩
      rw [show (⟨b1, 4, none⟩ : Addr).add j = ⟨b1, 4 + j, none⟩ by unfold Addr.add; split <;> simp_all, HST4.out.cell (g := b1) (cs := mk) (t := 29) (fr := (0, 0)) (by simp), ← HMK.out]
      exact Man.gd OK.out hj
    have HSRC := Lib.hid hsrc
    clear hsrc
    go_wp2_with (at_builtin; refine Hid.out ?_)
    refine Lib.hid ?_
    refine wpList_append_row (F := ((b1, .cells mk 29 (0, 0)) :: F)) (L := L4) rfl (.tmp 33) (.tmp 35) 22 rfl 5 (.int .u8 0) 1 1 Tryd.underlying22 (by kernel_rfl) rfl (by omega) rfl HROW4.out HST4.out rfl HSRC.out (one_bval _) (48 + PS) (by omega) ((mByK m hs 0).map bval) (by rw [HKZ.out, List.map_append]) (by unfold maxLen; omega) (by omega) ?_
    intro A9 c9 w9 L9 hr9 h9
    obtain ⟨_, _, _, _, s36'⟩ := FA.out _ _ h9 (by simp)
    have H9 := Lib.hid h9; have HR9 := Lib.hid hr9
    have hnb : hs.length ≤ 64 := by omega
    clear h9 hr9 HST4 HROW4 HSRC HKZ
    have HH9 := HH
    obtain ⟨N, hN⟩ : ∃ N, 48 + PS = N := ⟨_, rfl⟩
    have HN := Lib.hid hN
    rw [hN] at HR9 HLK
    rw [hN]
    clear hN
    go_wp2_with fail
    go_loopw [3, 40] (fun o i wr => ∃ (k : Nat) (A : Option Addr) (c : Nat) (L0 : List (Nat × Obj)), i = .int .i64 k ∧ k ≤ hs.length ∧ o = .slice A (N + 32 * k) c ∧ Row 5 1 (.slice A (N + 32 * k) c) (N + 32 * k) ((mByK m hs k).map bval) L0 ∧ St W wr I (L0 ++ ((b1, .cells mk 29 (0, 0)) :: F))) (fun _ i _ => hs.length - (intOf i).toNat)
    case atStart => exact ⟨0, A9, c9, L9, rfl, by omega, rfl, HR9.out, H9.out⟩
    case round =>
      obtain ⟨k, A, c, L0, rfl, hk, rfl, hrow, hst⟩ := hrel
      clear H9 HR9
      by_cases hkl : k < hs.length
      · obtain ⟨x, hx⟩ : ∃ x, hs[k]? = some x := ⟨_, List.getElem?_eq_getElem hkl⟩
        obtain ⟨b0, o0, hA, hrg⟩ := HH9.out.range hst hx
        subst hA
        have hxl : x.length = 32 := HH9.out.len x (List.mem_of_getElem? hx)
        have hsu := HSU.out k x hx
        have rg := hrg _ _ hst
        have hxi : (Tryd.prog.info? 26).map (·.size) = some (x.map bval).length := by rw [List.length_map, hxl]; kernel_rfl
        have hX : (bcells x).size = 32 := by rw [bcells_size, hxl]
        have ix : (Tryd.prog.info? 26).map (·.size) = some (bcells x).size := by rw [hX]; kernel_rfl
        have fx : 0 + (bcells x).size ≤ (#[.int .u8 0, .int .u8 0, .int .u8 0, .int .u8 0, .int .u8 0, .int .u8 0, .int .u8 0, .int .u8 0, .int .u8 0, .int .u8 0, .int .u8 0, .int .u8 0, .int .u8 0, .int .u8 0, .int .u8 0, .int .u8 0, .int .u8 0, .int .u8 0, .int .u8 0, .int .u8 0, .int .u8 0, .int .u8 0, .int .u8 0, .int .u8 0, .int .u8 0, .int .u8 0, .int .u8 0, .int .u8 0, .int .u8 0, .int .u8 0, .int .u8 0, .int .u8 0] : Array Value).size := by rw [hX]; decide
        have ox := bcells_one x
        have ex : setMany #[.int .u8 0, .int .u8 0, .int .u8 0, .int .u8 0, .int .u8 0, .int .u8 0, .int .u8 0, .int .u8 0, .int .u8 0, .int .u8 0, .int .u8 0, .int .u8 0, .int .u8 0, .int .u8 0, .int .u8 0, .int .u8 0, .int .u8 0, .int .u8 0, .int .u8 0, .int .u8 0, .int .u8 0, .int .u8 0, .int .u8 0, .int .u8 0, .int .u8 0, .int .u8 0, .int .u8 0, .int .u8 0, .int .u8 0, .int .u8 0, .int .u8 0, .int .u8 0] 0 (bcells x).toList = bcells x := by rw [setMany_whole _ _ (by simp [hX]), Array.toArray_toList]
        have ki : ((k : Nat) : Int) < (hs.length : Int) := by omega
        have H1a := Lib.hid (hst.alloc (.cells #[.int .u8 0, .int .u8 0, .int .u8 0, .int .u8 0, .int .u8 0, .int .u8 0, .int .u8 0, .int .u8 0, .int .u8 0, .int .u8 0, .int .u8 0, .int .u8 0, .int .u8 0, .int .u8 0, .int .u8 0, .int .u8 0, .int .u8 0, .int .u8 0, .int .u8 0, .int .u8 0, .int .u8 0, .int .u8 0, .int .u8 0, .int .u8 0, .int .u8 0, .int .u8 0, .int .u8 0, .int .u8 0, .int .u8 0, .int .u8 0, .int .u8 0, .int .u8 0] 26))
        have hlx : (x.map bval).toArray = bcells x := rfl
        have IX := Lib.hid ix; have FX := Lib.hid fx; have OX := Lib.hid ox; have EX := Lib.hid ex; have RG := Lib.hid rg; have HXI := Lib.hid hxi; have HROW := Lib.hid hrow; have HXL := Lib.hid hxl; have HS2 := Lib.hid hsu
        clear ix fx ox ex rg hxi hrow hxl hsu hst hrg hx hX
        go_wp2_with (first
          | (with_reducible refine wpList_load_mid rfl 26 (.tmp 42) rfl b0 (o0 + k * 32) rfl (x.map bval) _ RG.out Tryd.underlying26 rfl HXI.out ?_)
          | (with_reducible refine wpList_store_st rfl 26 (.tmp 5) (.tmp 43) rfl (g := wr.heap.size) (off := 0) (bcells x) rfl rfl H1a.out FX.out IX.out OX.out ?_; intro w5 h5; refine Hid.out ?_))
        refine Lib.hid ?_
        rw [EX.out] at h5
        have h6 := St.swap (A := [_]) h5
        have hsrc : Src w5 1 (some ⟨wr.heap.size, 0, none⟩) 32 (x.map bval) := by
          refine ⟨by rw [List.length_map, HXL.out], fun j u hj => ⟨_, rfl, ?_⟩⟩
          rw [show (⟨wr.heap.size, 0, none⟩ : Addr).add j = ⟨wr.heap.size, j, none⟩ by unfold Addr.add; split <;> simp_all, h5.cell (g := wr.heap.size) (cs := bcells x) (t := 26) (fr := (0, 0)) (by simp)]
          unfold bcells
          rw [List.getElem?_toArray]
          exact hj
        have H6 := Lib.hid h6; have HSRC := Lib.hid hsrc
        clear h5 h6 hsrc H1a IX FX OX EX RG HXI
        go_wp2_with (at_builtin; refine Hid.out ?_)
        refine Lib.hid ?_
        refine wpList_append_row (F := (wr.heap.size, .cells (bcells x) 26 (0, 0)) :: ((b1, .cells mk 29 (0, 0)) :: F)) rfl (.tmp 44) (.tmp 45) 22 rfl 5 (.int .u8 0) 1 1 Tryd.underlying22 (by kernel_rfl) rfl (by omega) rfl HROW.out H6.out rfl HSRC.out (one_bval _) (N + 32 * (k + 1)) (by omega) ((mByK m hs (k + 1)).map bval) (by rw [HS2.out, List.map_append]) (by unfold maxLen; have := HN.out; omega) (by have := HN.out; omega) ?_
        intro A10 c10 w10 L10 hr10 h10
        have h11 := St.mid (A := L10) (B := [_]) h10
        have H11 := Lib.hid h11; have HR10 := Lib.hid hr10
        clear h10 h11 hr10 H6 HSRC HROW
        go_wp2_with fail
        refine ⟨⟨k + 1, A10, c10, L10, by go_num, by omega, rfl, HR10.out, H11.out⟩, ?_⟩
        simp [intOf]; omega
      · obtain rfl : k = hs.length := by omega
        have hl := HLK.out hs.length (Nat.le_refl _)
        rw [HKE.out] at hl hrow
        have HROW := Lib.hid hrow; have HST := Lib.hid hst; have HL := Lib.hid hl
        clear hrow hst hl
        go_wp2_with fail
        go_ret

        exact ⟨.slice A (N + 32 * hs.length) c, rfl, A, c, L0, by rw [HL.out], by rw [HL.out]; exact HROW.out, St.mid (A := L0) (B := [_]) HST.out⟩
end
end
end Go.Proofs.YtfbffmckmchbbaaDoor
