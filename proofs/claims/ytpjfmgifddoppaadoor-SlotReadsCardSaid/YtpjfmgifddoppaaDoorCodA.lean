/- code: within, Fixed: walks. -/
import Derived.Test.YtpjfmgifddoppaaDoorCodM
import Derived.Test.YtpjfmgifddoppaaDoorRngM
namespace Go.Proofs.YtpjfmgifddoppaaDoor
set_option linter.unusedVariables false
set_option linter.unusedSimpArgs false
open Go.RowKit Go.Lib

section
variable {W w : World} {I : Nat → Option Obj} {F : List (Nat × Obj)}
theorem within_any (k : Nat) (hk : k ≤ 8) (w : World) : Calls Tryd.prog 94 #[.int .i64 k] w fun e w' => e = .returned (.int .i64 k) ∧ w' = w := by
  have h1 : min (k : Int) 8 = k := by omega
  have h2 : max (0 : Int) k = k := by omega
  go_enter Tryd.func94, Tryd.ntmps94
  go_wp2_with fail
  go_ret
  exact ⟨rfl, rfl⟩

set_option maxRecDepth 100000 in
set_option maxHeartbeats 2000000 in
theorem cfixed (p : Part) (hp : p.In W I) (hl : p.bs.length ≤ 1000000) (n k : Nat) (hn : n < 18446744073709551616) (hk : k ≤ 8) (h : St W w I F) :
    Calls Tryd.prog 63 #[p.val, .int .u64 n, .int .i64 k] w fun e w' => ∃ v, e = .returned v ∧ FreshB W w' I F (p.bs ++ leB n k) v := by
  have kC := clone_bytes p hp (by omega) h
  have kW := within_any k hk
  obtain ⟨A0, cap, bs⟩ := p
  simp only [Part.val] at kC hl ⊢
  have KC := Lib.hid kC; have KW := Lib.hid kW
  clear kC kW h hp
  go_enter Tryd.func63, Tryd.ntmps63
  go_wp2_with fail
  refine KC.out.mono ?_
  rintro e w1 ⟨v, rfl, A1, c1, L1, rfl, hr1, h1⟩
  have H1 := Lib.hid h1; have HR := Lib.hid hr1
  clear h1 hr1 KC
  go_wp2_with fail
  refine (KW.out _).mono ?_
  rintro e w2 ⟨rfl, rfl⟩
  clear KW
  go_wp2_with fail
  go_loopw [7, 1, 12] (fun o x i wr => ∃ (j : Nat) (A : Option Addr) (c : Nat) (L0 : List (Nat × Obj)), i = .int .i64 j ∧ j ≤ k ∧ x = .int .u64 (n / 256 ^ j : Nat) ∧ o = .slice A (bs.length + j) c ∧ Row 5 1 (.slice A (bs.length + j) c) (bs.length + j) ((bs ++ leB n j).map bval) L0 ∧ St W wr I (L0 ++ F)) (fun _ _ i _ => k - (intOf i).toNat)
  case atStart => exact ⟨0, A1, c1, L1, rfl, by omega, by simp, by simp, by simpa [leB] using HR.out, H1.out⟩
  case round =>
    obtain ⟨j, A, c, L0, rfl, hj, rfl, rfl, hrow, hst⟩ := hrel
    clear H1 HR
    by_cases hjk : j < k
    · have hx : n / 256 ^ j < 18446744073709551616 := Nat.lt_of_le_of_lt (Nat.div_le_self _ _) hn
      have hsucc := leB_succ j n
      have hnext : n / 256 ^ (j + 1) = n / 256 ^ j / 256 := by rw [Nat.pow_succ, Nat.div_div_eq_div_mul]
      generalize n / 256 ^ j = x at *
      have hbv := bval_ofNat (x % 256) (Nat.mod_lt _ (by omega))
      have HROW := Lib.hid hrow; have HST := Lib.hid hst; have HS := Lib.hid hsucc; have HN := Lib.hid hnext; have HBV := Lib.hid hbv
      clear hrow hst hsucc hnext hbv
      go_wp2_with (at_builtin; refine Hid.out ?_)
      refine Lib.hid ?_
      refine wpList_append_row (F := F) rfl (.tmp 14) (.tmp 17) 40 rfl 5 (.int .u8 0) 1 1 Tryd.underlying40 (by kernel_rfl) rfl (by omega) rfl HROW.out (St.alloc_ HST.out _) rfl (Src.one wr (.int .u8 ((x : Int) % 256)) 5) (by intro u hu; simp at hu; subst hu; rfl) (bs.length + (j + 1)) (by omega) ((bs ++ leB n (j + 1)).map bval) (by rw [HS.out, ← List.append_assoc, List.map_append (l₁ := bs ++ leB n j), List.map_cons, HBV.out]; simp) (by unfold maxLen; omega) (by omega) ?_
      intro A5 c5 w5 L5 hr5 h5
      have H5 := Lib.hid h5; have HR5 := Lib.hid hr5
      clear h5 hr5 HROW HST HS HBV
      go_wp2_with fail
      refine ⟨⟨j + 1, A5, c5, L5, by go_num, by omega, by rw [HN.out]; rfl, rfl, HR5.out, H5.out⟩, ?_⟩
      simp [intOf]; omega
    · obtain rfl : j = k := by omega
      have HROW := Lib.hid hrow; have HST := Lib.hid hst
      clear hrow hst
      go_wp2_with fail
      go_ret
      have el : (bs ++ leB n j).length = bs.length + j := by rw [List.length_append, leB_len]
      refine ⟨_, rfl, A, c, L0, by simp [leB_len], ?_, HST.out⟩
      rw [el]
      exact HROW.out
end
end Go.Proofs.YtpjfmgifddoppaaDoor
