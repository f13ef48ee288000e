/- The document's code: size, Fixed, Text: walks. -/
import Derived.Test.YtpjfmgifddoppaaDoorCodR
import Derived.Test.YtpjfmgifddoppaaDoorGlyPA
import Derived.Lib.ConvBytes
namespace Go.Proofs.YtpjfmgifddoppaaDoor
set_option linter.unusedVariables false
set_option linter.unusedSimpArgs false
open Go.RowKit Go.Lib

section
variable {W w : World} {I : Nat → Option Obj} {F : List (Nat × Obj)}
theorem rsize (k : Nat) (hk : k ≤ 8) (w : World) : Calls Tryd.prog 96 #[.int .i64 k] w fun e w' => e = .returned (.int .i64 k) ∧ w = w' := by
  have h1 : ¬ ((k : Int) < 0) := by omega
  have h2 : ¬ ((8 : Int) < k) := by omega
  go_enter Tryd.func96, Tryd.ntmps96
  go_wp2_with fail
  go_ret
  exact ⟨rfl, rfl⟩

set_option maxRecDepth 100000 in
set_option maxHeartbeats 2000000 in
theorem rfixed (n k : Nat) (hn : n < 18446744073709551616) (hk : k ≤ 8) (h : St W w I F) :
    Calls Tryd.prog 65 #[.int .u64 n, .int .i64 k] w fun e w' => ∃ v, e = .returned v ∧ FreshB W w' I F (leB n k) v := by
  have h1 := h.alloc (.cells #[] 5)
  have kS := fun w => rsize k hk w
  have H1 := Lib.hid h1; have KS := Lib.hid kS
  clear h h1 kS
  go_enter Tryd.func65, Tryd.ntmps65
  go_wp2_with fail
  go_loopw [0, 5, 6] (fun x o i wr => ∃ (j : Nat) (A : Option Addr) (c : Nat) (L0 : List (Nat × Obj)), i = .int .i64 j ∧ j ≤ k ∧ x = .int .u64 (n / 256 ^ j : Nat) ∧ o = .slice A j c ∧ Row 5 1 (.slice A j c) j ((leB n j).map bval) L0 ∧ St W wr I (L0 ++ F)) (fun _ _ i _ => k - (intOf i).toNat)
  case atStart => exact ⟨0, _, _, _, rfl, by omega, by simp, rfl, by simpa [leB] using Row.empty 5 1 w.heap.size, H1.out⟩
  case round =>
    obtain ⟨j, A, c, L0, rfl, hj, rfl, rfl, hrow, hst⟩ := hrel
    clear H1
    by_cases hjk : j < k
    · have hx : n / 256 ^ j < 18446744073709551616 := Nat.lt_of_le_of_lt (Nat.div_le_self _ _) hn
      have hsucc := leB_succ j n
      have hnext : n / 256 ^ (j + 1) = n / 256 ^ j / 256 := by rw [Nat.pow_succ, Nat.div_div_eq_div_mul]
      generalize n / 256 ^ j = x at *
      have hbv := bval_ofNat (x % 256) (Nat.mod_lt _ (by omega))
      have hjki : (j : Int) < (k : Int) := by omega
      have hj8 : (j : Int) < 8 := by omega
      have htm : (x : Int).tmod 256 = (x : Int) % 256 := Int.tmod_eq_emod_of_nonneg (by omega)
      have htd : (x : Int).tdiv 256 = (x : Int) / 256 := Int.tdiv_eq_ediv_of_nonneg (by omega)
      have HROW := Lib.hid hrow; have HST := Lib.hid hst; have HS := Lib.hid hsucc; have HN := Lib.hid hnext; have HBV := Lib.hid hbv
      clear hrow hst hsucc hnext hbv
      go_wp2_with fail
      refine (KS.out _).mono ?_
      rintro e w5 ⟨rfl, rfl⟩
      go_wp2_with (at_builtin; refine Hid.out ?_)
      refine Lib.hid ?_
      refine wpList_append_row (F := F) rfl (.tmp 14) (.tmp 18) 40 rfl 5 (.int .u8 0) 1 1 Tryd.underlying40 (by kernel_rfl) rfl (by omega) rfl HROW.out (St.alloc_ HST.out _) rfl (Src.one _ (.int .u8 ((x : Int) % 256)) 5) (by intro u hu; simp at hu; subst hu; rfl) (j + 1) (by omega) ((leB n (j + 1)).map bval) (by rw [HS.out, List.map_append, List.map_cons, HBV.out]; simp) (by unfold maxLen; omega) (by omega) ?_
      intro A5 c5 w5 L5 hr5 h5
      have H5 := Lib.hid h5; have HR5 := Lib.hid hr5
      clear h5 hr5 HROW HST HS HBV
      go_wp2_with fail
      refine ⟨⟨j + 1, A5, c5, L5, by go_num, by omega, by rw [HN.out]; rfl, rfl, HR5.out, H5.out⟩, ?_⟩
      simp [intOf]; omega
    · obtain rfl : j = k := by omega
      have HROW := Lib.hid hrow; have HST := Lib.hid hst
      clear hrow hst
      go_wp2_with fail
      refine (KS.out _).mono ?_
      rintro e w5 ⟨rfl, rfl⟩
      go_wp2_with fail
      go_ret
      refine ⟨.slice A j c, rfl, A, c, L0, by rw [leB_len], ?_, HST.out⟩
      rw [leB_len]
      exact HROW.out

end
end Go.Proofs.YtpjfmgifddoppaaDoor
