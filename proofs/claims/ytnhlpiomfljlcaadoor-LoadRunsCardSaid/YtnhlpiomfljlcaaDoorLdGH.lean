/- The loader: one step of it, where nothing was told. The loader: one step of it, where what comes is sent on; all of it. -/
import Derived.Test.YtnhlpiomfljlcaaDoorLdQF
namespace Go.Proofs.YtnhlpiomfljlcaaDoor
section
set_option linter.unusedVariables false
set_option linter.unusedSimpArgs false
open Go.RowKit Go.Lib

section
variable {W w : World} {J : Nat → Option Obj} {F : List (Nat × Obj)} {g gn m : Nat} {es : List (ByteArray × Part)} {name : ByteArray} {ro ri n ni : Nat} {q : LQ}
theorem step_done (h : LdSt W w J g gn m es name ro ri n ni q F) (he : q.err = 0) (hq : q.inn = []) (hw : q.wants = -2) :
    Calls Tryd.prog 13 #[.pointer (some ⟨g, 0, none⟩)] w (StepPost W J g gn m es name ro ri n ni F false q) := by
  obtain ⟨l, ρo, ρi, hi, hni, φ, hs⟩ := h
  obtain ⟨c3, c4, c6, c7, f7⟩ := ld_all hs
  rw [hi.err, he] at c7
  rw [hi.li, ← hi.r_i] at c4
  rw [hi.lo, ← hi.r_o] at c3
  rw [hi.wants] at c6
  have hxs : ρi.xs = [] := by rw [hi.inn, hq]; rfl
  have hrecv : ∀ v, St W v J (φ.L' gn m es q.cnt ++ (ldG g l :: (ldO ρo ++ (ldI ρi ++ F)))) → Calls Tryd.prog 36 #[.pointer (some ⟨ρi.r, 0, none⟩)] v fun e w' => e = .returned (.tuple #[.nilIface, .bool false]) ∧ St W w' J (φ.L' gn m es q.cnt ++ (ldG g l :: (ldO ρo ++ (ldI ρi ++ F)))) :=
    fun v hv => ld_recv0 hi.qi hxs hv
  have hfa : ∀ v, St W v J (φ.L' gn m es q.cnt ++ (ldG g l :: (ldO ρo ++ (ldI ρi ++ F)))) → v.cell? ⟨g, 3, none⟩ = some (.pointer (some ⟨ρo.r, 0, none⟩)) ∧ v.cell? ⟨g, 6, none⟩ = some (.int .i64 q.wants) ∧ v.cell? ⟨g, 7, none⟩ = some (.int .i64 0) := by
    intro v hv
    obtain ⟨c3, c4, c6, c7, f7⟩ := ld_all hv
    rw [hi.err, he] at c7
    rw [hi.lo, ← hi.r_o] at c3
    rw [hi.wants] at c6
    exact ⟨c3, c6, c7⟩
  have hfin : ∀ v, St W v J (φ.L' gn m es q.cnt ++ (ldG g l :: (ldO ρo ++ (ldI ρi ++ F)))) → StepPost W J g gn m es name ro ri n ni F false q (.returned (.bool false)) v := fun v hv => ⟨J, Le.refl _, rfl, l, ρo, ρi, hi, hni, φ, hv⟩
  have HS := Lib.hid hs; have HR := Lib.hid hrecv; have FA := Lib.hid hfa; have HFN := Lib.hid hfin
  clear hs hrecv hfa hfin hi hni hxs
  rw [hw] at c6 FA
  clear hw
  go_enter Tryd.func13, Tryd.ntmps13
  go_wp2_with (go_at_call 36; refine (HR.out _ HS.out).mono ?_; rintro e w1 ⟨rfl, h1⟩; obtain ⟨d3, d6, d7⟩ := FA.out _ h1; have H1 := Lib.hid h1; clear h1)
  go_ret
  exact HFN.out _ H1.out

theorem step_full (h : LdSt W w J g gn m es name ro ri n ni q F) (he : q.err = 0) (hq : q.inn = []) (hw : q.wants ≠ -2) (hn : n ≤ q.out.length) :
    Calls Tryd.prog 13 #[.pointer (some ⟨g, 0, none⟩)] w (StepPost W J g gn m es name ro ri n ni F false q) := by
  obtain ⟨l, ρo, ρi, hi, hni, φ, hs⟩ := h
  obtain ⟨c3, c4, c6, c7, f7⟩ := ld_all hs
  rw [hi.err, he] at c7
  rw [hi.li, ← hi.r_i] at c4
  rw [hi.lo, ← hi.r_o] at c3
  rw [hi.wants] at c6
  have hxs : ρi.xs = [] := by rw [hi.inn, hq]; rfl
  have hrecv : ∀ v, St W v J (φ.L' gn m es q.cnt ++ (ldG g l :: (ldO ρo ++ (ldI ρi ++ F)))) → Calls Tryd.prog 36 #[.pointer (some ⟨ρi.r, 0, none⟩)] v fun e w' => e = .returned (.tuple #[.nilIface, .bool false]) ∧ St W w' J (φ.L' gn m es q.cnt ++ (ldG g l :: (ldO ρo ++ (ldI ρi ++ F)))) :=
    fun v hv => ld_recv0 hi.qi hxs hv
  have hfa : ∀ v, St W v J (φ.L' gn m es q.cnt ++ (ldG g l :: (ldO ρo ++ (ldI ρi ++ F)))) → v.cell? ⟨g, 3, none⟩ = some (.pointer (some ⟨ρo.r, 0, none⟩)) ∧ v.cell? ⟨g, 6, none⟩ = some (.int .i64 q.wants) ∧ v.cell? ⟨g, 7, none⟩ = some (.int .i64 0) := by
    intro v hv
    obtain ⟨c3, c4, c6, c7, f7⟩ := ld_all hv
    rw [hi.err, he] at c7
    rw [hi.lo, ← hi.r_o] at c3
    rw [hi.wants] at c6
    exact ⟨c3, c6, c7⟩
  have hroom : ∀ v, St W v J (φ.L' gn m es q.cnt ++ (ldG g l :: (ldO ρo ++ (ldI ρi ++ F)))) → Calls Tryd.prog 38 #[.pointer (some ⟨ρo.r, 0, none⟩)] v fun e w' => e = .returned (.int .i64 (ρo.room : Int)) ∧ ∃ k, w' = v.drewN k :=
    fun v hv => room_pc ρo hi.qo hv.toO
  have hz : (((ρo.room : Nat) : Int) == 0) = true := by
    have h1 := hi.out.len
    have h2 := hi.n
    have : ρo.room = 0 := by unfold Qing.room; omega
    rw [this]; rfl
  have hw2 : (q.wants == -2) = false := by simpa using hw
  have hfin : ∀ v k, St W v J (φ.L' gn m es q.cnt ++ (ldG g l :: (ldO ρo ++ (ldI ρi ++ F)))) → StepPost W J g gn m es name ro ri n ni F false q (.returned (.bool false)) (v.drewN k) := fun v k hv => ⟨J, Le.refl _, rfl, l, ρo, ρi, hi, hni, φ, hv.drew k⟩
  have HS := Lib.hid hs; have HR := Lib.hid hrecv; have FA := Lib.hid hfa; have HFN := Lib.hid hfin; have HRO := Lib.hid hroom
  clear hs hrecv hfa hfin hi hni hxs hroom hw hn
  go_enter Tryd.func13, Tryd.ntmps13
  go_wp2_with (first | (go_at_call 36; refine (HR.out _ HS.out).mono ?_; rintro e w1 ⟨rfl, h1⟩; obtain ⟨d3, d6, d7⟩ := FA.out _ h1; have H1 := Lib.hid h1; clear h1) | (go_at_call 38; refine (HRO.out _ H1.out).mono ?_; rintro e w2 ⟨rfl, k2, rfl⟩))
  go_ret
  exact HFN.out _ _ H1.out

theorem LdIs.put {J' : Nat → Option Obj} {l l' : Lder} {ρo ρo' : Qing} {ρi : Ring} {q' : LQ} (hi : LdIs W J gn es name ro ri n q l ρo ρi) (hle : Le J J') (h1 : l'.Ok J') (h2 : l'.gn = l.gn) (h3 : l'.name = l.name) (h4 : l'.ro = l.ro) (h5 : l'.ri = l.ri) (h6 : l'.left = q'.left) (h7 : l'.kn = q'.known)
    (h8 : l'.wants = q'.wants) (h9 : l'.err = q'.err) (h10 : q'.inn = q.inn) (h11 : OutIs W J' ρo'.xs q'.out) (h12 : ρo'.Ok) (h13 : ρo'.r = ρo.r) (h14 : ρo'.n = ρo.n) : LdIs W J' gn es name ro ri n q' l' ρo' ρi :=
  ⟨h1, h2.trans hi.gn, h3.trans hi.nm, h4.trans hi.lo, h5.trans hi.li, h12, hi.qi, hi.shut, h13.trans hi.r_o, hi.r_i, h14.trans hi.n, h6, h7, h8, h9, by rw [h10]; exact hi.inn, h11, by rw [h10]; exact hi.nts, hi.offs.mono hle, hi.tb.more hle⟩

/-- Nothing has that name. -/
theorem step_none (h : LdSt W w J g gn m es name ro ri n ni q F) (he : q.err = 0) (hq : q.inn = []) (hw : q.wants ≠ -2) (hn : q.out.length < n) (hs0 : name.size ≤ 1000000) (hfs : q.fs.length ≤ 1000000) (hcnt : q.cnt ≤ 1000000000) (ho : offOf es name = none) :
    Calls Tryd.prog 13 #[.pointer (some ⟨g, 0, none⟩)] w (StepPost W J g gn m es name ro ri n ni F true { q with err := 182 }) := by
  obtain ⟨l, ρo, ρi, hi, hni, φ, hs⟩ := h
  obtain ⟨c3, c4, c6, c7, f7⟩ := ld_all hs
  rw [hi.err, he] at c7
  rw [hi.li, ← hi.r_i] at c4
  rw [hi.lo, ← hi.r_o] at c3
  rw [hi.wants] at c6
  have hxs : ρi.xs = [] := by rw [hi.inn, hq]; rfl
  have hrecv : ∀ v, St W v J (φ.L' gn m es q.cnt ++ (ldG g l :: (ldO ρo ++ (ldI ρi ++ F)))) → Calls Tryd.prog 36 #[.pointer (some ⟨ρi.r, 0, none⟩)] v fun e w' => e = .returned (.tuple #[.nilIface, .bool false]) ∧ St W w' J (φ.L' gn m es q.cnt ++ (ldG g l :: (ldO ρo ++ (ldI ρi ++ F)))) :=
    fun v hv => ld_recv0 hi.qi hxs hv
  have hfa : ∀ v, St W v J (φ.L' gn m es q.cnt ++ (ldG g l :: (ldO ρo ++ (ldI ρi ++ F)))) → v.cell? ⟨g, 3, none⟩ = some (.pointer (some ⟨ρo.r, 0, none⟩)) ∧ v.cell? ⟨g, 6, none⟩ = some (.int .i64 q.wants) ∧ v.cell? ⟨g, 7, none⟩ = some (.int .i64 0) := by
    intro v hv
    obtain ⟨c3, c4, c6, c7, f7⟩ := ld_all hv
    rw [hi.err, he] at c7
    rw [hi.lo, ← hi.r_o] at c3
    rw [hi.wants] at c6
    exact ⟨c3, c6, c7⟩
  have hroom : ∀ v, St W v J (φ.L' gn m es q.cnt ++ (ldG g l :: (ldO ρo ++ (ldI ρi ++ F)))) → Calls Tryd.prog 38 #[.pointer (some ⟨ρo.r, 0, none⟩)] v fun e w' => e = .returned (.int .i64 (ρo.room : Int)) ∧ ∃ k, w' = v.drewN k :=
    fun v hv => room_pc ρo hi.qo hv.toO
  have hz : (((ρo.room : Nat) : Int) == 0) = false := by
    have h1 := hi.out.len
    have h2 := hi.n
    have : ρo.room ≠ 0 := by unfold Qing.room; omega
    simp; omega
  have hw2 : (q.wants == -2) = false := by simpa using hw
  have hfe : ∀ v k, St W v J (φ.L' gn m es q.cnt ++ (ldG g l :: (ldO ρo ++ (ldI ρi ++ F)))) → Calls Tryd.prog 39 #[.pointer (some ⟨g, 0, none⟩)] (v.drewN k) fun e w' => e = .returned (.tuple #[.slice none 0 0, .int .i64 182]) ∧ (w'.cell? ⟨g, 7, none⟩ = some (.int .i64 0) ∧ w'.frozen? ⟨g, 7, none⟩ = false) ∧ StepPost W J g gn m es name ro ri n ni F true { q with err := 182 } (.returned (.bool true)) (w'.setCell ⟨g, 7, none⟩ (.int .i64 182)) := by
    intro v k hv
    refine (ld_fetch (cnt := q.cnt) (fs := q.fs) hi.tb hi.offs hi.ok hi.gn (by rw [hi.nm]; exact hs0) (by rw [hi.wants]; exact hw) hfs hcnt ⟨φ, hv.drew k⟩).mono ?_
    rintro e w' ⟨y, x, rfl, hf⟩
    rw [hi.nm, ho] at hf
    obtain ⟨rfl, rfl, φ2, h2⟩ := hf
    obtain ⟨_, _, _, q7, z7⟩ := ld_all h2
    rw [hi.err, he] at q7
    refine ⟨rfl, ⟨q7, z7⟩, J, Le.refl _, rfl, { l with err := 182 }, ρo, ρi, hi.put (Le.refl _) (hi.ok.err 182) rfl rfl rfl rfl hi.left hi.known hi.wants rfl rfl hi.out hi.qo rfl rfl, hni, φ2, ?_⟩
    exact (ld_set (l' := { l with err := 182 }) h2.toG 7 (.int .i64 182) rfl).ofG
  have HS := Lib.hid hs; have HR := Lib.hid hrecv; have FA := Lib.hid hfa; have HRO := Lib.hid hroom; have HFE := Lib.hid hfe
  clear hs hrecv hfa hi hni hxs hroom hw hn hfe ho
  go_enter Tryd.func13, Tryd.ntmps13
  go_wp2_with (first | (go_at_call 36; refine (HR.out _ HS.out).mono ?_; rintro e w1 ⟨rfl, h1⟩; obtain ⟨d3, d6, d7⟩ := FA.out _ h1; have H1 := Lib.hid h1; clear h1) | (go_at_call 38; refine (HRO.out _ H1.out).mono ?_; rintro e w2 ⟨rfl, k2, rfl⟩) | (go_at_call 39; refine (HFE.out _ _ H1.out).mono ?_; rintro e w3 ⟨rfl, ⟨q7, z7⟩, h3⟩; have H3 := Lib.hid h3; clear h3))
  go_ret
  exact H3.out

/-- What comes, does not come whole. -/
theorem step_lost (h : LdSt W w J g gn m es name ro ri n ni q F) (he : q.err = 0) (hq : q.inn = []) (hw : q.wants ≠ -2) (hn : q.out.length < n) (hs0 : name.size ≤ 1000000) (hfs : q.fs.length ≤ 1000000) (hcnt : q.cnt ≤ 1000000000) (p : Part) (ho : offOf es name = some p) (hx : (fetched p.bs (first q.fs) q.askQ.1 q.askQ.2).2 = 181) :
    Calls Tryd.prog 13 #[.pointer (some ⟨g, 0, none⟩)] w (StepPost W J g gn m es name ro ri n ni F true ({ q with fs := q.fs.tail, cnt := q.cnt + 1 } : LQ).tryQ) := by
  obtain ⟨l, ρo, ρi, hi, hni, φ, hs⟩ := h
  obtain ⟨c3, c4, c6, c7, f7⟩ := ld_all hs
  rw [hi.err, he] at c7
  rw [hi.li, ← hi.r_i] at c4
  rw [hi.lo, ← hi.r_o] at c3
  rw [hi.wants] at c6
  have hxs : ρi.xs = [] := by rw [hi.inn, hq]; rfl
  have hrecv : ∀ v, St W v J (φ.L' gn m es q.cnt ++ (ldG g l :: (ldO ρo ++ (ldI ρi ++ F)))) → Calls Tryd.prog 36 #[.pointer (some ⟨ρi.r, 0, none⟩)] v fun e w' => e = .returned (.tuple #[.nilIface, .bool false]) ∧ St W w' J (φ.L' gn m es q.cnt ++ (ldG g l :: (ldO ρo ++ (ldI ρi ++ F)))) :=
    fun v hv => ld_recv0 hi.qi hxs hv
  have hfa : ∀ v, St W v J (φ.L' gn m es q.cnt ++ (ldG g l :: (ldO ρo ++ (ldI ρi ++ F)))) → v.cell? ⟨g, 3, none⟩ = some (.pointer (some ⟨ρo.r, 0, none⟩)) ∧ v.cell? ⟨g, 6, none⟩ = some (.int .i64 q.wants) ∧ v.cell? ⟨g, 7, none⟩ = some (.int .i64 0) := by
    intro v hv
    obtain ⟨c3, c4, c6, c7, f7⟩ := ld_all hv
    rw [hi.err, he] at c7
    rw [hi.lo, ← hi.r_o] at c3
    rw [hi.wants] at c6
    exact ⟨c3, c6, c7⟩
  have hroom : ∀ v, St W v J (φ.L' gn m es q.cnt ++ (ldG g l :: (ldO ρo ++ (ldI ρi ++ F)))) → Calls Tryd.prog 38 #[.pointer (some ⟨ρo.r, 0, none⟩)] v fun e w' => e = .returned (.int .i64 (ρo.room : Int)) ∧ ∃ k, w' = v.drewN k :=
    fun v hv => room_pc ρo hi.qo hv.toO
  have hz : (((ρo.room : Nat) : Int) == 0) = false := by
    have h1 := hi.out.len
    have h2 := hi.n
    have : ρo.room ≠ 0 := by unfold Qing.room; omega
    simp; omega
  have hw2 : (q.wants == -2) = false := by simpa using hw
  have hask := ask_eq hi.known hi.wants
  have hfe : ∀ v k, St W v J (φ.L' gn m es q.cnt ++ (ldG g l :: (ldO ρo ++ (ldI ρi ++ F)))) → Calls Tryd.prog 39 #[.pointer (some ⟨g, 0, none⟩)] (v.drewN k) fun e w' => ∃ y, e = .returned (.tuple #[y, .int .i64 181]) ∧ NetSt W w' J gn m es q.fs.tail (q.cnt + 1) (ldG g l :: (ldO ρo ++ (ldI ρi ++ F))) := by
    intro v k hv
    refine (ld_fetch (cnt := q.cnt) (fs := q.fs) hi.tb hi.offs hi.ok hi.gn (by rw [hi.nm]; exact hs0) (by rw [hi.wants]; exact hw) hfs hcnt ⟨φ, hv.drew k⟩).mono ?_
    rintro e w' ⟨y, x, rfl, hf⟩
    rw [hi.nm, ho, hask] at hf
    obtain ⟨rfl, A, c, L', rfl, hrow, φ2, h2⟩ := hf
    rw [hx]
    exact ⟨_, rfl, φ2, (St.mid (B := L') h2)⟩
  have htry : ∀ v, NetSt W v J gn m es q.fs.tail (q.cnt + 1) (ldG g l :: (ldO ρo ++ (ldI ρi ++ F))) → Calls Tryd.prog 42 #[.pointer (some ⟨g, 0, none⟩)] v fun e w' => ∃ b, e = .returned (.bool b) ∧ StepPost W J g gn m es name ro ri n ni F true ({ q with fs := q.fs.tail, cnt := q.cnt + 1 } : LQ).tryQ (.returned (.bool true)) w' := by
    intro v hv
    obtain ⟨φ2, h2⟩ := hv
    refine (ld_try hi.ok.left h2.toG).mono ?_
    rintro e w' ⟨rfl, h3⟩
    have hl := hi.left
    by_cases h0 : l.left = 0
    · have e1 : l.tryL = { l with err := 191 } := if_pos h0
      have e2 : ({ q with fs := q.fs.tail, cnt := q.cnt + 1 } : LQ).tryQ = { q with fs := q.fs.tail, cnt := q.cnt + 1, err := 191 } := if_pos (hl ▸ h0)
      rw [e1] at h3
      rw [e2]
      exact ⟨_, rfl, J, Le.refl _, rfl, { l with err := 191 }, ρo, ρi, hi.put (Le.refl _) (hi.ok.err 191) rfl rfl rfl rfl hl hi.known hi.wants rfl rfl hi.out hi.qo rfl rfl, hni, φ2, h3.ofG⟩
    · have e1 : l.tryL = { l with left := l.left - 1 } := if_neg h0
      have e2 : ({ q with fs := q.fs.tail, cnt := q.cnt + 1 } : LQ).tryQ = { q with fs := q.fs.tail, cnt := q.cnt + 1, left := q.left - 1 } := if_neg (hl ▸ h0)
      rw [e1] at h3
      rw [e2]
      exact ⟨_, rfl, J, Le.refl _, rfl, { l with left := l.left - 1 }, ρo, ρi, hi.put (Le.refl _) ⟨by show l.left - 1 ≤ 100; have := hi.ok.left; omega, hi.ok.known, hi.ok.wants⟩ rfl rfl rfl rfl (by show l.left - 1 = q.left - 1; rw [hl]) hi.known hi.wants hi.err rfl hi.out hi.qo rfl rfl, hni, φ2, h3.ofG⟩
  have HS := Lib.hid hs; have HR := Lib.hid hrecv; have FA := Lib.hid hfa; have HRO := Lib.hid hroom; have HFE := Lib.hid hfe; have HT := Lib.hid htry
  clear hs hrecv hfa hi hni hxs hroom hw hn hfe ho hx hask htry
  go_enter Tryd.func13, Tryd.ntmps13
  go_wp2_with (first | (go_at_call 36; refine (HR.out _ HS.out).mono ?_; rintro e w1 ⟨rfl, h1⟩; obtain ⟨d3, d6, d7⟩ := FA.out _ h1; have H1 := Lib.hid h1; clear h1) | (go_at_call 38; refine (HRO.out _ H1.out).mono ?_; rintro e w2 ⟨rfl, k2, rfl⟩) | (go_at_call 39; refine (HFE.out _ _ H1.out).mono ?_; rintro e w3 ⟨y, rfl, h3⟩; have H3 := Lib.hid h3; clear h3) | (go_at_call 42; refine (HT.out _ H3.out).mono ?_; rintro e w4 ⟨b, rfl, h4⟩; have H4 := Lib.hid h4; clear h4))
  go_ret
  exact H4.out
end
end

section
set_option linter.unusedVariables false
set_option linter.unusedSimpArgs false
open Go.RowKit Go.Lib

section
variable {W w : World} {J : Nat → Option Obj} {F : List (Nat × Obj)} {g gn m : Nat} {es : List (ByteArray × Part)} {name : ByteArray} {ro ri n ni : Nat} {q : LQ}
set_option maxHeartbeats 1000000 in
theorem step_sent (h : LdSt W w J g gn m es name ro ri n ni q F) (he : q.err = 0) (hq : q.inn = []) (hw : q.wants ≠ -2) (hn : q.out.length < n) (hs0 : name.size ≤ 1000000) (hfs : q.fs.length ≤ 1000000) (hcnt : q.cnt ≤ 1000000000) (p : Part) (ho : offOf es name = some p) (hpl : p.bs.length ≤ 1000000000) (hx : (fetched p.bs (first q.fs) q.askQ.1 q.askQ.2).2 = 0) :
    Calls Tryd.prog 13 #[.pointer (some ⟨g, 0, none⟩)] w (StepPost W J g gn m es name ro ri n ni F true { q with fs := q.fs.tail, cnt := q.cnt + 1, out := q.out ++ [(q.wants, (fetched p.bs (first q.fs) q.askQ.1 q.askQ.2).1)], wants := q.nextQ }) := by
  obtain ⟨l, ρo, ρi, hi, hni, φ, hs⟩ := h
  obtain ⟨c3, c4, c6, c7, f7⟩ := ld_all hs
  rw [hi.err, he] at c7
  rw [hi.li, ← hi.r_i] at c4
  rw [hi.lo, ← hi.r_o] at c3
  rw [hi.wants] at c6
  have hxs : ρi.xs = [] := by rw [hi.inn, hq]; rfl
  have hrecv : ∀ v, St W v J (φ.L' gn m es q.cnt ++ (ldG g l :: (ldO ρo ++ (ldI ρi ++ F)))) → Calls Tryd.prog 36 #[.pointer (some ⟨ρi.r, 0, none⟩)] v fun e w' => e = .returned (.tuple #[.nilIface, .bool false]) ∧ St W w' J (φ.L' gn m es q.cnt ++ (ldG g l :: (ldO ρo ++ (ldI ρi ++ F)))) :=
    fun v hv => ld_recv0 hi.qi hxs hv
  have hfa : ∀ v, St W v J (φ.L' gn m es q.cnt ++ (ldG g l :: (ldO ρo ++ (ldI ρi ++ F)))) → v.cell? ⟨g, 3, none⟩ = some (.pointer (some ⟨ρo.r, 0, none⟩)) ∧ v.cell? ⟨g, 6, none⟩ = some (.int .i64 q.wants) ∧ v.cell? ⟨g, 7, none⟩ = some (.int .i64 0) := by
    intro v hv
    obtain ⟨c3, c4, c6, c7, f7⟩ := ld_all hv
    rw [hi.err, he] at c7
    rw [hi.lo, ← hi.r_o] at c3
    rw [hi.wants] at c6
    exact ⟨c3, c6, c7⟩
  have hroom : ∀ v, St W v J (φ.L' gn m es q.cnt ++ (ldG g l :: (ldO ρo ++ (ldI ρi ++ F)))) → Calls Tryd.prog 38 #[.pointer (some ⟨ρo.r, 0, none⟩)] v fun e w' => e = .returned (.int .i64 (ρo.room : Int)) ∧ ∃ k, w' = v.drewN k :=
    fun v hv => room_pc ρo hi.qo hv.toO
  have hz : (((ρo.room : Nat) : Int) == 0) = false := by
    have h1 := hi.out.len
    have h2 := hi.n
    have : ρo.room ≠ 0 := by unfold Qing.room; omega
    simp; omega
  have hw2 : (q.wants == -2) = false := by simpa using hw
  have hrm : 0 < ρo.room := by
    have h1 := hi.out.len
    have h2 := hi.n
    unfold Qing.room; omega
  have hask := ask_eq hi.known hi.wants
  obtain ⟨B, hB⟩ : ∃ B, (fetched p.bs (first q.fs) q.askQ.1 q.askQ.2).1 = B := ⟨_, rfl⟩
  have hBl : B.length ≤ 1000000000 := by rw [← hB]; exact Nat.le_trans (fetched_le _ _ _ _) hpl
  rw [hB]
  have hfe : ∀ v k, St W v J (φ.L' gn m es q.cnt ++ (ldG g l :: (ldO ρo ++ (ldI ρi ++ F)))) → Calls Tryd.prog 39 #[.pointer (some ⟨g, 0, none⟩)] (v.drewN k) fun e w' => ∃ A c J', e = .returned (.tuple #[.slice A B.length c, .int .i64 0]) ∧ Le J J' ∧ POk ⟨A, c, B⟩ W J' ∧ NetSt W w' J' gn m es q.fs.tail (q.cnt + 1) (ldG g l :: (ldO ρo ++ (ldI ρi ++ F))) := by
    intro v k hv
    refine (ld_fetch (cnt := q.cnt) (fs := q.fs) hi.tb hi.offs hi.ok hi.gn (by rw [hi.nm]; exact hs0) (by rw [hi.wants]; exact hw) hfs hcnt ⟨φ, hv.drew k⟩).mono ?_
    rintro e w' ⟨y, x, rfl, hf⟩
    rw [hi.nm, ho, hask] at hf
    obtain ⟨rfl, A, c, L', rfl, hrow, φ2, h2⟩ := hf
    rw [hB] at hrow
    rw [hx, hB]
    obtain ⟨J', hle, h3, hp⟩ := row_freeze hrow hBl h2.swap
    exact ⟨A, c, J', rfl, hle, hp, φ2, h3⟩
  have hnf : ∀ v J', NetSt W v J' gn m es q.fs.tail (q.cnt + 1) (ldG g l :: (ldO ρo ++ (ldI ρi ++ F))) → v.cell? ⟨g, 3, none⟩ = some (.pointer (some ⟨ρo.r, 0, none⟩)) ∧ v.cell? ⟨g, 6, none⟩ = some (.int .i64 q.wants) := by
    rintro v J' ⟨φ2, hv⟩
    obtain ⟨c3, _, c6, _, _⟩ := ld_all hv
    rw [hi.lo, ← hi.r_o] at c3
    rw [hi.wants] at c6
    exact ⟨c3, c6⟩
  have hsend : ∀ v J' A c k, NetSt W v J' gn m es q.fs.tail (q.cnt + 1) (ldG g l :: (ldO ρo ++ (ldI ρi ++ F))) → Calls Tryd.prog 40 #[.pointer (some ⟨ρo.r, 0, none⟩), .agg #[.int .i64 q.wants, .slice A B.length c]] (v.drewN k) fun e w' => e = .returned (.bool true) ∧ NetSt W w' J' gn m es q.fs.tail (q.cnt + 1) (ldG g l :: (ldO (ρo.send ⟨q.wants, A, B.length, c⟩) ++ (ldI ρi ++ F))) := by
    rintro v J' A c k ⟨φ2, hv⟩
    refine (send_pc ρo hi.qo ⟨q.wants, A, B.length, c⟩ (hv.drew k).toO hrm).mono ?_
    rintro e w' ⟨rfl, h2⟩
    exact ⟨rfl, φ2, h2.ofO⟩
  have hnf2 : ∀ v J' ρ, NetSt W v J' gn m es q.fs.tail (q.cnt + 1) (ldG g l :: (ldO ρ ++ (ldI ρi ++ F))) → v.cell? ⟨g, 3, none⟩ = some (.pointer (some ⟨ρo.r, 0, none⟩)) ∧ v.cell? ⟨g, 6, none⟩ = some (.int .i64 q.wants) := by
    rintro v J' ρ ⟨φ2, hv⟩
    obtain ⟨c3, _, c6, _, _⟩ := ld_all hv
    rw [hi.lo, ← hi.r_o] at c3
    rw [hi.wants] at c6
    exact ⟨c3, c6⟩
  have hon : ∀ v J' A c, Le J J' → POk ⟨A, c, B⟩ W J' → NetSt W v J' gn m es q.fs.tail (q.cnt + 1) (ldG g l :: (ldO (ρo.send ⟨q.wants, A, B.length, c⟩) ++ (ldI ρi ++ F))) → Calls Tryd.prog 41 #[.pointer (some ⟨g, 0, none⟩)] v fun e w' => e = .returned (.tuple #[]) ∧
      StepPost W J g gn m es name ro ri n ni F true { q with fs := q.fs.tail, cnt := q.cnt + 1, out := q.out ++ [(q.wants, B)], wants := q.nextQ } (.returned (.bool true)) w' := by
    rintro v J' A c hle hp ⟨φ2, hv⟩
    have ok' := hi.ok.mono hle
    refine (ld_on ok' (by rw [hi.wants]; exact hw) hv.toG).mono ?_
    rintro e w' ⟨rfl, h2⟩
    refine ⟨rfl, J', hle, rfl, l.onL, ρo.send ⟨q.wants, A, B.length, c⟩, ρi, hi.put hle ?_ rfl rfl rfl rfl hi.left hi.known (next_eq hi.known hi.wants) hi.err rfl ((hi.out.mono hle).add q.wants ⟨A, c, B⟩ hp) ?_ rfl rfl, hni, φ2, h2.ofG⟩
    · refine ⟨ok'.left, ok'.known, ?_⟩
      show nextW l.known l.wants = -2 ∨ (l.known = none ∧ nextW l.known l.wants = -1) ∨ (∃ k, l.known = some k ∧ 0 ≤ nextW l.known l.wants ∧ nextW l.known l.wants < k.m.n)
      have hw3 := ok'.wants
      cases hk : l.known with
      | none => exact .inl rfl
      | some kk =>
        rw [hk] at hw3
        simp only [nextW]
        split
        · exact .inl rfl
        · rename_i hne
          rcases hw3 with h0 | ⟨h0, _⟩ | ⟨k2, h0, h1, h2⟩
          · exact absurd (hi.wants ▸ h0) hw
          · cases h0
          · injection h0 with h0
            subst h0
            exact .inr (.inr ⟨_, rfl, by omega, by omega⟩)
    · exact Qing.send_ok hi.qo _ (by have h1 := hi.out.len; have h2 := hi.n; omega)
  have HS := Lib.hid hs; have HR := Lib.hid hrecv; have FA := Lib.hid hfa; have HRO := Lib.hid hroom; have HFE := Lib.hid hfe; have NF := Lib.hid hnf; have HSD := Lib.hid hsend; have NF2 := Lib.hid hnf2; have HON := Lib.hid hon
  clear hs hrecv hfa hi hni hxs hroom hw hn hfe ho hx hask hnf hsend hnf2 hon hrm hB hBl
  go_enter Tryd.func13, Tryd.ntmps13
  go_wp2_with (first | (go_at_call 36; refine (HR.out _ HS.out).mono ?_; rintro e w1 ⟨rfl, h1⟩; obtain ⟨d3, d6, d7⟩ := FA.out _ h1; have H1 := Lib.hid h1; clear h1) | (go_at_call 38; refine (HRO.out _ H1.out).mono ?_; rintro e w2 ⟨rfl, k2, rfl⟩) | (go_at_call 39; refine (HFE.out _ _ H1.out).mono ?_; rintro e w3 ⟨A, c, J', rfl, hle, hp, h3⟩; obtain ⟨e3, e6⟩ := NF.out _ _ h3; have H3 := Lib.hid h3; have HLE := Lib.hid hle; have HP := Lib.hid hp; clear h3 hle hp))
  clear c3 c4 c6 c7 d3 d6 d7 f7
  go_region_held3 (fun w' => w'.cell? ⟨g, 3, none⟩ = some (.pointer (some ⟨ρo.r, 0, none⟩)) ∧ w'.cell? ⟨g, 6, none⟩ = some (.int .i64 q.wants)) (first | exact ⟨e3, e6⟩ | assumption) (first | (go_at_call 40; refine (HSD.out _ _ _ _ _ H3.out).mono ?_; rintro e w5 ⟨rfl, h5⟩; have S5 := NF2.out _ _ _ h5; have H5 := Lib.hid h5; clear h5))
  go_wp2_with (go_at_call 41; refine (HON.out _ _ _ _ HLE.out HP.out (by first | exact H5.out | exact H5.out.drew1 | exact H5.out.drewN _)).mono ?_; rintro e w6 ⟨rfl, h6⟩; have H6 := Lib.hid h6; clear h6)
  go_ret
  exact H6.out

theorem stepQ_err (o : Option (List UInt8)) (h : q.err ≠ 0) : q.stepQ o n = (false, q) := if_pos h
theorem stepQ_told (o : Option (List UInt8)) (he : q.err = 0) {t : Nt} {rest : List Nt} (hq : q.inn = t :: rest) : q.stepQ o n = (true, ({ q with inn := rest } : LQ).followQ t) := by
  cases q; simp only at he hq; subst he; subst hq; simp [LQ.stepQ]
theorem stepQ_rest (o : Option (List UInt8)) (he : q.err = 0) (hq : q.inn = []) (hc : q.wants = -2 ∨ n ≤ q.out.length) : q.stepQ o n = (false, q) := by
  cases q; simp only at he hq hc; subst he; subst hq; simp [LQ.stepQ, hc]
theorem stepQ_none (he : q.err = 0) (hq : q.inn = []) (hc : ¬ (q.wants = -2 ∨ n ≤ q.out.length)) : q.stepQ none n = (true, { q with err := 182 }) := by
  cases q; simp only at he hq hc; subst he; subst hq; simp only [LQ.stepQ]; rw [if_neg (by decide), if_neg hc]
theorem stepQ_sent (bs : List UInt8) (he : q.err = 0) (hq : q.inn = []) (hc : ¬ (q.wants = -2 ∨ n ≤ q.out.length)) (hx : (fetched bs (first q.fs) q.askQ.1 q.askQ.2).2 = 0) :
    q.stepQ (some bs) n = (true, { q with fs := q.fs.tail, cnt := q.cnt + 1, out := q.out ++ [(q.wants, (fetched bs (first q.fs) q.askQ.1 q.askQ.2).1)], wants := q.nextQ }) := by
  cases q; simp only at he hq hc hx; subst he; subst hq; simp only [LQ.stepQ]; rw [if_neg (by decide), if_neg hc, if_pos hx]
theorem stepQ_lost (bs : List UInt8) (he : q.err = 0) (hq : q.inn = []) (hc : ¬ (q.wants = -2 ∨ n ≤ q.out.length)) (hx : ¬ (fetched bs (first q.fs) q.askQ.1 q.askQ.2).2 = 0) :
    q.stepQ (some bs) n = (true, ({ q with fs := q.fs.tail, cnt := q.cnt + 1 } : LQ).tryQ) := by
  cases q; simp only at he hq hc hx; subst he; subst hq; simp only [LQ.stepQ]; rw [if_neg (by decide), if_neg hc, if_neg hx]
theorem lookP_in {p : Part} : ∀ (es : List (ByteArray × Part)) k, lookP es k = some p → ∃ e ∈ es, e.2 = p
  | [], k, h => by cases h
  | (k', p') :: es, k, h => by
    unfold lookP at h
    split at h
    · injection h with h; exact ⟨_, List.mem_cons_self .., h⟩
    · obtain ⟨e, hm, he⟩ := lookP_in es k h; exact ⟨e, List.mem_cons_of_mem _ hm, he⟩

/-- One step of it. -/
theorem ld_step (h : LdSt W w J g gn m es name ro ri n ni q F) (hs0 : name.size ≤ 1000000) (hfs : q.fs.length ≤ 1000000) (hcnt : q.cnt ≤ 1000000000) :
    Calls Tryd.prog 13 #[.pointer (some ⟨g, 0, none⟩)] w (StepPost W J g gn m es name ro ri n ni F (q.stepQ ((offOf es name).map (·.bs)) n).1 (q.stepQ ((offOf es name).map (·.bs)) n).2) := by
  have hoffs : Offs W J es := by obtain ⟨l, ρo, ρi, hi, _⟩ := h; exact hi.offs
  by_cases he : q.err = 0
  · cases hq : q.inn with
    | cons t rest => rw [stepQ_told _ he hq]; exact step_told h he hq
    | nil =>
      by_cases hc : q.wants = -2 ∨ n ≤ q.out.length
      · rw [stepQ_rest _ he hq hc]
        by_cases hw : q.wants = -2
        · exact step_done h he hq hw
        · exact step_full h he hq hw (by rcases hc with h1 | h1; exact absurd h1 hw; exact h1)
      · have hw : q.wants ≠ -2 := fun x => hc (.inl x)
        have hn : q.out.length < n := by omega
        cases ho : offOf es name with
        | none => rw [Option.map_none, stepQ_none he hq hc]; exact step_none h he hq hw hn hs0 hfs hcnt ho
        | some p =>
          rw [Option.map_some]
          rcases fetched_e2 p.bs (first q.fs) q.askQ.1 q.askQ.2 with hx | hx
          · rw [stepQ_sent _ he hq hc hx]
            obtain ⟨e, hm, he'⟩ := lookP_in _ _ ho
            exact step_sent h he hq hw hn hs0 hfs hcnt p ho (by rw [← he']; exact (hoffs e hm).len) hx
          · rw [stepQ_lost _ he hq hc (by rw [hx]; decide)]
            exact step_lost h he hq hw hn hs0 hfs hcnt p ho hx
  · rw [stepQ_err _ he]
    exact step_err h he
end
end
end Go.Proofs.YtnhlpiomfljlcaaDoor
