/- CallSays: names, what is joined. call: a job's status in words: walk. call: what is said of a reply: walk. -/
import Derived.Test.YtjcekmmieihllaaDoorCaV
import Derived.Test.YtjcekmmieihllaaDoorSlX
import Derived.Deep.RegionWith
import Derived.Deep.RegionHeld3
import Derived.Deep.MidRow
namespace Go.Proofs.YtjcekmmieihllaaDoor
section
set_option linter.unusedVariables false
set_option linter.unusedSimpArgs false
set_option linter.unnecessarySimpa false
open Go.RowKit Go.Lib

def nameOf (i : Int) : List UInt8 := if i = 0 then [97] else if i = 1 then [98] else []
def statesL : List (List UInt8) := [[110, 111, 110, 101], [108, 105, 118, 101], [100, 111, 110, 101], [102, 97, 105, 108, 101, 100], [99, 97, 110, 99, 101, 108, 108, 101, 100]]
/-- A job's state in words. -/
def stateOf (r : Rp) : List UInt8 := if 0 ≤ r.state ∧ r.state < 5 then (if r.state = 3 then statesL.getD 3 [] ++ ([32] ++ Lib.itoa r.fault) else statesL.getD r.state.toNat []) else [63]
def statusS (r : Rp) : List UInt8 := ([106, 111, 98, 32] ++ (Lib.itoa r.job ++ ([32] ++ stateOf r))) ++ ([59, 32] ++ (([97, 58, 32] ++ textS r.s0) ++ ([59, 32] ++ (([98, 58, 32] ++ textS r.s1) ++ ([59, 32] ++ (([97, 99, 116, 105, 118, 101, 32] ++ nameOf r.act) ++ ([59, 32] ++ (([98, 111, 111, 116, 101, 100, 32] ++ nameOf r.boo) ++ ([59, 32] ++ ([102, 108, 111, 111, 114, 32] ++ Lib.decDigits r.flo.toNat))))))))))
def sayS (c : Cl) (r : Rp) : List UInt8 := if r.err ≠ 0 then [101, 114, 114, 111, 114, 32] ++ Lib.itoa r.err else if c.kind = 1 then [106, 111, 98, 32] ++ Lib.itoa r.job else if c.kind = 6 then [115, 108, 111, 116, 32] ++ nameOf r.slot else if c.kind = 3 then statusS r else [111, 107]
section
variable {W w : World} {I : Nat → Option Obj} {F : List (Nat × Obj)}
set_option maxRecDepth 100000 in
set_option maxHeartbeats 4000000 in
theorem slot_name (n0 : roCell I ⟨1, 0, none⟩ = some (.string ⟨#[97]⟩)) (n1 : roCell I ⟨1, 1, none⟩ = some (.string ⟨#[98]⟩)) (i : Int) (h : St W w I F) :
    Calls Tryd.prog 44 #[.int .i64 i] w fun e w' => e = .returned (.string ⟨(nameOf i).toArray⟩) ∧ St W w' I F := by
  have hc0 : w.cell? ⟨1, 0, none⟩ = some (.string ⟨#[97]⟩) := h.ro n0
  have hc1 : w.cell? ⟨1, 1, none⟩ = some (.string ⟨#[98]⟩) := h.ro n1
  have H0 := Lib.hid h
  clear h n0 n1
  by_cases c0 : i < 0
  · have hn : nameOf i = [] := by unfold nameOf; rw [if_neg (by omega), if_neg (by omega)]
    rw [hn]
    clear hn
    go_enter Tryd.func44, Tryd.ntmps44
    go_wp2_with fail
    go_ret
    exact ⟨rfl, H0.out⟩
  by_cases c1 : (2 : Int) ≤ i
  · have hn : nameOf i = [] := by unfold nameOf; rw [if_neg (by omega), if_neg (by omega)]
    rw [hn]
    clear hn
    go_enter Tryd.func44, Tryd.ntmps44
    go_wp2_with fail
    go_ret
    exact ⟨rfl, H0.out⟩
  rcases (by omega : i = 0 ∨ i = 1) with rfl | rfl
  · clear c0 c1
    go_enter Tryd.func44, Tryd.ntmps44
    go_wp2_with fail
    go_ret
    exact ⟨rfl, H0.out⟩
  · clear c0 c1
    go_enter Tryd.func44, Tryd.ntmps44
    go_wp2_with fail
    go_ret
    exact ⟨rfl, H0.out⟩
set_option maxRecDepth 100000 in
set_option maxHeartbeats 4000000 in
theorem cref_name (i : Int) (h : St W w I F) :
    Calls Tryd.prog 46 #[.int .i64 i] w fun e w' => e = .returned (.string ⟨(nameOf i).toArray⟩) ∧ St W w' I F := by
  have H0 := Lib.hid h
  clear h
  by_cases c0 : i = 0
  · subst c0
    go_enter Tryd.func46, Tryd.ntmps46
    go_wp2_with fail
    go_ret
    exact ⟨rfl, H0.out⟩
  by_cases c1 : i = 1
  · subst c1
    clear c0
    go_enter Tryd.func46, Tryd.ntmps46
    go_wp2_with fail
    go_ret
    exact ⟨rfl, H0.out⟩
  have hn : nameOf i = [] := by unfold nameOf; rw [if_neg c0, if_neg c1]
  rw [hn]
  have q0 : (i == 0) = false := beq_eq_false_iff_ne.2 c0
  have q1 : (i == 1) = false := beq_eq_false_iff_ne.2 c1
  clear hn c0 c1
  go_enter Tryd.func46, Tryd.ntmps46
  go_wp2_with fail
  go_ret
  exact ⟨rfl, H0.out⟩
set_option maxRecDepth 100000 in
/-- Six texts in a new row, joined. -/
theorem join6 (a b c d e f : List UInt8) (hl : a.length + b.length + c.length + d.length + e.length + f.length ≤ 100000000000) (h : St W w I F) :
    Calls Tryd.prog 65 #[.slice (some ⟨w.heap.size, 0, none⟩) 6 6, .string ⟨#[59, 32]⟩] (w.alloc (.cells #[.string ⟨a.toArray⟩, .string ⟨b.toArray⟩, .string ⟨c.toArray⟩, .string ⟨d.toArray⟩, .string ⟨e.toArray⟩, .string ⟨f.toArray⟩] 9)) fun x w' => x = .returned (.string ⟨(a ++ ([59, 32] ++ (b ++ ([59, 32] ++ (c ++ ([59, 32] ++ (d ++ ([59, 32] ++ (e ++ ([59, 32] ++ f)))))))))).toArray⟩) ∧ St W w' I F := by
  have hj : Lib.join ([(⟨a.toArray⟩ : ByteArray), ⟨b.toArray⟩, ⟨c.toArray⟩, ⟨d.toArray⟩, ⟨e.toArray⟩, ⟨f.toArray⟩].map (·.data.toList)) (⟨#[59, 32]⟩ : ByteArray).data.toList = a ++ ([59, 32] ++ (b ++ ([59, 32] ++ (c ++ ([59, 32] ++ (d ++ ([59, 32] ++ (e ++ ([59, 32] ++ f))))))))) := by
    simp only [List.map_cons, List.map_nil]
    rw [Lib.join_cons]
    simp [Lib.joinTail]
  have k := Tryd.strings_Join w.heap.size 0 6 [⟨a.toArray⟩, ⟨b.toArray⟩, ⟨c.toArray⟩, ⟨d.toArray⟩, ⟨e.toArray⟩, ⟨f.toArray⟩] ⟨#[59, 32]⟩ (w.alloc (.cells #[.string ⟨a.toArray⟩, .string ⟨b.toArray⟩, .string ⟨c.toArray⟩, .string ⟨d.toArray⟩, .string ⟨e.toArray⟩, .string ⟨f.toArray⟩] 9))
    (fun j x hx => by
      rw [World.cell?_alloc_new, Nat.zero_add]
      match j, hx with
      | 0, hx => simp at hx; subst hx; rfl
      | 1, hx => simp at hx; subst hx; rfl
      | 2, hx => simp at hx; subst hx; rfl
      | 3, hx => simp at hx; subst hx; rfl
      | 4, hx => simp at hx; subst hx; rfl
      | 5, hx => simp at hx; subst hx; rfl
      | j + 6, hx => simp at hx)
    (by simp) (by simp) (by simp) (by rw [hj]; simp; omega)
  rw [hj] at k
  exact k.mono fun x w' ⟨hx, hb⟩ => ⟨hx, (h.alloc_ _).belowTo hb⟩
end
end

section
set_option linter.unusedVariables false
set_option linter.unusedSimpArgs false
set_option linter.unnecessarySimpa false
open Go.RowKit Go.Lib

/-- What lies in memory for what is said. -/
structure YV (W : World) (I : Nat → Option Obj) : Prop where
  cv : CV W I
  sv : SV W I
  n0 : roCell I ⟨1, 0, none⟩ = some (.string ⟨#[97]⟩)
  n1 : roCell I ⟨1, 1, none⟩ = some (.string ⟨#[98]⟩)
  states : ∀ i z, statesL[i]? = some z → roCell I ⟨2, i, none⟩ = some (.string ⟨z.toArray⟩)
theorem dec_le : ∀ (k u : Nat), u < 10 ^ (k + 1) → (Lib.decDigits u).length ≤ k + 1
  | 0, u, h => by
    rw [Lib.decDigits, dif_pos (by omega)]
    simp
  | k + 1, u, h => by
    rw [Lib.decDigits]
    split
    · simp
    · rw [List.length_append, List.length_singleton]
      have := dec_le k (u / 10) (by rw [Nat.pow_succ] at h; omega)
      omega
theorem word_le (i : Int) : (wordL i).length ≤ 5 := by
  unfold wordL
  repeat' split
  all_goals simp
theorem text_le (s : Slt) (ok : s.Ok) : (textS s).length ≤ 1000 := by
  have h1 := dec_le 19 s.ver.toNat (by have := ok.ver0; have := ok.ver1; omega)
  have h2 := dec_le 19 s.sz.toNat (by have := ok.sz0; have := ok.sz1; omega)
  have h3 := dec_le 19 s.tr.toNat (by have := ok.tr0; have := ok.tr1; omega)
  have h4 := word_le s.st
  have h5 := word_le 2
  have h6 := word_le 3
  have h7 := textOf_len s.dig
  have h8 := ok.dig
  unfold textS imgL
  repeat' split
  all_goals
    (try simp only [List.length_append, List.length_cons, List.length_nil])
    omega
theorem itoa_len (n : Int) (h0 : -9223372036854775808 ≤ n) (h1 : n ≤ 9223372036854775807) : (Lib.itoa n).length ≤ 21 := by
  unfold Lib.itoa
  split
  · have := dec_le 19 n.natAbs (by omega)
    rw [List.length_cons]
    omega
  · have := dec_le 19 n.toNat (by omega)
    omega
theorem nameOf_len (i : Int) : (nameOf i).length ≤ 1 := by
  unfold nameOf
  repeat' split
  all_goals simp
theorem stateOf_len (r : Rp) (ok : r.Ok) : (stateOf r).length ≤ 50 := by
  have h := itoa_len r.fault ok.f0 ok.f1
  unfold stateOf
  split
  · split
    · simp [statesL]
      omega
    · rcases (by omega : r.state.toNat = 0 ∨ r.state.toNat = 1 ∨ r.state.toNat = 2 ∨ r.state.toNat = 3 ∨ r.state.toNat = 4) with h | h | h | h | h <;> rw [h] <;> simp [statesL]
  · simp
/-- A table as a reply holds it. -/
def Rp.tab (r : Rp) : Array Value := (r.s0.cells.toList ++ (r.s1.cells.toList ++ [Value.int .i64 r.act, Value.int .i64 r.boo, Value.int .u64 r.flo])).toArray
theorem Rp.tab_size (r : Rp) (ok : r.Ok) : r.tab.size = 75 := by
  have h0 := Slt.size ok.s0.dig
  have h1 := Slt.size ok.s1.dig
  unfold Rp.tab
  rw [List.size_toArray]
  simp only [List.length_append, List.length_cons, List.length_nil, Array.length_toList]
  omega
theorem Rp.tab_at (r : Rp) (j : Nat) : r.cells[5 + j]? = r.tab[j]? := by
  unfold Rp.cells Rp.list Rp.tab
  rw [List.getElem?_toArray, List.getElem?_append_right (by simp), List.getElem?_toArray]
  congr 1
  simp
theorem Rp.tab_one (r : Rp) : r.tab.all (·.oneCell') = true := by
  have h0 := Slt.one r.s0
  have h1 := Slt.one r.s1
  unfold Rp.tab
  rw [List.all_toArray, List.all_append, List.all_append]
  rw [← Array.all_toList] at h0 h1
  rw [h0, h1]
  rfl
theorem Rp.tab_s0 (r : Rp) (ok : r.Ok) : ∀ j, j < r.s0.cells.toList.length → r.tab[0 + j]? = r.s0.cells.toList[j]? := fun j hj => by
  unfold Rp.tab
  rw [Nat.zero_add, List.getElem?_toArray, List.getElem?_append_left hj]
theorem Rp.tab_s1 (r : Rp) (ok : r.Ok) : ∀ j, j < r.s1.cells.toList.length → r.tab[36 + j]? = r.s1.cells.toList[j]? := fun j hj => by
  have h0 : r.s0.cells.toList.length = 36 := by rw [Array.length_toList]; exact Slt.size ok.s0.dig
  unfold Rp.tab
  rw [List.getElem?_toArray, List.getElem?_append_right (by omega), h0, List.getElem?_append_left (by omega)]
  congr 1
  omega
theorem Rp.tab_end (r : Rp) (ok : r.Ok) : r.tab[72]? = some (.int .i64 r.act) ∧ r.tab[73]? = some (.int .i64 r.boo) ∧ r.tab[74]? = some (.int .u64 r.flo) := by
  have h0 : r.s0.cells.toList.length = 36 := by rw [Array.length_toList]; exact Slt.size ok.s0.dig
  have h1 : r.s1.cells.toList.length = 36 := by rw [Array.length_toList]; exact Slt.size ok.s1.dig
  unfold Rp.tab
  refine ⟨?_, ?_, ?_⟩ <;> rw [List.getElem?_toArray, List.getElem?_append_right (by omega), List.getElem?_append_right (by omega), h0, h1] <;> rfl
theorem Rp.at_ (r : Rp) : r.cells[0]? = some (.int .i64 r.err) ∧ r.cells[1]? = some (.int .i64 r.job) ∧ r.cells[2]? = some (.int .i64 r.state) ∧ r.cells[3]? = some (.int .i64 r.slot) ∧ r.cells[4]? = some (.int .i64 r.fault) := ⟨rfl, rfl, rfl, rfl, rfl⟩
theorem tab_info (r : Rp) (ok : r.Ok) : (Tryd.prog.info? 42).map (·.size) = some r.tab.size := by rw [r.tab_size ok]; kernel_rfl
section
variable {W w : World} {I : Nat → Option Obj} {F : List (Nat × Obj)}
set_option maxRecDepth 100000 in
set_option maxHeartbeats 16000000 in
theorem ustatus (y : YV W I) (r : Rp) (ok : r.Ok) (h : St W w I F) :
    Calls Tryd.prog 45 #[.agg r.cells] w fun e w' => e = .returned (.string ⟨(statusS r).toArray⟩) ∧ St W w' I F := by
  have h0 := h.alloc (.cells r.cells 44)
  obtain ⟨b, hb⟩ : ∃ b, w.heap.size = b := ⟨_, rfl⟩
  rw [hb] at h0
  have kI := fun (n : Int) (n0 : -9223372036854775808 ≤ n) (n1 : n ≤ 9223372036854775807) (v : World) (F : List (Nat × Obj)) (hv : St W v I F) => itoa_any y.cv.t10 y.cv.t.le n n0 n1 hv
  have kT0 := fun (v : World) (F : List (Nat × Obj)) (hv : St W v I F) => slot_text y.sv r.s0 ok.s0 hv
  have kT1 := fun (v : World) (F : List (Nat × Obj)) (hv : St W v I F) => slot_text y.sv r.s1 ok.s1 hv
  have kN := fun (i : Int) (v : World) (F : List (Nat × Obj)) (hv : St W v I F) => slot_name y.n0 y.n1 i hv
  have kF : ∀ (v : World) (F : List (Nat × Obj)), St W v I F → Calls Tryd.prog 67 #[.int .u64 r.flo, .int .i64 10] v fun e w' => e = .returned (.string ⟨(Lib.decDigits r.flo.toNat).toArray⟩) ∧ St W w' I F := fun v F hv => by
    have h := fmtU y.cv.t10 y.cv.t.le r.flo.toNat (by have := ok.o0; have := ok.o1; omega) hv
    rwa [show ((r.flo.toNat : Nat) : Int) = r.flo by have := ok.o0; omega] at h
  have kJ := fun (v : World) (F : List (Nat × Obj)) (hv : St W v I F) => join6 ([106, 111, 98, 32] ++ Lib.itoa r.job ++ [32] ++ stateOf r) ([97, 58, 32] ++ textS r.s0) ([98, 58, 32] ++ textS r.s1) ([97, 99, 116, 105, 118, 101, 32] ++ nameOf r.act) ([98, 111, 111, 116, 101, 100, 32] ++ nameOf r.boo) ([102, 108, 111, 111, 114, 32] ++ Lib.decDigits r.flo.toNat) (by
    have := itoa_len r.job ok.j0 ok.j1; have := stateOf_len r ok; have := text_le r.s0 ok.s0; have := text_le r.s1 ok.s1; have := nameOf_len r.act; have := nameOf_len r.boo; have := dec_le 19 r.flo.toNat (by have := ok.o0; have := ok.o1; omega)
    simp only [List.length_append, List.length_cons, List.length_nil]
    omega) hv
  have hfin : (⟨(([106, 111, 98, 32] ++ Lib.itoa r.job ++ [32] ++ stateOf r) ++ ([59, 32] ++ (([97, 58, 32] ++ textS r.s0) ++ ([59, 32] ++ (([98, 58, 32] ++ textS r.s1) ++ ([59, 32] ++ (([97, 99, 116, 105, 118, 101, 32] ++ nameOf r.act) ++ ([59, 32] ++ (([98, 111, 111, 116, 101, 100, 32] ++ nameOf r.boo) ++ ([59, 32] ++ ([102, 108, 111, 111, 114, 32] ++ Lib.decDigits r.flo.toNat))))))))))).toArray⟩ : ByteArray) = ⟨(statusS r).toArray⟩ := by
    unfold statusS
    simp only [List.append_assoc]
  have l0 := itoa_len r.job ok.j0 ok.j1
  have l1 := stateOf_len r ok
  have l2 := text_le r.s0 ok.s0
  have l3 := text_le r.s1 ok.s1
  have l4 := nameOf_len r.act
  have l5 := nameOf_len r.boo
  have l6 := dec_le 19 r.flo.toNat (by have := ok.o0; have := ok.o1; omega)
  have s1 := ba_app [106, 111, 98, 32] (Lib.itoa r.job)
  have s2 := ba_app ([106, 111, 98, 32] ++ Lib.itoa r.job) [32]
  have s3 := ba_app ([106, 111, 98, 32] ++ Lib.itoa r.job ++ [32]) (stateOf r)
  have s4 := ba_app [97, 58, 32] (textS r.s0)
  have s5 := ba_app [98, 58, 32] (textS r.s1)
  have s6 := ba_app [97, 99, 116, 105, 118, 101, 32] (nameOf r.act)
  have s7 := ba_app [98, 111, 111, 116, 101, 100, 32] (nameOf r.boo)
  have s8 := ba_app [102, 108, 111, 111, 114, 32] (Lib.decDigits r.flo.toNat)
  have z1 : ¬ (9223372036854775807 < 4 + (⟨(Lib.itoa r.job).toArray⟩ : ByteArray).size) := by rw [ba_size]; omega
  have z2 : ¬ (9223372036854775807 < (⟨([106, 111, 98, 32] ++ Lib.itoa r.job).toArray⟩ : ByteArray).size + 1) := by rw [ba_size, List.length_append]; simp; omega
  have z3 : ¬ (9223372036854775807 < (⟨([106, 111, 98, 32] ++ Lib.itoa r.job ++ [32]).toArray⟩ : ByteArray).size + (⟨(stateOf r).toArray⟩ : ByteArray).size) := by rw [ba_size, ba_size, List.length_append, List.length_append]; simp; omega
  have z4 : ¬ (9223372036854775807 < 3 + (⟨(textS r.s0).toArray⟩ : ByteArray).size) := by rw [ba_size]; omega
  have z5 : ¬ (9223372036854775807 < 3 + (⟨(textS r.s1).toArray⟩ : ByteArray).size) := by rw [ba_size]; omega
  have z6 : ¬ (9223372036854775807 < 7 + (⟨(nameOf r.act).toArray⟩ : ByteArray).size) := by rw [ba_size]; omega
  have z7 : ¬ (9223372036854775807 < 7 + (⟨(nameOf r.boo).toArray⟩ : ByteArray).size) := by rw [ba_size]; omega
  have z8 : ¬ (9223372036854775807 < 6 + (⟨(Lib.decDigits r.flo.toNat).toArray⟩ : ByteArray).size) := by rw [ba_size]; omega
  have kIj := kI r.job ok.j0 ok.j1
  have kIf := kI r.fault ok.f0 ok.f1
  have kNa := kN r.act
  have kNb := kN r.boo
  obtain ⟨bj, hbj⟩ : ∃ x, (⟨(Lib.itoa r.job).toArray⟩ : ByteArray) = x := ⟨_, rfl⟩
  obtain ⟨b1, hb1⟩ : ∃ x, (⟨([106, 111, 98, 32] ++ Lib.itoa r.job).toArray⟩ : ByteArray) = x := ⟨_, rfl⟩
  obtain ⟨b2, hb2⟩ : ∃ x, (⟨([106, 111, 98, 32] ++ Lib.itoa r.job ++ [32]).toArray⟩ : ByteArray) = x := ⟨_, rfl⟩
  obtain ⟨b3, hb3⟩ : ∃ x, (⟨([106, 111, 98, 32] ++ Lib.itoa r.job ++ [32] ++ stateOf r).toArray⟩ : ByteArray) = x := ⟨_, rfl⟩
  obtain ⟨bst, hbst⟩ : ∃ x, (⟨(stateOf r).toArray⟩ : ByteArray) = x := ⟨_, rfl⟩
  obtain ⟨bt0, hbt0⟩ : ∃ x, (⟨(textS r.s0).toArray⟩ : ByteArray) = x := ⟨_, rfl⟩
  obtain ⟨ba, hba⟩ : ∃ x, (⟨([97, 58, 32] ++ textS r.s0).toArray⟩ : ByteArray) = x := ⟨_, rfl⟩
  obtain ⟨bt1, hbt1⟩ : ∃ x, (⟨(textS r.s1).toArray⟩ : ByteArray) = x := ⟨_, rfl⟩
  obtain ⟨bb, hbb⟩ : ∃ x, (⟨([98, 58, 32] ++ textS r.s1).toArray⟩ : ByteArray) = x := ⟨_, rfl⟩
  obtain ⟨bna, hbna⟩ : ∃ x, (⟨(nameOf r.act).toArray⟩ : ByteArray) = x := ⟨_, rfl⟩
  obtain ⟨bc, hbc⟩ : ∃ x, (⟨([97, 99, 116, 105, 118, 101, 32] ++ nameOf r.act).toArray⟩ : ByteArray) = x := ⟨_, rfl⟩
  obtain ⟨bnb, hbnb⟩ : ∃ x, (⟨(nameOf r.boo).toArray⟩ : ByteArray) = x := ⟨_, rfl⟩
  obtain ⟨bd, hbd⟩ : ∃ x, (⟨([98, 111, 111, 116, 101, 100, 32] ++ nameOf r.boo).toArray⟩ : ByteArray) = x := ⟨_, rfl⟩
  obtain ⟨bf, hbf⟩ : ∃ x, (⟨(Lib.decDigits r.flo.toNat).toArray⟩ : ByteArray) = x := ⟨_, rfl⟩
  obtain ⟨be, hbe⟩ : ∃ x, (⟨([102, 108, 111, 111, 114, 32] ++ Lib.decDigits r.flo.toNat).toArray⟩ : ByteArray) = x := ⟨_, rfl⟩
  rw [hbj, hb1] at s1
  rw [hb1, hb2] at s2
  rw [hb2, hbst, hb3] at s3
  rw [hbt0, hba] at s4
  rw [hbt1, hbb] at s5
  rw [hbna, hbc] at s6
  rw [hbnb, hbd] at s7
  rw [hbf, hbe] at s8
  rw [hbj] at z1
  rw [hb1] at z2
  rw [hb2, hbst] at z3
  rw [hbt0] at z4
  rw [hbt1] at z5
  rw [hbna] at z6
  rw [hbnb] at z7
  rw [hbf] at z8
  simp only [hbj] at kIj
  simp only [hbt0] at kT0
  simp only [hbt1] at kT1
  simp only [hbna] at kNa
  simp only [hbnb] at kNb
  simp only [hbf] at kF
  simp only [hb3, hba, hbb, hbc, hbd, hbe] at kJ
  have hst5 := (r.tab_end ok)
  have htab := fun j (hj : j < r.tab.size) => Rp.tab_at r j
  have inf := tab_info r ok
  have one := r.tab_one
  have tsz := r.tab_size ok
  have ts0 := r.tab_s0 ok
  have ts1 := r.tab_s1 ok
  have is0 : (Tryd.prog.info? 39).map (·.size) = some r.s0.cells.toList.length := by rw [slot_info (s := r.s0) ok.s0.dig, Array.length_toList]
  have is1 : (Tryd.prog.info? 39).map (·.size) = some r.s1.cells.toList.length := by rw [slot_info (s := r.s1) ok.s1.dig, Array.length_toList]
  have hrc := r.at_
  have hsf := stateOf.eq_1 r
  have hstt := y.states
  have st0 := ok.t0
  unfold Slt.val at kT0 kT1
  generalize r.cells = R at *
  generalize r.tab = T at *
  generalize r.s0.cells = C0 at *
  generalize r.s1.cells = C1 at *
  generalize statusS r = X at *
  obtain ⟨bX, hbX⟩ : ∃ x, (⟨X.toArray⟩ : ByteArray) = x := ⟨_, rfl⟩
  rw [hbX] at hfin ⊢
  simp only [hfin] at kJ
  have F1 : Hid ((⟨#[106, 111, 98, 32]⟩ : ByteArray) ++ bj = b1) := Lib.hid s1
  have F2 : Hid (b1 ++ (⟨#[32]⟩ : ByteArray) = b2) := Lib.hid s2
  have F3 := Lib.hid s3
  have F4 : Hid ((⟨#[97, 58, 32]⟩ : ByteArray) ++ bt0 = ba) := Lib.hid s4
  have F5 : Hid ((⟨#[98, 58, 32]⟩ : ByteArray) ++ bt1 = bb) := Lib.hid s5
  have F6 : Hid ((⟨#[97, 99, 116, 105, 118, 101, 32]⟩ : ByteArray) ++ bna = bc) := Lib.hid s6
  have F7 : Hid ((⟨#[98, 111, 111, 116, 101, 100, 32]⟩ : ByteArray) ++ bnb = bd) := Lib.hid s7
  have F8 : Hid ((⟨#[102, 108, 111, 111, 114, 32]⟩ : ByteArray) ++ bf = be) := Lib.hid s8
  have sx : ∀ (b4 : Nat) (v : World) (L : List (Nat × Obj)), St W v I L → (b, Obj.cells R 44 (0, 0)) ∈ L → (b4, Obj.cells T 42 (0, 0)) ∈ L → (v.cell? ⟨b, 1, none⟩ = some (.int .i64 r.job) ∧ v.cell? ⟨b4, 72, none⟩ = some (.int .i64 r.act) ∧ v.cell? ⟨b4, 73, none⟩ = some (.int .i64 r.boo) ∧ v.cell? ⟨b4, 74, none⟩ = some (.int .u64 r.flo) ∧ v.rangeAt b4 0 C0.toList ∧ v.rangeAt b4 36 C1.toList) := fun b4 v L hv m1 m2 => by
    have e1 := hv.cell (g := b) (cs := R) (t := 44) (fr := (0, 0)) m1
    have e2 := hv.cell (g := b4) (cs := T) (t := 42) (fr := (0, 0)) m2
    exact ⟨(e1 1).trans hrc.2.1, (e2 72).trans hst5.1, (e2 73).trans hst5.2.1, (e2 74).trans hst5.2.2, hv.rangeAt (g := b4) (cs := T) (t := 42) (fr := (0, 0)) m2 ts0, hv.rangeAt (g := b4) (cs := T) (t := 42) (fr := (0, 0)) m2 ts1⟩
  have hca : ∀ (v : World) (L : List (Nat × Obj)), St W v I L → (b, Obj.cells R 44 (0, 0)) ∈ L → v.cell? ⟨b, 2, none⟩ = some (.int .i64 r.state) ∧ v.cell? ⟨b, 4, none⟩ = some (.int .i64 r.fault) := fun v L hv m1 => by
    have e1 := hv.cell (g := b) (cs := R) (t := 44) (fr := (0, 0)) m1
    exact ⟨(e1 2).trans hrc.2.2.1, (e1 4).trans hrc.2.2.2.2⟩
  have FZ : Hid (0 + T.size ≤ (Tryd.zeroCells42).size) := Lib.hid (by rw [tsz]; decide)
  have MZ : Hid (setMany Tryd.zeroCells42 0 T.toList = T) := Lib.hid (setMany_whole _ _ (by rw [Array.length_toList, tsz]; rfl))
  have HUL := Lib.hid Tryd.underlying39
  have SX := Lib.hid sx; have HCA := Lib.hid hca; have INF := Lib.hid inf; have ONE := Lib.hid one; have HTAB := Lib.hid htab; have HM0 := Lib.hid is0; have HM1 := Lib.hid is1
  have KIJ := Lib.hid kIj; have KIF := Lib.hid kIf; have KT0 := Lib.hid kT0; have KT1 := Lib.hid kT1; have KNA := Lib.hid kNa; have KNB := Lib.hid kNb; have KF := Lib.hid kF; have KJ := Lib.hid kJ
  have H0 := Lib.hid h0; have HSF := Lib.hid hsf; have HSTT := Lib.hid hstt; have HBST := Lib.hid hbst; have OK := Lib.hid ok
  have d0 := hca _ _ h0 (by simp)
  obtain ⟨d2, d4⟩ := d0
  clear sx hca inf one htab is0 is1 kIj kIf kT0 kT1 kNa kNb kF kJ kN kI h0 hsf hstt ts0 ts1 hst5 hrc tsz hfin hbX s1 s2 s3 s4 s5 s6 s7 s8 l0 l1 l2 l3 l4 l5 l6 hbj hb1 hb2 hb3 hbst hbt0 hba hbt1 hbb hbna hbc hbnb hbd hbf hbe y h ok
  by_cases g0 : 0 ≤ r.state
  · by_cases g5 : r.state < 5
    · obtain ⟨k, hk⟩ : ∃ k : Nat, r.state = (k : Int) := ⟨r.state.toNat, by omega⟩
      have hk5 : k < 5 := by omega
      have hsv : ∀ v L, St W v I L → v.cell? ⟨2, k, none⟩ = some (.string ⟨(statesL.getD k []).toArray⟩) := fun v L hv => hv.ro (HSTT.out k _ (by
        rcases (by omega : k = 0 ∨ k = 1 ∨ k = 2 ∨ k = 3 ∨ k = 4) with h | h | h | h | h <;> rw [h] <;> rfl))
      by_cases g3 : r.state = 3
      · have hk3 : k = 3 := by omega
        subst hk3
        have e := HSF.out
        rw [if_pos ⟨g0, g5⟩, if_pos g3] at e
        have hb9 := HBST.out
        rw [e] at hb9
        have a1 := ba_app [32] (Lib.itoa r.fault)
        have a2 := ba_app (statesL.getD 3 []) ([32] ++ Lib.itoa r.fault)
        have y1 : ¬ (9223372036854775807 < 1 + (⟨(Lib.itoa r.fault).toArray⟩ : ByteArray).size) := by
          have := itoa_len r.fault OK.out.f0 OK.out.f1
          rw [ba_size]; omega
        have y2 : ¬ (9223372036854775807 < (⟨(statesL.getD 3 []).toArray⟩ : ByteArray).size + (⟨([32] ++ Lib.itoa r.fault).toArray⟩ : ByteArray).size) := by
          have := itoa_len r.fault OK.out.f0 OK.out.f1
          rw [ba_size, ba_size, List.length_append]; simp [statesL]; omega
        have d9 := hsv _ _ H0.out
        have kIf := KIF.out
        rw [hb9] at a2
        obtain ⟨bq, hbq⟩ : ∃ x, (⟨(Lib.itoa r.fault).toArray⟩ : ByteArray) = x := ⟨_, rfl⟩
        obtain ⟨bu, hbu⟩ : ∃ x, (⟨([32] ++ Lib.itoa r.fault).toArray⟩ : ByteArray) = x := ⟨_, rfl⟩
        obtain ⟨bw, hbw⟩ : ∃ x, (⟨(statesL.getD 3 []).toArray⟩ : ByteArray) = x := ⟨_, rfl⟩
        simp only [hbq] at kIf
        rw [hbq, hbu] at a1
        rw [hbw, hbu] at a2 y2
        rw [hbq] at y1
        rw [hbw] at d9
        have a3 : (⟨#[32]⟩ : ByteArray) ++ bq = bu := a1
        have KIF2 := Lib.hid kIf
        rw [g3] at d2
        clear hbq hbu hbw hb9 e hsv kIf a1 KIF g0 g5 hk hk5
        go_enter Tryd.func45, Tryd.ntmps45
        go_wp2_with fail
        refine (KIF2.out _ _ H0.out).mono ?_
        rintro e w2 ⟨rfl, h2⟩
        obtain ⟨d2, d4⟩ := HCA.out _ _ h2 (by simp)
        rw [g3] at d2
        have h4 := h2.alloc (.cells Tryd.zeroCells42 42)
        obtain ⟨b4, hb4⟩ : ∃ x, w2.heap.size = x := ⟨_, rfl⟩
        rw [hb4] at h4
        have HX := Lib.hid h2; have H4 := Lib.hid h4
        clear h2 h4 H0 KIF2
        go_wp2_with (first | (with_reducible refine wpList_load_st rfl 42 (.tmp 26) rfl (g := b) (off := 5) rfl HX.out (cs := R) (t := 44) (fr := (0, 0)) (by simp) T HTAB.out _ Tryd.underlying42 rfl INF.out ?_) | (with_reducible refine wpList_store_st rfl 42 (.tmp 4) (.tmp 27) rfl (off := 0) T rfl rfl H4.out FZ.out INF.out ONE.out ?_; intro w5 h5; rw [MZ.out] at h5; have H5 := Lib.hid h5; clear h5))
        have hx := H5.out.drew1
        clear H4 HX
        refine wp_region_held_drew (S := fun v => (v.cell? ⟨b, 1, none⟩ = some (.int .i64 r.job) ∧ v.cell? ⟨b4, 72, none⟩ = some (.int .i64 r.act) ∧ v.cell? ⟨b4, 73, none⟩ = some (.int .i64 r.boo) ∧ v.cell? ⟨b4, 74, none⟩ = some (.int .u64 r.flo) ∧ v.rangeAt b4 0 C0.toList ∧ v.rangeAt b4 36 C1.toList)) (by kernel_rfl) (SX.out _ _ _ hx (by simp) (by simp)) (fun hHeld => ?_)
        refine wpAnyH_take (i := 0) (oi := ?_) (v := ?_) ?_ ?_ ?_ ?_ ?_ ?_ ?_ ?_
        rotate_left 2
        · (simp only [List.getElem?_toArray, List.getElem?_cons_succ, List.getElem?_cons_zero]; exact rfl)
        · kernel_rfl
        · kernel_rfl
        · kernel_rfl
        · exact fun _ _ _ h => h
        · first | (refine Or.inl ⟨by rfl, ?_⟩; intro w hSw; (try dsimp only at hSw); go_simp; try with_reducible rfl) | (refine Or.inr ⟨by rfl, ?_⟩; rfl)
        · assumption
        try simp only [Act.put, List.setIfInBounds_toArray, List.set_cons_zero, List.set_cons_succ]
        try simp only [F1.out, F2.out, F3.out, F4.out, F5.out, F6.out, F7.out, F8.out]
        refine wpAnyH_take (i := 1) (oi := ?_) (v := ?_) ?_ ?_ ?_ ?_ ?_ ?_ ?_ ?_
        rotate_left 2
        · (simp only [List.getElem?_toArray, List.getElem?_cons_succ, List.getElem?_cons_zero]; exact rfl)
        · kernel_rfl
        · kernel_rfl
        · kernel_rfl
        · exact fun _ _ _ h => h
        · first | (first | ((refine yieldsIf_load_mid ?_ 39 (.tmp 36) ?_ b4 0 ?_ C0.toList _ ?_ HUL.out ?_ HM0.out) <;> first | rfl | exact fun w h => h.2.2.2.2.1) | ((refine yieldsIf_load_mid ?_ 39 (.tmp 41) ?_ b4 36 ?_ C1.toList _ ?_ HUL.out ?_ HM1.out) <;> first | rfl | exact fun w h => h.2.2.2.2.2) | (refine Or.inl ⟨by rfl, ?_⟩; intro w hSw; obtain ⟨hS1, hS2, hS3, hS4, hS5, hS6⟩ := hSw; go_simp; try with_reducible rfl)) | (refine Or.inr ⟨by rfl, ?_⟩; rfl)
        · assumption
        try simp only [Act.put, List.setIfInBounds_toArray, List.set_cons_zero, List.set_cons_succ]
        try simp only [F1.out, F2.out, F3.out, F4.out, F5.out, F6.out, F7.out, F8.out]
        refine wpAnyH_take (i := 5) (oi := ?_) (v := ?_) ?_ ?_ ?_ ?_ ?_ ?_ ?_ ?_
        rotate_left 2
        · (simp only [List.getElem?_toArray, List.getElem?_cons_succ, List.getElem?_cons_zero]; exact rfl)
        · kernel_rfl
        · kernel_rfl
        · kernel_rfl
        · exact fun _ _ _ h => h
        · first | (refine Or.inl ⟨by rfl, ?_⟩; intro w hSw; (try dsimp only at hSw); go_simp; try with_reducible rfl) | (refine Or.inr ⟨by rfl, ?_⟩; rfl)
        · assumption
        try simp only [Act.put, List.setIfInBounds_toArray, List.set_cons_zero, List.set_cons_succ]
        try simp only [F1.out, F2.out, F3.out, F4.out, F5.out, F6.out, F7.out, F8.out]
        refine wpAnyH_take (i := 7) (oi := ?_) (v := ?_) ?_ ?_ ?_ ?_ ?_ ?_ ?_ ?_
        rotate_left 2
        · (simp only [List.getElem?_toArray, List.getElem?_cons_succ, List.getElem?_cons_zero]; exact rfl)
        · kernel_rfl
        · kernel_rfl
        · kernel_rfl
        · exact fun _ _ _ h => h
        · first | (refine Or.inl ⟨by rfl, ?_⟩; intro w hSw; (try dsimp only at hSw); go_simp; try with_reducible rfl) | (refine Or.inr ⟨by rfl, ?_⟩; rfl)
        · assumption
        try simp only [Act.put, List.setIfInBounds_toArray, List.set_cons_zero, List.set_cons_succ]
        try simp only [F1.out, F2.out, F3.out, F4.out, F5.out, F6.out, F7.out, F8.out]
        refine wpAnyH_take (i := 8) (oi := ?_) (v := ?_) ?_ ?_ ?_ ?_ ?_ ?_ ?_ ?_
        rotate_left 2
        · (simp only [List.getElem?_toArray, List.getElem?_cons_succ, List.getElem?_cons_zero]; exact rfl)
        · kernel_rfl
        · kernel_rfl
        · kernel_rfl
        · exact fun _ _ _ h => h
        · first | (refine Or.inl ⟨by rfl, ?_⟩; intro w hSw; (try dsimp only at hSw); go_simp; try with_reducible rfl) | (refine Or.inr ⟨by rfl, ?_⟩; rfl)
        · assumption
        try simp only [Act.put, List.setIfInBounds_toArray, List.set_cons_zero, List.set_cons_succ]
        try simp only [F1.out, F2.out, F3.out, F4.out, F5.out, F6.out, F7.out, F8.out]
        refine wpAnyH_take (i := 9) (oi := ?_) (v := ?_) ?_ ?_ ?_ ?_ ?_ ?_ ?_ ?_
        rotate_left 2
        · (simp only [List.getElem?_toArray, List.getElem?_cons_succ, List.getElem?_cons_zero]; exact rfl)
        · kernel_rfl
        · kernel_rfl
        · kernel_rfl
        · exact fun _ _ _ h => h
        · first | (first | ((refine yieldsIf_load_mid ?_ 39 (.tmp 36) ?_ b4 0 ?_ C0.toList _ ?_ HUL.out ?_ HM0.out) <;> first | rfl | exact fun w h => h.2.2.2.2.1) | ((refine yieldsIf_load_mid ?_ 39 (.tmp 41) ?_ b4 36 ?_ C1.toList _ ?_ HUL.out ?_ HM1.out) <;> first | rfl | exact fun w h => h.2.2.2.2.2) | (refine Or.inl ⟨by rfl, ?_⟩; intro w hSw; obtain ⟨hS1, hS2, hS3, hS4, hS5, hS6⟩ := hSw; go_simp; try with_reducible rfl)) | (refine Or.inr ⟨by rfl, ?_⟩; rfl)
        · assumption
        try simp only [Act.put, List.setIfInBounds_toArray, List.set_cons_zero, List.set_cons_succ]
        try simp only [F1.out, F2.out, F3.out, F4.out, F5.out, F6.out, F7.out, F8.out]
        refine wpAnyH_take (i := 12) (oi := ?_) (v := ?_) ?_ ?_ ?_ ?_ ?_ ?_ ?_ ?_
        rotate_left 2
        · (simp only [List.getElem?_toArray, List.getElem?_cons_succ, List.getElem?_cons_zero]; exact rfl)
        · kernel_rfl
        · kernel_rfl
        · kernel_rfl
        · exact fun _ _ _ h => h
        · first | (refine Or.inl ⟨by rfl, ?_⟩; intro w hSw; (try dsimp only at hSw); go_simp; try with_reducible rfl) | (refine Or.inr ⟨by rfl, ?_⟩; rfl)
        · assumption
        try simp only [Act.put, List.setIfInBounds_toArray, List.set_cons_zero, List.set_cons_succ]
        try simp only [F1.out, F2.out, F3.out, F4.out, F5.out, F6.out, F7.out, F8.out]
        refine wpAnyH_take (i := 13) (oi := ?_) (v := ?_) ?_ ?_ ?_ ?_ ?_ ?_ ?_ ?_
        rotate_left 2
        · (simp only [List.getElem?_toArray, List.getElem?_cons_succ, List.getElem?_cons_zero]; exact rfl)
        · kernel_rfl
        · kernel_rfl
        · kernel_rfl
        · exact fun _ _ _ h => h
        · first | (refine Or.inl ⟨by rfl, ?_⟩; intro w hSw; (try dsimp only at hSw); go_simp; try with_reducible rfl) | (refine Or.inr ⟨by rfl, ?_⟩; rfl)
        · assumption
        try simp only [Act.put, List.setIfInBounds_toArray, List.set_cons_zero, List.set_cons_succ]
        try simp only [F1.out, F2.out, F3.out, F4.out, F5.out, F6.out, F7.out, F8.out]
        refine wpAnyH_take (i := 14) (oi := ?_) (v := ?_) ?_ ?_ ?_ ?_ ?_ ?_ ?_ ?_
        rotate_left 2
        · (simp only [List.getElem?_toArray, List.getElem?_cons_succ, List.getElem?_cons_zero]; exact rfl)
        · kernel_rfl
        · kernel_rfl
        · kernel_rfl
        · exact fun _ _ _ h => h
        · first | (first | ((refine yieldsIf_load_mid ?_ 39 (.tmp 36) ?_ b4 0 ?_ C0.toList _ ?_ HUL.out ?_ HM0.out) <;> first | rfl | exact fun w h => h.2.2.2.2.1) | ((refine yieldsIf_load_mid ?_ 39 (.tmp 41) ?_ b4 36 ?_ C1.toList _ ?_ HUL.out ?_ HM1.out) <;> first | rfl | exact fun w h => h.2.2.2.2.2) | (refine Or.inl ⟨by rfl, ?_⟩; intro w hSw; obtain ⟨hS1, hS2, hS3, hS4, hS5, hS6⟩ := hSw; go_simp; try with_reducible rfl)) | (refine Or.inr ⟨by rfl, ?_⟩; rfl)
        · assumption
        try simp only [Act.put, List.setIfInBounds_toArray, List.set_cons_zero, List.set_cons_succ]
        try simp only [F1.out, F2.out, F3.out, F4.out, F5.out, F6.out, F7.out, F8.out]
        refine wpAnyH_take (i := 17) (oi := ?_) (v := ?_) ?_ ?_ ?_ ?_ ?_ ?_ ?_ ?_
        rotate_left 2
        · (simp only [List.getElem?_toArray, List.getElem?_cons_succ, List.getElem?_cons_zero]; exact rfl)
        · kernel_rfl
        · kernel_rfl
        · kernel_rfl
        · exact fun _ _ _ h => h
        · first | (refine Or.inl ⟨by rfl, ?_⟩; intro w hSw; (try dsimp only at hSw); go_simp; try with_reducible rfl) | (refine Or.inr ⟨by rfl, ?_⟩; rfl)
        · assumption
        try simp only [Act.put, List.setIfInBounds_toArray, List.set_cons_zero, List.set_cons_succ]
        try simp only [F1.out, F2.out, F3.out, F4.out, F5.out, F6.out, F7.out, F8.out]
        refine wpAnyH_take (i := 18) (oi := ?_) (v := ?_) ?_ ?_ ?_ ?_ ?_ ?_ ?_ ?_
        rotate_left 2
        · (simp only [List.getElem?_toArray, List.getElem?_cons_succ, List.getElem?_cons_zero]; exact rfl)
        · kernel_rfl
        · kernel_rfl
        · kernel_rfl
        · exact fun _ _ _ h => h
        · first | (first | ((refine yieldsIf_load_mid ?_ 39 (.tmp 36) ?_ b4 0 ?_ C0.toList _ ?_ HUL.out ?_ HM0.out) <;> first | rfl | exact fun w h => h.2.2.2.2.1) | ((refine yieldsIf_load_mid ?_ 39 (.tmp 41) ?_ b4 36 ?_ C1.toList _ ?_ HUL.out ?_ HM1.out) <;> first | rfl | exact fun w h => h.2.2.2.2.2) | (refine Or.inl ⟨by rfl, ?_⟩; intro w hSw; obtain ⟨hS1, hS2, hS3, hS4, hS5, hS6⟩ := hSw; go_simp; try with_reducible rfl)) | (refine Or.inr ⟨by rfl, ?_⟩; rfl)
        · assumption
        try simp only [Act.put, List.setIfInBounds_toArray, List.set_cons_zero, List.set_cons_succ]
        try simp only [F1.out, F2.out, F3.out, F4.out, F5.out, F6.out, F7.out, F8.out]
        refine wpAnyH_take (i := 21) (oi := ?_) (v := ?_) ?_ ?_ ?_ ?_ ?_ ?_ ?_ ?_
        rotate_left 2
        · (simp only [List.getElem?_toArray, List.getElem?_cons_succ, List.getElem?_cons_zero]; exact rfl)
        · kernel_rfl
        · kernel_rfl
        · kernel_rfl
        · exact fun _ _ _ h => h
        · first | (refine Or.inl ⟨by rfl, ?_⟩; intro w hSw; (try dsimp only at hSw); go_simp; try with_reducible rfl) | (refine Or.inr ⟨by rfl, ?_⟩; rfl)
        · assumption
        try simp only [Act.put, List.setIfInBounds_toArray, List.set_cons_zero, List.set_cons_succ]
        try simp only [F1.out, F2.out, F3.out, F4.out, F5.out, F6.out, F7.out, F8.out]
        refine wpAnyH_take (i := 22) (oi := ?_) (v := ?_) ?_ ?_ ?_ ?_ ?_ ?_ ?_ ?_
        rotate_left 2
        · (simp only [List.getElem?_toArray, List.getElem?_cons_succ, List.getElem?_cons_zero]; exact rfl)
        · kernel_rfl
        · kernel_rfl
        · kernel_rfl
        · exact fun _ _ _ h => h
        · first | (first | ((refine yieldsIf_load_mid ?_ 39 (.tmp 36) ?_ b4 0 ?_ C0.toList _ ?_ HUL.out ?_ HM0.out) <;> first | rfl | exact fun w h => h.2.2.2.2.1) | ((refine yieldsIf_load_mid ?_ 39 (.tmp 41) ?_ b4 36 ?_ C1.toList _ ?_ HUL.out ?_ HM1.out) <;> first | rfl | exact fun w h => h.2.2.2.2.2) | (refine Or.inl ⟨by rfl, ?_⟩; intro w hSw; obtain ⟨hS1, hS2, hS3, hS4, hS5, hS6⟩ := hSw; go_simp; try with_reducible rfl)) | (refine Or.inr ⟨by rfl, ?_⟩; rfl)
        · assumption
        try simp only [Act.put, List.setIfInBounds_toArray, List.set_cons_zero, List.set_cons_succ]
        try simp only [F1.out, F2.out, F3.out, F4.out, F5.out, F6.out, F7.out, F8.out]
        refine wpAnyH_take (i := 25) (oi := ?_) (v := ?_) ?_ ?_ ?_ ?_ ?_ ?_ ?_ ?_
        rotate_left 2
        · (simp only [List.getElem?_toArray, List.getElem?_cons_succ, List.getElem?_cons_zero]; exact rfl)
        · kernel_rfl
        · kernel_rfl
        · kernel_rfl
        · exact fun _ _ _ h => h
        · first | (refine Or.inl ⟨by rfl, ?_⟩; intro w hSw; (try dsimp only at hSw); go_simp; try with_reducible rfl) | (refine Or.inr ⟨by rfl, ?_⟩; rfl)
        · assumption
        try simp only [Act.put, List.setIfInBounds_toArray, List.set_cons_zero, List.set_cons_succ]
        try simp only [F1.out, F2.out, F3.out, F4.out, F5.out, F6.out, F7.out, F8.out]
        refine wpAnyH_take (i := 26) (oi := ?_) (v := ?_) ?_ ?_ ?_ ?_ ?_ ?_ ?_ ?_
        rotate_left 2
        · (simp only [List.getElem?_toArray, List.getElem?_cons_succ, List.getElem?_cons_zero]; exact rfl)
        · kernel_rfl
        · kernel_rfl
        · kernel_rfl
        · exact fun _ _ _ h => h
        · first | (first | ((refine yieldsIf_load_mid ?_ 39 (.tmp 36) ?_ b4 0 ?_ C0.toList _ ?_ HUL.out ?_ HM0.out) <;> first | rfl | exact fun w h => h.2.2.2.2.1) | ((refine yieldsIf_load_mid ?_ 39 (.tmp 41) ?_ b4 36 ?_ C1.toList _ ?_ HUL.out ?_ HM1.out) <;> first | rfl | exact fun w h => h.2.2.2.2.2) | (refine Or.inl ⟨by rfl, ?_⟩; intro w hSw; obtain ⟨hS1, hS2, hS3, hS4, hS5, hS6⟩ := hSw; go_simp; try with_reducible rfl)) | (refine Or.inr ⟨by rfl, ?_⟩; rfl)
        · assumption
        try simp only [Act.put, List.setIfInBounds_toArray, List.set_cons_zero, List.set_cons_succ]
        try simp only [F1.out, F2.out, F3.out, F4.out, F5.out, F6.out, F7.out, F8.out]
        refine wpAnyH_ready (rs := [2]) (by kernel_rfl) (by simp) ?_
        refine AllReadyH.cons (o := ?_) ?_ (fun K hK => ?_) ?_
        rotate_left 1
        · (simp only [List.getElem?_toArray, List.getElem?_cons_succ, List.getElem?_cons_zero]; exact rfl)
        · go_simp
          ((first | (go_at_call 34; (with_reducible refine (KIJ.out _ _ hx).mono ?_); rintro e wx ⟨rfl, hx⟩; dsimp only) | (go_at_call 66; (with_reducible refine (KT0.out _ _ hx).mono ?_); rintro e wx ⟨rfl, hx⟩; dsimp only) | (go_at_call 66; (with_reducible refine (KT1.out _ _ hx).mono ?_); rintro e wx ⟨rfl, hx⟩; dsimp only) | (go_at_call 44; (with_reducible refine (KNA.out _ _ hx).mono ?_); rintro e wx ⟨rfl, hx⟩; dsimp only) | (go_at_call 44; (with_reducible refine (KNB.out _ _ hx).mono ?_); rintro e wx ⟨rfl, hx⟩; dsimp only) | (go_at_call 67; (with_reducible refine (KF.out _ _ hx).mono ?_); rintro e wx ⟨rfl, hx⟩; dsimp only) | (go_at_call 65; (with_reducible refine (KJ.out _ _ hx).mono ?_); rintro e wx ⟨rfl, hx⟩; dsimp only)))
          refine hK.out _ _ ?_ (fun hHeld => ?_)
          · (try dsimp only) <;> (first | exact SX.out _ _ _ hx (by simp) (by simp) | exact SX.out _ _ _ (hx.alloc_ _) (by simp) (by simp))
          clear hK K
          try simp only [Act.put, List.setIfInBounds_toArray, List.set_cons_zero, List.set_cons_succ]
          try simp only [F1.out, F2.out, F3.out, F4.out, F5.out, F6.out, F7.out, F8.out]
          refine wpAnyH_take (i := 3) (oi := ?_) (v := ?_) ?_ ?_ ?_ ?_ ?_ ?_ ?_ ?_
          rotate_left 2
          · (simp only [List.getElem?_toArray, List.getElem?_cons_succ, List.getElem?_cons_zero]; exact rfl)
          · kernel_rfl
          · kernel_rfl
          · kernel_rfl
          · exact fun _ _ _ h => h
          · first | (refine Or.inl ⟨by rfl, ?_⟩; intro w hSw; (try dsimp only at hSw); go_simp; try with_reducible rfl) | (refine Or.inr ⟨by rfl, ?_⟩; rfl)
          · assumption
          try simp only [Act.put, List.setIfInBounds_toArray, List.set_cons_zero, List.set_cons_succ]
          try simp only [F1.out, F2.out, F3.out, F4.out, F5.out, F6.out, F7.out, F8.out]
          refine wpAnyH_take (i := 4) (oi := ?_) (v := ?_) ?_ ?_ ?_ ?_ ?_ ?_ ?_ ?_
          rotate_left 2
          · (simp only [List.getElem?_toArray, List.getElem?_cons_succ, List.getElem?_cons_zero]; exact rfl)
          · kernel_rfl
          · kernel_rfl
          · kernel_rfl
          · exact fun _ _ _ h => h
          · first | (refine Or.inl ⟨by rfl, ?_⟩; intro w hSw; (try dsimp only at hSw); go_simp; try with_reducible rfl) | (refine Or.inr ⟨by rfl, ?_⟩; rfl)
          · assumption
          try simp only [Act.put, List.setIfInBounds_toArray, List.set_cons_zero, List.set_cons_succ]
          try simp only [F1.out, F2.out, F3.out, F4.out, F5.out, F6.out, F7.out, F8.out]
          refine wpAnyH_take (i := 6) (oi := ?_) (v := ?_) ?_ ?_ ?_ ?_ ?_ ?_ ?_ ?_
          rotate_left 2
          · (simp only [List.getElem?_toArray, List.getElem?_cons_succ, List.getElem?_cons_zero]; exact rfl)
          · kernel_rfl
          · kernel_rfl
          · kernel_rfl
          · exact fun _ _ _ h => h
          · first | (refine Or.inl ⟨by rfl, ?_⟩; intro w hSw; (try dsimp only at hSw); go_simp; try with_reducible rfl) | (refine Or.inr ⟨by rfl, ?_⟩; rfl)
          · assumption
          try simp only [Act.put, List.setIfInBounds_toArray, List.set_cons_zero, List.set_cons_succ]
          try simp only [F1.out, F2.out, F3.out, F4.out, F5.out, F6.out, F7.out, F8.out]
          refine wpAnyH_ready (rs := [10]) (by kernel_rfl) (by simp) ?_
          refine AllReadyH.cons (o := ?_) ?_ (fun K hK => ?_) ?_
          rotate_left 1
          · (simp only [List.getElem?_toArray, List.getElem?_cons_succ, List.getElem?_cons_zero]; exact rfl)
          · go_simp
            ((first | (go_at_call 34; (with_reducible refine (KIJ.out _ _ hx).mono ?_); rintro e wx ⟨rfl, hx⟩; dsimp only) | (go_at_call 66; (with_reducible refine (KT0.out _ _ hx).mono ?_); rintro e wx ⟨rfl, hx⟩; dsimp only) | (go_at_call 66; (with_reducible refine (KT1.out _ _ hx).mono ?_); rintro e wx ⟨rfl, hx⟩; dsimp only) | (go_at_call 44; (with_reducible refine (KNA.out _ _ hx).mono ?_); rintro e wx ⟨rfl, hx⟩; dsimp only) | (go_at_call 44; (with_reducible refine (KNB.out _ _ hx).mono ?_); rintro e wx ⟨rfl, hx⟩; dsimp only) | (go_at_call 67; (with_reducible refine (KF.out _ _ hx).mono ?_); rintro e wx ⟨rfl, hx⟩; dsimp only) | (go_at_call 65; (with_reducible refine (KJ.out _ _ hx).mono ?_); rintro e wx ⟨rfl, hx⟩; dsimp only)))
            refine hK.out _ _ ?_ (fun hHeld => ?_)
            · (try dsimp only) <;> (first | exact SX.out _ _ _ hx (by simp) (by simp) | exact SX.out _ _ _ (hx.alloc_ _) (by simp) (by simp))
            clear hK K
            try simp only [Act.put, List.setIfInBounds_toArray, List.set_cons_zero, List.set_cons_succ]
            try simp only [F1.out, F2.out, F3.out, F4.out, F5.out, F6.out, F7.out, F8.out]
            refine wpAnyH_take (i := 11) (oi := ?_) (v := ?_) ?_ ?_ ?_ ?_ ?_ ?_ ?_ ?_
            rotate_left 2
            · (simp only [List.getElem?_toArray, List.getElem?_cons_succ, List.getElem?_cons_zero]; exact rfl)
            · kernel_rfl
            · kernel_rfl
            · kernel_rfl
            · exact fun _ _ _ h => h
            · first | (refine Or.inl ⟨by rfl, ?_⟩; intro w hSw; (try dsimp only at hSw); go_simp; try with_reducible rfl) | (refine Or.inr ⟨by rfl, ?_⟩; rfl)
            · assumption
            try simp only [Act.put, List.setIfInBounds_toArray, List.set_cons_zero, List.set_cons_succ]
            try simp only [F1.out, F2.out, F3.out, F4.out, F5.out, F6.out, F7.out, F8.out]
            refine wpAnyH_ready (rs := [15]) (by kernel_rfl) (by simp) ?_
            refine AllReadyH.cons (o := ?_) ?_ (fun K hK => ?_) ?_
            rotate_left 1
            · (simp only [List.getElem?_toArray, List.getElem?_cons_succ, List.getElem?_cons_zero]; exact rfl)
            · go_simp
              ((first | (go_at_call 34; (with_reducible refine (KIJ.out _ _ hx).mono ?_); rintro e wx ⟨rfl, hx⟩; dsimp only) | (go_at_call 66; (with_reducible refine (KT0.out _ _ hx).mono ?_); rintro e wx ⟨rfl, hx⟩; dsimp only) | (go_at_call 66; (with_reducible refine (KT1.out _ _ hx).mono ?_); rintro e wx ⟨rfl, hx⟩; dsimp only) | (go_at_call 44; (with_reducible refine (KNA.out _ _ hx).mono ?_); rintro e wx ⟨rfl, hx⟩; dsimp only) | (go_at_call 44; (with_reducible refine (KNB.out _ _ hx).mono ?_); rintro e wx ⟨rfl, hx⟩; dsimp only) | (go_at_call 67; (with_reducible refine (KF.out _ _ hx).mono ?_); rintro e wx ⟨rfl, hx⟩; dsimp only) | (go_at_call 65; (with_reducible refine (KJ.out _ _ hx).mono ?_); rintro e wx ⟨rfl, hx⟩; dsimp only)))
              refine hK.out _ _ ?_ (fun hHeld => ?_)
              · (try dsimp only) <;> (first | exact SX.out _ _ _ hx (by simp) (by simp) | exact SX.out _ _ _ (hx.alloc_ _) (by simp) (by simp))
              clear hK K
              try simp only [Act.put, List.setIfInBounds_toArray, List.set_cons_zero, List.set_cons_succ]
              try simp only [F1.out, F2.out, F3.out, F4.out, F5.out, F6.out, F7.out, F8.out]
              refine wpAnyH_take (i := 16) (oi := ?_) (v := ?_) ?_ ?_ ?_ ?_ ?_ ?_ ?_ ?_
              rotate_left 2
              · (simp only [List.getElem?_toArray, List.getElem?_cons_succ, List.getElem?_cons_zero]; exact rfl)
              · kernel_rfl
              · kernel_rfl
              · kernel_rfl
              · exact fun _ _ _ h => h
              · first | (refine Or.inl ⟨by rfl, ?_⟩; intro w hSw; (try dsimp only at hSw); go_simp; try with_reducible rfl) | (refine Or.inr ⟨by rfl, ?_⟩; rfl)
              · assumption
              try simp only [Act.put, List.setIfInBounds_toArray, List.set_cons_zero, List.set_cons_succ]
              try simp only [F1.out, F2.out, F3.out, F4.out, F5.out, F6.out, F7.out, F8.out]
              refine wpAnyH_ready (rs := [19]) (by kernel_rfl) (by simp) ?_
              refine AllReadyH.cons (o := ?_) ?_ (fun K hK => ?_) ?_
              rotate_left 1
              · (simp only [List.getElem?_toArray, List.getElem?_cons_succ, List.getElem?_cons_zero]; exact rfl)
              · go_simp
                ((first | (go_at_call 34; (with_reducible refine (KIJ.out _ _ hx).mono ?_); rintro e wx ⟨rfl, hx⟩; dsimp only) | (go_at_call 66; (with_reducible refine (KT0.out _ _ hx).mono ?_); rintro e wx ⟨rfl, hx⟩; dsimp only) | (go_at_call 66; (with_reducible refine (KT1.out _ _ hx).mono ?_); rintro e wx ⟨rfl, hx⟩; dsimp only) | (go_at_call 44; (with_reducible refine (KNA.out _ _ hx).mono ?_); rintro e wx ⟨rfl, hx⟩; dsimp only) | (go_at_call 44; (with_reducible refine (KNB.out _ _ hx).mono ?_); rintro e wx ⟨rfl, hx⟩; dsimp only) | (go_at_call 67; (with_reducible refine (KF.out _ _ hx).mono ?_); rintro e wx ⟨rfl, hx⟩; dsimp only) | (go_at_call 65; (with_reducible refine (KJ.out _ _ hx).mono ?_); rintro e wx ⟨rfl, hx⟩; dsimp only)))
                refine hK.out _ _ ?_ (fun hHeld => ?_)
                · (try dsimp only) <;> (first | exact SX.out _ _ _ hx (by simp) (by simp) | exact SX.out _ _ _ (hx.alloc_ _) (by simp) (by simp))
                clear hK K
                try simp only [Act.put, List.setIfInBounds_toArray, List.set_cons_zero, List.set_cons_succ]
                try simp only [F1.out, F2.out, F3.out, F4.out, F5.out, F6.out, F7.out, F8.out]
                refine wpAnyH_take (i := 20) (oi := ?_) (v := ?_) ?_ ?_ ?_ ?_ ?_ ?_ ?_ ?_
                rotate_left 2
                · (simp only [List.getElem?_toArray, List.getElem?_cons_succ, List.getElem?_cons_zero]; exact rfl)
                · kernel_rfl
                · kernel_rfl
                · kernel_rfl
                · exact fun _ _ _ h => h
                · first | (refine Or.inl ⟨by rfl, ?_⟩; intro w hSw; (try dsimp only at hSw); go_simp; try with_reducible rfl) | (refine Or.inr ⟨by rfl, ?_⟩; rfl)
                · assumption
                try simp only [Act.put, List.setIfInBounds_toArray, List.set_cons_zero, List.set_cons_succ]
                try simp only [F1.out, F2.out, F3.out, F4.out, F5.out, F6.out, F7.out, F8.out]
                refine wpAnyH_ready (rs := [23]) (by kernel_rfl) (by simp) ?_
                refine AllReadyH.cons (o := ?_) ?_ (fun K hK => ?_) ?_
                rotate_left 1
                · (simp only [List.getElem?_toArray, List.getElem?_cons_succ, List.getElem?_cons_zero]; exact rfl)
                · go_simp
                  ((first | (go_at_call 34; (with_reducible refine (KIJ.out _ _ hx).mono ?_); rintro e wx ⟨rfl, hx⟩; dsimp only) | (go_at_call 66; (with_reducible refine (KT0.out _ _ hx).mono ?_); rintro e wx ⟨rfl, hx⟩; dsimp only) | (go_at_call 66; (with_reducible refine (KT1.out _ _ hx).mono ?_); rintro e wx ⟨rfl, hx⟩; dsimp only) | (go_at_call 44; (with_reducible refine (KNA.out _ _ hx).mono ?_); rintro e wx ⟨rfl, hx⟩; dsimp only) | (go_at_call 44; (with_reducible refine (KNB.out _ _ hx).mono ?_); rintro e wx ⟨rfl, hx⟩; dsimp only) | (go_at_call 67; (with_reducible refine (KF.out _ _ hx).mono ?_); rintro e wx ⟨rfl, hx⟩; dsimp only) | (go_at_call 65; (with_reducible refine (KJ.out _ _ hx).mono ?_); rintro e wx ⟨rfl, hx⟩; dsimp only)))
                  refine hK.out _ _ ?_ (fun hHeld => ?_)
                  · (try dsimp only) <;> (first | exact SX.out _ _ _ hx (by simp) (by simp) | exact SX.out _ _ _ (hx.alloc_ _) (by simp) (by simp))
                  clear hK K
                  try simp only [Act.put, List.setIfInBounds_toArray, List.set_cons_zero, List.set_cons_succ]
                  try simp only [F1.out, F2.out, F3.out, F4.out, F5.out, F6.out, F7.out, F8.out]
                  refine wpAnyH_take (i := 24) (oi := ?_) (v := ?_) ?_ ?_ ?_ ?_ ?_ ?_ ?_ ?_
                  rotate_left 2
                  · (simp only [List.getElem?_toArray, List.getElem?_cons_succ, List.getElem?_cons_zero]; exact rfl)
                  · kernel_rfl
                  · kernel_rfl
                  · kernel_rfl
                  · exact fun _ _ _ h => h
                  · first | (refine Or.inl ⟨by rfl, ?_⟩; intro w hSw; (try dsimp only at hSw); go_simp; try with_reducible rfl) | (refine Or.inr ⟨by rfl, ?_⟩; rfl)
                  · assumption
                  try simp only [Act.put, List.setIfInBounds_toArray, List.set_cons_zero, List.set_cons_succ]
                  try simp only [F1.out, F2.out, F3.out, F4.out, F5.out, F6.out, F7.out, F8.out]
                  refine wpAnyH_ready (rs := [27]) (by kernel_rfl) (by simp) ?_
                  refine AllReadyH.cons (o := ?_) ?_ (fun K hK => ?_) ?_
                  rotate_left 1
                  · (simp only [List.getElem?_toArray, List.getElem?_cons_succ, List.getElem?_cons_zero]; exact rfl)
                  · go_simp
                    ((first | (go_at_call 34; (with_reducible refine (KIJ.out _ _ hx).mono ?_); rintro e wx ⟨rfl, hx⟩; dsimp only) | (go_at_call 66; (with_reducible refine (KT0.out _ _ hx).mono ?_); rintro e wx ⟨rfl, hx⟩; dsimp only) | (go_at_call 66; (with_reducible refine (KT1.out _ _ hx).mono ?_); rintro e wx ⟨rfl, hx⟩; dsimp only) | (go_at_call 44; (with_reducible refine (KNA.out _ _ hx).mono ?_); rintro e wx ⟨rfl, hx⟩; dsimp only) | (go_at_call 44; (with_reducible refine (KNB.out _ _ hx).mono ?_); rintro e wx ⟨rfl, hx⟩; dsimp only) | (go_at_call 67; (with_reducible refine (KF.out _ _ hx).mono ?_); rintro e wx ⟨rfl, hx⟩; dsimp only) | (go_at_call 65; (with_reducible refine (KJ.out _ _ hx).mono ?_); rintro e wx ⟨rfl, hx⟩; dsimp only)))
                    refine hK.out _ _ ?_ (fun hHeld => ?_)
                    · (try dsimp only) <;> (first | exact SX.out _ _ _ hx (by simp) (by simp) | exact SX.out _ _ _ (hx.alloc_ _) (by simp) (by simp))
                    clear hK K
                    try simp only [Act.put, List.setIfInBounds_toArray, List.set_cons_zero, List.set_cons_succ]
                    try simp only [F1.out, F2.out, F3.out, F4.out, F5.out, F6.out, F7.out, F8.out]
                    refine wpAnyH_take (i := 28) (oi := ?_) (v := ?_) ?_ ?_ ?_ ?_ ?_ ?_ ?_ ?_
                    rotate_left 2
                    · (simp only [List.getElem?_toArray, List.getElem?_cons_succ, List.getElem?_cons_zero]; exact rfl)
                    · kernel_rfl
                    · kernel_rfl
                    · kernel_rfl
                    · exact fun _ _ _ h => h
                    · first | (refine Or.inl ⟨by rfl, ?_⟩; intro w hSw; (try dsimp only at hSw); go_simp; try with_reducible rfl) | (refine Or.inr ⟨by rfl, ?_⟩; rfl)
                    · assumption
                    try simp only [Act.put, List.setIfInBounds_toArray, List.set_cons_zero, List.set_cons_succ]
                    try simp only [F1.out, F2.out, F3.out, F4.out, F5.out, F6.out, F7.out, F8.out]
                    refine wpAnyH_ready (rs := [29]) (by kernel_rfl) (by simp) ?_
                    refine AllReadyH.cons (o := ?_) ?_ (fun K hK => ?_) ?_
                    rotate_left 1
                    · (simp only [List.getElem?_toArray, List.getElem?_cons_succ, List.getElem?_cons_zero]; exact rfl)
                    · go_simp
                      refine hK.out _ _ ?_ (fun hHeld => ?_)
                      · (try dsimp only) <;> (first | exact SX.out _ _ _ hx (by simp) (by simp) | exact SX.out _ _ _ (hx.alloc_ _) (by simp) (by simp))
                      clear hK K
                      try simp only [Act.put, List.setIfInBounds_toArray, List.set_cons_zero, List.set_cons_succ]
                      try simp only [F1.out, F2.out, F3.out, F4.out, F5.out, F6.out, F7.out, F8.out]
                      refine wpAnyH_ready (rs := [30]) (by kernel_rfl) (by simp) ?_
                      refine AllReadyH.cons (o := ?_) ?_ (fun K hK => ?_) ?_
                      rotate_left 1
                      · (simp only [List.getElem?_toArray, List.getElem?_cons_succ, List.getElem?_cons_zero]; exact rfl)
                      · go_simp
                        ((first | (go_at_call 34; (with_reducible refine (KIJ.out _ _ hx).mono ?_); rintro e wx ⟨rfl, hx⟩; dsimp only) | (go_at_call 66; (with_reducible refine (KT0.out _ _ hx).mono ?_); rintro e wx ⟨rfl, hx⟩; dsimp only) | (go_at_call 66; (with_reducible refine (KT1.out _ _ hx).mono ?_); rintro e wx ⟨rfl, hx⟩; dsimp only) | (go_at_call 44; (with_reducible refine (KNA.out _ _ hx).mono ?_); rintro e wx ⟨rfl, hx⟩; dsimp only) | (go_at_call 44; (with_reducible refine (KNB.out _ _ hx).mono ?_); rintro e wx ⟨rfl, hx⟩; dsimp only) | (go_at_call 67; (with_reducible refine (KF.out _ _ hx).mono ?_); rintro e wx ⟨rfl, hx⟩; dsimp only) | (go_at_call 65; (with_reducible refine (KJ.out _ _ hx).mono ?_); rintro e wx ⟨rfl, hx⟩; dsimp only)))
                        refine hK.out _ _ ?_ (fun hHeld => ?_)
                        · (try dsimp only) <;> (first | exact SX.out _ _ _ hx (by simp) (by simp) | exact SX.out _ _ _ (hx.alloc_ _) (by simp) (by simp))
                        clear hK K
                        try simp only [Act.put, List.setIfInBounds_toArray, List.set_cons_zero, List.set_cons_succ]
                        try simp only [F1.out, F2.out, F3.out, F4.out, F5.out, F6.out, F7.out, F8.out]
                        refine wpAnyH_take (i := 31) (oi := ?_) (v := ?_) ?_ ?_ ?_ ?_ ?_ ?_ ?_ ?_
                        rotate_left 2
                        · (simp only [List.getElem?_toArray, List.getElem?_cons_succ, List.getElem?_cons_zero]; exact rfl)
                        · kernel_rfl
                        · kernel_rfl
                        · kernel_rfl
                        · exact fun _ _ _ h => h
                        · first | (refine Or.inl ⟨by rfl, ?_⟩; intro w hSw; (try dsimp only at hSw); go_simp; try with_reducible rfl) | (refine Or.inr ⟨by rfl, ?_⟩; rfl)
                        · assumption
                        try simp only [Act.put, List.setIfInBounds_toArray, List.set_cons_zero, List.set_cons_succ]
                        try simp only [F1.out, F2.out, F3.out, F4.out, F5.out, F6.out, F7.out, F8.out]
                        refine wpAnyH_done (by kernel_rfl) ?_ _
                        have HY := Lib.hid hx
                        clear hx SX
                        go_wp2_with fail
                        go_ret
                        exact ⟨rfl, St.weaken (A := [_, _]) HY.out⟩
                      exact AllReadyH.nil
                    exact AllReadyH.nil
                  exact AllReadyH.nil
                exact AllReadyH.nil
              exact AllReadyH.nil
            exact AllReadyH.nil
          exact AllReadyH.nil
        exact AllReadyH.nil
      · have g3b : (r.state == 3) = false := beq_eq_false_iff_ne.2 g3
        have e := HSF.out
        rw [if_pos ⟨g0, g5⟩, if_neg g3, hk, Int.toNat_natCast] at e
        have hb9 := HBST.out
        rw [e] at hb9
        have d9 := hsv _ _ H0.out
        rw [hb9] at d9
        rw [hk] at d2
        have k0 : ¬ ((k : Int) < 0) := by omega
        have k5 : (k : Int) < 5 := by omega
        have k3 : ((k : Int) == 3) = false := by rw [← hk]; exact g3b
        have h4 := H0.out.alloc (.cells Tryd.zeroCells42 42)
        rw [World.size_alloc, hb] at h4
        obtain ⟨b4, hb4⟩ : ∃ x, b + 1 = x := ⟨_, rfl⟩
        rw [hb4] at h4
        have HX := H0; have H4 := Lib.hid h4
        clear h4 H0 hb9 e hsv KIF g0 g5 hk g3b g3
        go_enter Tryd.func45, Tryd.ntmps45
        go_wp2_with (first | (with_reducible refine wpList_load_st rfl 42 (.tmp 26) rfl (g := b) (off := 5) rfl HX.out (cs := R) (t := 44) (fr := (0, 0)) (by simp) T HTAB.out _ Tryd.underlying42 rfl INF.out ?_) | (with_reducible refine wpList_store_st rfl 42 (.tmp 4) (.tmp 27) rfl (off := 0) T rfl rfl H4.out FZ.out INF.out ONE.out ?_; intro w5 h5; rw [MZ.out] at h5; have H5 := Lib.hid h5; clear h5))
        have hx := H5.out.drew1
        clear H4 HX
        refine wp_region_held_drew (S := fun v => (v.cell? ⟨b, 1, none⟩ = some (.int .i64 r.job) ∧ v.cell? ⟨b4, 72, none⟩ = some (.int .i64 r.act) ∧ v.cell? ⟨b4, 73, none⟩ = some (.int .i64 r.boo) ∧ v.cell? ⟨b4, 74, none⟩ = some (.int .u64 r.flo) ∧ v.rangeAt b4 0 C0.toList ∧ v.rangeAt b4 36 C1.toList)) (by kernel_rfl) (SX.out _ _ _ hx (by simp) (by simp)) (fun hHeld => ?_)
        refine wpAnyH_take (i := 0) (oi := ?_) (v := ?_) ?_ ?_ ?_ ?_ ?_ ?_ ?_ ?_
        rotate_left 2
        · (simp only [List.getElem?_toArray, List.getElem?_cons_succ, List.getElem?_cons_zero]; exact rfl)
        · kernel_rfl
        · kernel_rfl
        · kernel_rfl
        · exact fun _ _ _ h => h
        · first | (refine Or.inl ⟨by rfl, ?_⟩; intro w hSw; (try dsimp only at hSw); go_simp; try with_reducible rfl) | (refine Or.inr ⟨by rfl, ?_⟩; rfl)
        · assumption
        try simp only [Act.put, List.setIfInBounds_toArray, List.set_cons_zero, List.set_cons_succ]
        try simp only [F1.out, F2.out, F3.out, F4.out, F5.out, F6.out, F7.out, F8.out]
        refine wpAnyH_take (i := 1) (oi := ?_) (v := ?_) ?_ ?_ ?_ ?_ ?_ ?_ ?_ ?_
        rotate_left 2
        · (simp only [List.getElem?_toArray, List.getElem?_cons_succ, List.getElem?_cons_zero]; exact rfl)
        · kernel_rfl
        · kernel_rfl
        · kernel_rfl
        · exact fun _ _ _ h => h
        · first | (first | ((refine yieldsIf_load_mid ?_ 39 (.tmp 36) ?_ b4 0 ?_ C0.toList _ ?_ HUL.out ?_ HM0.out) <;> first | rfl | exact fun w h => h.2.2.2.2.1) | ((refine yieldsIf_load_mid ?_ 39 (.tmp 41) ?_ b4 36 ?_ C1.toList _ ?_ HUL.out ?_ HM1.out) <;> first | rfl | exact fun w h => h.2.2.2.2.2) | (refine Or.inl ⟨by rfl, ?_⟩; intro w hSw; obtain ⟨hS1, hS2, hS3, hS4, hS5, hS6⟩ := hSw; go_simp; try with_reducible rfl)) | (refine Or.inr ⟨by rfl, ?_⟩; rfl)
        · assumption
        try simp only [Act.put, List.setIfInBounds_toArray, List.set_cons_zero, List.set_cons_succ]
        try simp only [F1.out, F2.out, F3.out, F4.out, F5.out, F6.out, F7.out, F8.out]
        refine wpAnyH_take (i := 5) (oi := ?_) (v := ?_) ?_ ?_ ?_ ?_ ?_ ?_ ?_ ?_
        rotate_left 2
        · (simp only [List.getElem?_toArray, List.getElem?_cons_succ, List.getElem?_cons_zero]; exact rfl)
        · kernel_rfl
        · kernel_rfl
        · kernel_rfl
        · exact fun _ _ _ h => h
        · first | (refine Or.inl ⟨by rfl, ?_⟩; intro w hSw; (try dsimp only at hSw); go_simp; try with_reducible rfl) | (refine Or.inr ⟨by rfl, ?_⟩; rfl)
        · assumption
        try simp only [Act.put, List.setIfInBounds_toArray, List.set_cons_zero, List.set_cons_succ]
        try simp only [F1.out, F2.out, F3.out, F4.out, F5.out, F6.out, F7.out, F8.out]
        refine wpAnyH_take (i := 7) (oi := ?_) (v := ?_) ?_ ?_ ?_ ?_ ?_ ?_ ?_ ?_
        rotate_left 2
        · (simp only [List.getElem?_toArray, List.getElem?_cons_succ, List.getElem?_cons_zero]; exact rfl)
        · kernel_rfl
        · kernel_rfl
        · kernel_rfl
        · exact fun _ _ _ h => h
        · first | (refine Or.inl ⟨by rfl, ?_⟩; intro w hSw; (try dsimp only at hSw); go_simp; try with_reducible rfl) | (refine Or.inr ⟨by rfl, ?_⟩; rfl)
        · assumption
        try simp only [Act.put, List.setIfInBounds_toArray, List.set_cons_zero, List.set_cons_succ]
        try simp only [F1.out, F2.out, F3.out, F4.out, F5.out, F6.out, F7.out, F8.out]
        refine wpAnyH_take (i := 8) (oi := ?_) (v := ?_) ?_ ?_ ?_ ?_ ?_ ?_ ?_ ?_
        rotate_left 2
        · (simp only [List.getElem?_toArray, List.getElem?_cons_succ, List.getElem?_cons_zero]; exact rfl)
        · kernel_rfl
        · kernel_rfl
        · kernel_rfl
        · exact fun _ _ _ h => h
        · first | (refine Or.inl ⟨by rfl, ?_⟩; intro w hSw; (try dsimp only at hSw); go_simp; try with_reducible rfl) | (refine Or.inr ⟨by rfl, ?_⟩; rfl)
        · assumption
        try simp only [Act.put, List.setIfInBounds_toArray, List.set_cons_zero, List.set_cons_succ]
        try simp only [F1.out, F2.out, F3.out, F4.out, F5.out, F6.out, F7.out, F8.out]
        refine wpAnyH_take (i := 9) (oi := ?_) (v := ?_) ?_ ?_ ?_ ?_ ?_ ?_ ?_ ?_
        rotate_left 2
        · (simp only [List.getElem?_toArray, List.getElem?_cons_succ, List.getElem?_cons_zero]; exact rfl)
        · kernel_rfl
        · kernel_rfl
        · kernel_rfl
        · exact fun _ _ _ h => h
        · first | (first | ((refine yieldsIf_load_mid ?_ 39 (.tmp 36) ?_ b4 0 ?_ C0.toList _ ?_ HUL.out ?_ HM0.out) <;> first | rfl | exact fun w h => h.2.2.2.2.1) | ((refine yieldsIf_load_mid ?_ 39 (.tmp 41) ?_ b4 36 ?_ C1.toList _ ?_ HUL.out ?_ HM1.out) <;> first | rfl | exact fun w h => h.2.2.2.2.2) | (refine Or.inl ⟨by rfl, ?_⟩; intro w hSw; obtain ⟨hS1, hS2, hS3, hS4, hS5, hS6⟩ := hSw; go_simp; try with_reducible rfl)) | (refine Or.inr ⟨by rfl, ?_⟩; rfl)
        · assumption
        try simp only [Act.put, List.setIfInBounds_toArray, List.set_cons_zero, List.set_cons_succ]
        try simp only [F1.out, F2.out, F3.out, F4.out, F5.out, F6.out, F7.out, F8.out]
        refine wpAnyH_take (i := 12) (oi := ?_) (v := ?_) ?_ ?_ ?_ ?_ ?_ ?_ ?_ ?_
        rotate_left 2
        · (simp only [List.getElem?_toArray, List.getElem?_cons_succ, List.getElem?_cons_zero]; exact rfl)
        · kernel_rfl
        · kernel_rfl
        · kernel_rfl
        · exact fun _ _ _ h => h
        · first | (refine Or.inl ⟨by rfl, ?_⟩; intro w hSw; (try dsimp only at hSw); go_simp; try with_reducible rfl) | (refine Or.inr ⟨by rfl, ?_⟩; rfl)
        · assumption
        try simp only [Act.put, List.setIfInBounds_toArray, List.set_cons_zero, List.set_cons_succ]
        try simp only [F1.out, F2.out, F3.out, F4.out, F5.out, F6.out, F7.out, F8.out]
        refine wpAnyH_take (i := 13) (oi := ?_) (v := ?_) ?_ ?_ ?_ ?_ ?_ ?_ ?_ ?_
        rotate_left 2
        · (simp only [List.getElem?_toArray, List.getElem?_cons_succ, List.getElem?_cons_zero]; exact rfl)
        · kernel_rfl
        · kernel_rfl
        · kernel_rfl
        · exact fun _ _ _ h => h
        · first | (refine Or.inl ⟨by rfl, ?_⟩; intro w hSw; (try dsimp only at hSw); go_simp; try with_reducible rfl) | (refine Or.inr ⟨by rfl, ?_⟩; rfl)
        · assumption
        try simp only [Act.put, List.setIfInBounds_toArray, List.set_cons_zero, List.set_cons_succ]
        try simp only [F1.out, F2.out, F3.out, F4.out, F5.out, F6.out, F7.out, F8.out]
        refine wpAnyH_take (i := 14) (oi := ?_) (v := ?_) ?_ ?_ ?_ ?_ ?_ ?_ ?_ ?_
        rotate_left 2
        · (simp only [List.getElem?_toArray, List.getElem?_cons_succ, List.getElem?_cons_zero]; exact rfl)
        · kernel_rfl
        · kernel_rfl
        · kernel_rfl
        · exact fun _ _ _ h => h
        · first | (first | ((refine yieldsIf_load_mid ?_ 39 (.tmp 36) ?_ b4 0 ?_ C0.toList _ ?_ HUL.out ?_ HM0.out) <;> first | rfl | exact fun w h => h.2.2.2.2.1) | ((refine yieldsIf_load_mid ?_ 39 (.tmp 41) ?_ b4 36 ?_ C1.toList _ ?_ HUL.out ?_ HM1.out) <;> first | rfl | exact fun w h => h.2.2.2.2.2) | (refine Or.inl ⟨by rfl, ?_⟩; intro w hSw; obtain ⟨hS1, hS2, hS3, hS4, hS5, hS6⟩ := hSw; go_simp; try with_reducible rfl)) | (refine Or.inr ⟨by rfl, ?_⟩; rfl)
        · assumption
        try simp only [Act.put, List.setIfInBounds_toArray, List.set_cons_zero, List.set_cons_succ]
        try simp only [F1.out, F2.out, F3.out, F4.out, F5.out, F6.out, F7.out, F8.out]
        refine wpAnyH_take (i := 17) (oi := ?_) (v := ?_) ?_ ?_ ?_ ?_ ?_ ?_ ?_ ?_
        rotate_left 2
        · (simp only [List.getElem?_toArray, List.getElem?_cons_succ, List.getElem?_cons_zero]; exact rfl)
        · kernel_rfl
        · kernel_rfl
        · kernel_rfl
        · exact fun _ _ _ h => h
        · first | (refine Or.inl ⟨by rfl, ?_⟩; intro w hSw; (try dsimp only at hSw); go_simp; try with_reducible rfl) | (refine Or.inr ⟨by rfl, ?_⟩; rfl)
        · assumption
        try simp only [Act.put, List.setIfInBounds_toArray, List.set_cons_zero, List.set_cons_succ]
        try simp only [F1.out, F2.out, F3.out, F4.out, F5.out, F6.out, F7.out, F8.out]
        refine wpAnyH_take (i := 18) (oi := ?_) (v := ?_) ?_ ?_ ?_ ?_ ?_ ?_ ?_ ?_
        rotate_left 2
        · (simp only [List.getElem?_toArray, List.getElem?_cons_succ, List.getElem?_cons_zero]; exact rfl)
        · kernel_rfl
        · kernel_rfl
        · kernel_rfl
        · exact fun _ _ _ h => h
        · first | (first | ((refine yieldsIf_load_mid ?_ 39 (.tmp 36) ?_ b4 0 ?_ C0.toList _ ?_ HUL.out ?_ HM0.out) <;> first | rfl | exact fun w h => h.2.2.2.2.1) | ((refine yieldsIf_load_mid ?_ 39 (.tmp 41) ?_ b4 36 ?_ C1.toList _ ?_ HUL.out ?_ HM1.out) <;> first | rfl | exact fun w h => h.2.2.2.2.2) | (refine Or.inl ⟨by rfl, ?_⟩; intro w hSw; obtain ⟨hS1, hS2, hS3, hS4, hS5, hS6⟩ := hSw; go_simp; try with_reducible rfl)) | (refine Or.inr ⟨by rfl, ?_⟩; rfl)
        · assumption
        try simp only [Act.put, List.setIfInBounds_toArray, List.set_cons_zero, List.set_cons_succ]
        try simp only [F1.out, F2.out, F3.out, F4.out, F5.out, F6.out, F7.out, F8.out]
        refine wpAnyH_take (i := 21) (oi := ?_) (v := ?_) ?_ ?_ ?_ ?_ ?_ ?_ ?_ ?_
        rotate_left 2
        · (simp only [List.getElem?_toArray, List.getElem?_cons_succ, List.getElem?_cons_zero]; exact rfl)
        · kernel_rfl
        · kernel_rfl
        · kernel_rfl
        · exact fun _ _ _ h => h
        · first | (refine Or.inl ⟨by rfl, ?_⟩; intro w hSw; (try dsimp only at hSw); go_simp; try with_reducible rfl) | (refine Or.inr ⟨by rfl, ?_⟩; rfl)
        · assumption
        try simp only [Act.put, List.setIfInBounds_toArray, List.set_cons_zero, List.set_cons_succ]
        try simp only [F1.out, F2.out, F3.out, F4.out, F5.out, F6.out, F7.out, F8.out]
        refine wpAnyH_take (i := 22) (oi := ?_) (v := ?_) ?_ ?_ ?_ ?_ ?_ ?_ ?_ ?_
        rotate_left 2
        · (simp only [List.getElem?_toArray, List.getElem?_cons_succ, List.getElem?_cons_zero]; exact rfl)
        · kernel_rfl
        · kernel_rfl
        · kernel_rfl
        · exact fun _ _ _ h => h
        · first | (first | ((refine yieldsIf_load_mid ?_ 39 (.tmp 36) ?_ b4 0 ?_ C0.toList _ ?_ HUL.out ?_ HM0.out) <;> first | rfl | exact fun w h => h.2.2.2.2.1) | ((refine yieldsIf_load_mid ?_ 39 (.tmp 41) ?_ b4 36 ?_ C1.toList _ ?_ HUL.out ?_ HM1.out) <;> first | rfl | exact fun w h => h.2.2.2.2.2) | (refine Or.inl ⟨by rfl, ?_⟩; intro w hSw; obtain ⟨hS1, hS2, hS3, hS4, hS5, hS6⟩ := hSw; go_simp; try with_reducible rfl)) | (refine Or.inr ⟨by rfl, ?_⟩; rfl)
        · assumption
        try simp only [Act.put, List.setIfInBounds_toArray, List.set_cons_zero, List.set_cons_succ]
        try simp only [F1.out, F2.out, F3.out, F4.out, F5.out, F6.out, F7.out, F8.out]
        refine wpAnyH_take (i := 25) (oi := ?_) (v := ?_) ?_ ?_ ?_ ?_ ?_ ?_ ?_ ?_
        rotate_left 2
        · (simp only [List.getElem?_toArray, List.getElem?_cons_succ, List.getElem?_cons_zero]; exact rfl)
        · kernel_rfl
        · kernel_rfl
        · kernel_rfl
        · exact fun _ _ _ h => h
        · first | (refine Or.inl ⟨by rfl, ?_⟩; intro w hSw; (try dsimp only at hSw); go_simp; try with_reducible rfl) | (refine Or.inr ⟨by rfl, ?_⟩; rfl)
        · assumption
        try simp only [Act.put, List.setIfInBounds_toArray, List.set_cons_zero, List.set_cons_succ]
        try simp only [F1.out, F2.out, F3.out, F4.out, F5.out, F6.out, F7.out, F8.out]
        refine wpAnyH_take (i := 26) (oi := ?_) (v := ?_) ?_ ?_ ?_ ?_ ?_ ?_ ?_ ?_
        rotate_left 2
        · (simp only [List.getElem?_toArray, List.getElem?_cons_succ, List.getElem?_cons_zero]; exact rfl)
        · kernel_rfl
        · kernel_rfl
        · kernel_rfl
        · exact fun _ _ _ h => h
        · first | (first | ((refine yieldsIf_load_mid ?_ 39 (.tmp 36) ?_ b4 0 ?_ C0.toList _ ?_ HUL.out ?_ HM0.out) <;> first | rfl | exact fun w h => h.2.2.2.2.1) | ((refine yieldsIf_load_mid ?_ 39 (.tmp 41) ?_ b4 36 ?_ C1.toList _ ?_ HUL.out ?_ HM1.out) <;> first | rfl | exact fun w h => h.2.2.2.2.2) | (refine Or.inl ⟨by rfl, ?_⟩; intro w hSw; obtain ⟨hS1, hS2, hS3, hS4, hS5, hS6⟩ := hSw; go_simp; try with_reducible rfl)) | (refine Or.inr ⟨by rfl, ?_⟩; rfl)
        · assumption
        try simp only [Act.put, List.setIfInBounds_toArray, List.set_cons_zero, List.set_cons_succ]
        try simp only [F1.out, F2.out, F3.out, F4.out, F5.out, F6.out, F7.out, F8.out]
        refine wpAnyH_ready (rs := [2]) (by kernel_rfl) (by simp) ?_
        refine AllReadyH.cons (o := ?_) ?_ (fun K hK => ?_) ?_
        rotate_left 1
        · (simp only [List.getElem?_toArray, List.getElem?_cons_succ, List.getElem?_cons_zero]; exact rfl)
        · go_simp
          ((first | (go_at_call 34; (with_reducible refine (KIJ.out _ _ hx).mono ?_); rintro e wx ⟨rfl, hx⟩; dsimp only) | (go_at_call 66; (with_reducible refine (KT0.out _ _ hx).mono ?_); rintro e wx ⟨rfl, hx⟩; dsimp only) | (go_at_call 66; (with_reducible refine (KT1.out _ _ hx).mono ?_); rintro e wx ⟨rfl, hx⟩; dsimp only) | (go_at_call 44; (with_reducible refine (KNA.out _ _ hx).mono ?_); rintro e wx ⟨rfl, hx⟩; dsimp only) | (go_at_call 44; (with_reducible refine (KNB.out _ _ hx).mono ?_); rintro e wx ⟨rfl, hx⟩; dsimp only) | (go_at_call 67; (with_reducible refine (KF.out _ _ hx).mono ?_); rintro e wx ⟨rfl, hx⟩; dsimp only) | (go_at_call 65; (with_reducible refine (KJ.out _ _ hx).mono ?_); rintro e wx ⟨rfl, hx⟩; dsimp only)))
          refine hK.out _ _ ?_ (fun hHeld => ?_)
          · (try dsimp only) <;> (first | exact SX.out _ _ _ hx (by simp) (by simp) | exact SX.out _ _ _ (hx.alloc_ _) (by simp) (by simp))
          clear hK K
          try simp only [Act.put, List.setIfInBounds_toArray, List.set_cons_zero, List.set_cons_succ]
          try simp only [F1.out, F2.out, F3.out, F4.out, F5.out, F6.out, F7.out, F8.out]
          refine wpAnyH_take (i := 3) (oi := ?_) (v := ?_) ?_ ?_ ?_ ?_ ?_ ?_ ?_ ?_
          rotate_left 2
          · (simp only [List.getElem?_toArray, List.getElem?_cons_succ, List.getElem?_cons_zero]; exact rfl)
          · kernel_rfl
          · kernel_rfl
          · kernel_rfl
          · exact fun _ _ _ h => h
          · first | (refine Or.inl ⟨by rfl, ?_⟩; intro w hSw; (try dsimp only at hSw); go_simp; try with_reducible rfl) | (refine Or.inr ⟨by rfl, ?_⟩; rfl)
          · assumption
          try simp only [Act.put, List.setIfInBounds_toArray, List.set_cons_zero, List.set_cons_succ]
          try simp only [F1.out, F2.out, F3.out, F4.out, F5.out, F6.out, F7.out, F8.out]
          refine wpAnyH_take (i := 4) (oi := ?_) (v := ?_) ?_ ?_ ?_ ?_ ?_ ?_ ?_ ?_
          rotate_left 2
          · (simp only [List.getElem?_toArray, List.getElem?_cons_succ, List.getElem?_cons_zero]; exact rfl)
          · kernel_rfl
          · kernel_rfl
          · kernel_rfl
          · exact fun _ _ _ h => h
          · first | (refine Or.inl ⟨by rfl, ?_⟩; intro w hSw; (try dsimp only at hSw); go_simp; try with_reducible rfl) | (refine Or.inr ⟨by rfl, ?_⟩; rfl)
          · assumption
          try simp only [Act.put, List.setIfInBounds_toArray, List.set_cons_zero, List.set_cons_succ]
          try simp only [F1.out, F2.out, F3.out, F4.out, F5.out, F6.out, F7.out, F8.out]
          refine wpAnyH_take (i := 6) (oi := ?_) (v := ?_) ?_ ?_ ?_ ?_ ?_ ?_ ?_ ?_
          rotate_left 2
          · (simp only [List.getElem?_toArray, List.getElem?_cons_succ, List.getElem?_cons_zero]; exact rfl)
          · kernel_rfl
          · kernel_rfl
          · kernel_rfl
          · exact fun _ _ _ h => h
          · first | (refine Or.inl ⟨by rfl, ?_⟩; intro w hSw; (try dsimp only at hSw); go_simp; try with_reducible rfl) | (refine Or.inr ⟨by rfl, ?_⟩; rfl)
          · assumption
          try simp only [Act.put, List.setIfInBounds_toArray, List.set_cons_zero, List.set_cons_succ]
          try simp only [F1.out, F2.out, F3.out, F4.out, F5.out, F6.out, F7.out, F8.out]
          refine wpAnyH_ready (rs := [10]) (by kernel_rfl) (by simp) ?_
          refine AllReadyH.cons (o := ?_) ?_ (fun K hK => ?_) ?_
          rotate_left 1
          · (simp only [List.getElem?_toArray, List.getElem?_cons_succ, List.getElem?_cons_zero]; exact rfl)
          · go_simp
            ((first | (go_at_call 34; (with_reducible refine (KIJ.out _ _ hx).mono ?_); rintro e wx ⟨rfl, hx⟩; dsimp only) | (go_at_call 66; (with_reducible refine (KT0.out _ _ hx).mono ?_); rintro e wx ⟨rfl, hx⟩; dsimp only) | (go_at_call 66; (with_reducible refine (KT1.out _ _ hx).mono ?_); rintro e wx ⟨rfl, hx⟩; dsimp only) | (go_at_call 44; (with_reducible refine (KNA.out _ _ hx).mono ?_); rintro e wx ⟨rfl, hx⟩; dsimp only) | (go_at_call 44; (with_reducible refine (KNB.out _ _ hx).mono ?_); rintro e wx ⟨rfl, hx⟩; dsimp only) | (go_at_call 67; (with_reducible refine (KF.out _ _ hx).mono ?_); rintro e wx ⟨rfl, hx⟩; dsimp only) | (go_at_call 65; (with_reducible refine (KJ.out _ _ hx).mono ?_); rintro e wx ⟨rfl, hx⟩; dsimp only)))
            refine hK.out _ _ ?_ (fun hHeld => ?_)
            · (try dsimp only) <;> (first | exact SX.out _ _ _ hx (by simp) (by simp) | exact SX.out _ _ _ (hx.alloc_ _) (by simp) (by simp))
            clear hK K
            try simp only [Act.put, List.setIfInBounds_toArray, List.set_cons_zero, List.set_cons_succ]
            try simp only [F1.out, F2.out, F3.out, F4.out, F5.out, F6.out, F7.out, F8.out]
            refine wpAnyH_take (i := 11) (oi := ?_) (v := ?_) ?_ ?_ ?_ ?_ ?_ ?_ ?_ ?_
            rotate_left 2
            · (simp only [List.getElem?_toArray, List.getElem?_cons_succ, List.getElem?_cons_zero]; exact rfl)
            · kernel_rfl
            · kernel_rfl
            · kernel_rfl
            · exact fun _ _ _ h => h
            · first | (refine Or.inl ⟨by rfl, ?_⟩; intro w hSw; (try dsimp only at hSw); go_simp; try with_reducible rfl) | (refine Or.inr ⟨by rfl, ?_⟩; rfl)
            · assumption
            try simp only [Act.put, List.setIfInBounds_toArray, List.set_cons_zero, List.set_cons_succ]
            try simp only [F1.out, F2.out, F3.out, F4.out, F5.out, F6.out, F7.out, F8.out]
            refine wpAnyH_ready (rs := [15]) (by kernel_rfl) (by simp) ?_
            refine AllReadyH.cons (o := ?_) ?_ (fun K hK => ?_) ?_
            rotate_left 1
            · (simp only [List.getElem?_toArray, List.getElem?_cons_succ, List.getElem?_cons_zero]; exact rfl)
            · go_simp
              ((first | (go_at_call 34; (with_reducible refine (KIJ.out _ _ hx).mono ?_); rintro e wx ⟨rfl, hx⟩; dsimp only) | (go_at_call 66; (with_reducible refine (KT0.out _ _ hx).mono ?_); rintro e wx ⟨rfl, hx⟩; dsimp only) | (go_at_call 66; (with_reducible refine (KT1.out _ _ hx).mono ?_); rintro e wx ⟨rfl, hx⟩; dsimp only) | (go_at_call 44; (with_reducible refine (KNA.out _ _ hx).mono ?_); rintro e wx ⟨rfl, hx⟩; dsimp only) | (go_at_call 44; (with_reducible refine (KNB.out _ _ hx).mono ?_); rintro e wx ⟨rfl, hx⟩; dsimp only) | (go_at_call 67; (with_reducible refine (KF.out _ _ hx).mono ?_); rintro e wx ⟨rfl, hx⟩; dsimp only) | (go_at_call 65; (with_reducible refine (KJ.out _ _ hx).mono ?_); rintro e wx ⟨rfl, hx⟩; dsimp only)))
              refine hK.out _ _ ?_ (fun hHeld => ?_)
              · (try dsimp only) <;> (first | exact SX.out _ _ _ hx (by simp) (by simp) | exact SX.out _ _ _ (hx.alloc_ _) (by simp) (by simp))
              clear hK K
              try simp only [Act.put, List.setIfInBounds_toArray, List.set_cons_zero, List.set_cons_succ]
              try simp only [F1.out, F2.out, F3.out, F4.out, F5.out, F6.out, F7.out, F8.out]
              refine wpAnyH_take (i := 16) (oi := ?_) (v := ?_) ?_ ?_ ?_ ?_ ?_ ?_ ?_ ?_
              rotate_left 2
              · (simp only [List.getElem?_toArray, List.getElem?_cons_succ, List.getElem?_cons_zero]; exact rfl)
              · kernel_rfl
              · kernel_rfl
              · kernel_rfl
              · exact fun _ _ _ h => h
              · first | (refine Or.inl ⟨by rfl, ?_⟩; intro w hSw; (try dsimp only at hSw); go_simp; try with_reducible rfl) | (refine Or.inr ⟨by rfl, ?_⟩; rfl)
              · assumption
              try simp only [Act.put, List.setIfInBounds_toArray, List.set_cons_zero, List.set_cons_succ]
              try simp only [F1.out, F2.out, F3.out, F4.out, F5.out, F6.out, F7.out, F8.out]
              refine wpAnyH_ready (rs := [19]) (by kernel_rfl) (by simp) ?_
              refine AllReadyH.cons (o := ?_) ?_ (fun K hK => ?_) ?_
              rotate_left 1
              · (simp only [List.getElem?_toArray, List.getElem?_cons_succ, List.getElem?_cons_zero]; exact rfl)
              · go_simp
                ((first | (go_at_call 34; (with_reducible refine (KIJ.out _ _ hx).mono ?_); rintro e wx ⟨rfl, hx⟩; dsimp only) | (go_at_call 66; (with_reducible refine (KT0.out _ _ hx).mono ?_); rintro e wx ⟨rfl, hx⟩; dsimp only) | (go_at_call 66; (with_reducible refine (KT1.out _ _ hx).mono ?_); rintro e wx ⟨rfl, hx⟩; dsimp only) | (go_at_call 44; (with_reducible refine (KNA.out _ _ hx).mono ?_); rintro e wx ⟨rfl, hx⟩; dsimp only) | (go_at_call 44; (with_reducible refine (KNB.out _ _ hx).mono ?_); rintro e wx ⟨rfl, hx⟩; dsimp only) | (go_at_call 67; (with_reducible refine (KF.out _ _ hx).mono ?_); rintro e wx ⟨rfl, hx⟩; dsimp only) | (go_at_call 65; (with_reducible refine (KJ.out _ _ hx).mono ?_); rintro e wx ⟨rfl, hx⟩; dsimp only)))
                refine hK.out _ _ ?_ (fun hHeld => ?_)
                · (try dsimp only) <;> (first | exact SX.out _ _ _ hx (by simp) (by simp) | exact SX.out _ _ _ (hx.alloc_ _) (by simp) (by simp))
                clear hK K
                try simp only [Act.put, List.setIfInBounds_toArray, List.set_cons_zero, List.set_cons_succ]
                try simp only [F1.out, F2.out, F3.out, F4.out, F5.out, F6.out, F7.out, F8.out]
                refine wpAnyH_take (i := 20) (oi := ?_) (v := ?_) ?_ ?_ ?_ ?_ ?_ ?_ ?_ ?_
                rotate_left 2
                · (simp only [List.getElem?_toArray, List.getElem?_cons_succ, List.getElem?_cons_zero]; exact rfl)
                · kernel_rfl
                · kernel_rfl
                · kernel_rfl
                · exact fun _ _ _ h => h
                · first | (refine Or.inl ⟨by rfl, ?_⟩; intro w hSw; (try dsimp only at hSw); go_simp; try with_reducible rfl) | (refine Or.inr ⟨by rfl, ?_⟩; rfl)
                · assumption
                try simp only [Act.put, List.setIfInBounds_toArray, List.set_cons_zero, List.set_cons_succ]
                try simp only [F1.out, F2.out, F3.out, F4.out, F5.out, F6.out, F7.out, F8.out]
                refine wpAnyH_ready (rs := [23]) (by kernel_rfl) (by simp) ?_
                refine AllReadyH.cons (o := ?_) ?_ (fun K hK => ?_) ?_
                rotate_left 1
                · (simp only [List.getElem?_toArray, List.getElem?_cons_succ, List.getElem?_cons_zero]; exact rfl)
                · go_simp
                  ((first | (go_at_call 34; (with_reducible refine (KIJ.out _ _ hx).mono ?_); rintro e wx ⟨rfl, hx⟩; dsimp only) | (go_at_call 66; (with_reducible refine (KT0.out _ _ hx).mono ?_); rintro e wx ⟨rfl, hx⟩; dsimp only) | (go_at_call 66; (with_reducible refine (KT1.out _ _ hx).mono ?_); rintro e wx ⟨rfl, hx⟩; dsimp only) | (go_at_call 44; (with_reducible refine (KNA.out _ _ hx).mono ?_); rintro e wx ⟨rfl, hx⟩; dsimp only) | (go_at_call 44; (with_reducible refine (KNB.out _ _ hx).mono ?_); rintro e wx ⟨rfl, hx⟩; dsimp only) | (go_at_call 67; (with_reducible refine (KF.out _ _ hx).mono ?_); rintro e wx ⟨rfl, hx⟩; dsimp only) | (go_at_call 65; (with_reducible refine (KJ.out _ _ hx).mono ?_); rintro e wx ⟨rfl, hx⟩; dsimp only)))
                  refine hK.out _ _ ?_ (fun hHeld => ?_)
                  · (try dsimp only) <;> (first | exact SX.out _ _ _ hx (by simp) (by simp) | exact SX.out _ _ _ (hx.alloc_ _) (by simp) (by simp))
                  clear hK K
                  try simp only [Act.put, List.setIfInBounds_toArray, List.set_cons_zero, List.set_cons_succ]
                  try simp only [F1.out, F2.out, F3.out, F4.out, F5.out, F6.out, F7.out, F8.out]
                  refine wpAnyH_take (i := 24) (oi := ?_) (v := ?_) ?_ ?_ ?_ ?_ ?_ ?_ ?_ ?_
                  rotate_left 2
                  · (simp only [List.getElem?_toArray, List.getElem?_cons_succ, List.getElem?_cons_zero]; exact rfl)
                  · kernel_rfl
                  · kernel_rfl
                  · kernel_rfl
                  · exact fun _ _ _ h => h
                  · first | (refine Or.inl ⟨by rfl, ?_⟩; intro w hSw; (try dsimp only at hSw); go_simp; try with_reducible rfl) | (refine Or.inr ⟨by rfl, ?_⟩; rfl)
                  · assumption
                  try simp only [Act.put, List.setIfInBounds_toArray, List.set_cons_zero, List.set_cons_succ]
                  try simp only [F1.out, F2.out, F3.out, F4.out, F5.out, F6.out, F7.out, F8.out]
                  refine wpAnyH_ready (rs := [27]) (by kernel_rfl) (by simp) ?_
                  refine AllReadyH.cons (o := ?_) ?_ (fun K hK => ?_) ?_
                  rotate_left 1
                  · (simp only [List.getElem?_toArray, List.getElem?_cons_succ, List.getElem?_cons_zero]; exact rfl)
                  · go_simp
                    ((first | (go_at_call 34; (with_reducible refine (KIJ.out _ _ hx).mono ?_); rintro e wx ⟨rfl, hx⟩; dsimp only) | (go_at_call 66; (with_reducible refine (KT0.out _ _ hx).mono ?_); rintro e wx ⟨rfl, hx⟩; dsimp only) | (go_at_call 66; (with_reducible refine (KT1.out _ _ hx).mono ?_); rintro e wx ⟨rfl, hx⟩; dsimp only) | (go_at_call 44; (with_reducible refine (KNA.out _ _ hx).mono ?_); rintro e wx ⟨rfl, hx⟩; dsimp only) | (go_at_call 44; (with_reducible refine (KNB.out _ _ hx).mono ?_); rintro e wx ⟨rfl, hx⟩; dsimp only) | (go_at_call 67; (with_reducible refine (KF.out _ _ hx).mono ?_); rintro e wx ⟨rfl, hx⟩; dsimp only) | (go_at_call 65; (with_reducible refine (KJ.out _ _ hx).mono ?_); rintro e wx ⟨rfl, hx⟩; dsimp only)))
                    refine hK.out _ _ ?_ (fun hHeld => ?_)
                    · (try dsimp only) <;> (first | exact SX.out _ _ _ hx (by simp) (by simp) | exact SX.out _ _ _ (hx.alloc_ _) (by simp) (by simp))
                    clear hK K
                    try simp only [Act.put, List.setIfInBounds_toArray, List.set_cons_zero, List.set_cons_succ]
                    try simp only [F1.out, F2.out, F3.out, F4.out, F5.out, F6.out, F7.out, F8.out]
                    refine wpAnyH_take (i := 28) (oi := ?_) (v := ?_) ?_ ?_ ?_ ?_ ?_ ?_ ?_ ?_
                    rotate_left 2
                    · (simp only [List.getElem?_toArray, List.getElem?_cons_succ, List.getElem?_cons_zero]; exact rfl)
                    · kernel_rfl
                    · kernel_rfl
                    · kernel_rfl
                    · exact fun _ _ _ h => h
                    · first | (refine Or.inl ⟨by rfl, ?_⟩; intro w hSw; (try dsimp only at hSw); go_simp; try with_reducible rfl) | (refine Or.inr ⟨by rfl, ?_⟩; rfl)
                    · assumption
                    try simp only [Act.put, List.setIfInBounds_toArray, List.set_cons_zero, List.set_cons_succ]
                    try simp only [F1.out, F2.out, F3.out, F4.out, F5.out, F6.out, F7.out, F8.out]
                    refine wpAnyH_ready (rs := [29]) (by kernel_rfl) (by simp) ?_
                    refine AllReadyH.cons (o := ?_) ?_ (fun K hK => ?_) ?_
                    rotate_left 1
                    · (simp only [List.getElem?_toArray, List.getElem?_cons_succ, List.getElem?_cons_zero]; exact rfl)
                    · go_simp
                      refine hK.out _ _ ?_ (fun hHeld => ?_)
                      · (try dsimp only) <;> (first | exact SX.out _ _ _ hx (by simp) (by simp) | exact SX.out _ _ _ (hx.alloc_ _) (by simp) (by simp))
                      clear hK K
                      try simp only [Act.put, List.setIfInBounds_toArray, List.set_cons_zero, List.set_cons_succ]
                      try simp only [F1.out, F2.out, F3.out, F4.out, F5.out, F6.out, F7.out, F8.out]
                      refine wpAnyH_ready (rs := [30]) (by kernel_rfl) (by simp) ?_
                      refine AllReadyH.cons (o := ?_) ?_ (fun K hK => ?_) ?_
                      rotate_left 1
                      · (simp only [List.getElem?_toArray, List.getElem?_cons_succ, List.getElem?_cons_zero]; exact rfl)
                      · go_simp
                        ((first | (go_at_call 34; (with_reducible refine (KIJ.out _ _ hx).mono ?_); rintro e wx ⟨rfl, hx⟩; dsimp only) | (go_at_call 66; (with_reducible refine (KT0.out _ _ hx).mono ?_); rintro e wx ⟨rfl, hx⟩; dsimp only) | (go_at_call 66; (with_reducible refine (KT1.out _ _ hx).mono ?_); rintro e wx ⟨rfl, hx⟩; dsimp only) | (go_at_call 44; (with_reducible refine (KNA.out _ _ hx).mono ?_); rintro e wx ⟨rfl, hx⟩; dsimp only) | (go_at_call 44; (with_reducible refine (KNB.out _ _ hx).mono ?_); rintro e wx ⟨rfl, hx⟩; dsimp only) | (go_at_call 67; (with_reducible refine (KF.out _ _ hx).mono ?_); rintro e wx ⟨rfl, hx⟩; dsimp only) | (go_at_call 65; (with_reducible refine (KJ.out _ _ hx).mono ?_); rintro e wx ⟨rfl, hx⟩; dsimp only)))
                        refine hK.out _ _ ?_ (fun hHeld => ?_)
                        · (try dsimp only) <;> (first | exact SX.out _ _ _ hx (by simp) (by simp) | exact SX.out _ _ _ (hx.alloc_ _) (by simp) (by simp))
                        clear hK K
                        try simp only [Act.put, List.setIfInBounds_toArray, List.set_cons_zero, List.set_cons_succ]
                        try simp only [F1.out, F2.out, F3.out, F4.out, F5.out, F6.out, F7.out, F8.out]
                        refine wpAnyH_take (i := 31) (oi := ?_) (v := ?_) ?_ ?_ ?_ ?_ ?_ ?_ ?_ ?_
                        rotate_left 2
                        · (simp only [List.getElem?_toArray, List.getElem?_cons_succ, List.getElem?_cons_zero]; exact rfl)
                        · kernel_rfl
                        · kernel_rfl
                        · kernel_rfl
                        · exact fun _ _ _ h => h
                        · first | (refine Or.inl ⟨by rfl, ?_⟩; intro w hSw; (try dsimp only at hSw); go_simp; try with_reducible rfl) | (refine Or.inr ⟨by rfl, ?_⟩; rfl)
                        · assumption
                        try simp only [Act.put, List.setIfInBounds_toArray, List.set_cons_zero, List.set_cons_succ]
                        try simp only [F1.out, F2.out, F3.out, F4.out, F5.out, F6.out, F7.out, F8.out]
                        refine wpAnyH_done (by kernel_rfl) ?_ _
                        have HY := Lib.hid hx
                        clear hx SX
                        go_wp2_with fail
                        go_ret
                        exact ⟨rfl, St.weaken (A := [_, _]) HY.out⟩
                      exact AllReadyH.nil
                    exact AllReadyH.nil
                  exact AllReadyH.nil
                exact AllReadyH.nil
              exact AllReadyH.nil
            exact AllReadyH.nil
          exact AllReadyH.nil
        exact AllReadyH.nil
    · have e := HSF.out
      rw [if_neg (by omega)] at e
      have hb9 := HBST.out
      rw [e] at hb9
      subst hb9
      have z3b : ¬ (9223372036854775807 < b2.size + 1) := z3
      have k0 : ¬ (r.state < 0) := by omega
      have k3 : (r.state == 3) = false := beq_eq_false_iff_ne.2 (by omega)
      have h4 := H0.out.alloc (.cells Tryd.zeroCells42 42)
      rw [World.size_alloc, hb] at h4
      obtain ⟨b4, hb4⟩ : ∃ x, b + 1 = x := ⟨_, rfl⟩
      rw [hb4] at h4
      have HX := H0; have H4 := Lib.hid h4
      clear h4 H0 e KIF
      go_enter Tryd.func45, Tryd.ntmps45
      go_wp2_with (first | (with_reducible refine wpList_load_st rfl 42 (.tmp 26) rfl (g := b) (off := 5) rfl HX.out (cs := R) (t := 44) (fr := (0, 0)) (by simp) T HTAB.out _ Tryd.underlying42 rfl INF.out ?_) | (with_reducible refine wpList_store_st rfl 42 (.tmp 4) (.tmp 27) rfl (off := 0) T rfl rfl H4.out FZ.out INF.out ONE.out ?_; intro w5 h5; rw [MZ.out] at h5; have H5 := Lib.hid h5; clear h5))
      have hx := H5.out.drew1
      clear H4 HX
      refine wp_region_held_drew (S := fun v => (v.cell? ⟨b, 1, none⟩ = some (.int .i64 r.job) ∧ v.cell? ⟨b4, 72, none⟩ = some (.int .i64 r.act) ∧ v.cell? ⟨b4, 73, none⟩ = some (.int .i64 r.boo) ∧ v.cell? ⟨b4, 74, none⟩ = some (.int .u64 r.flo) ∧ v.rangeAt b4 0 C0.toList ∧ v.rangeAt b4 36 C1.toList)) (by kernel_rfl) (SX.out _ _ _ hx (by simp) (by simp)) (fun hHeld => ?_)
      refine wpAnyH_take (i := 0) (oi := ?_) (v := ?_) ?_ ?_ ?_ ?_ ?_ ?_ ?_ ?_
      rotate_left 2
      · (simp only [List.getElem?_toArray, List.getElem?_cons_succ, List.getElem?_cons_zero]; exact rfl)
      · kernel_rfl
      · kernel_rfl
      · kernel_rfl
      · exact fun _ _ _ h => h
      · first | (refine Or.inl ⟨by rfl, ?_⟩; intro w hSw; (try dsimp only at hSw); go_simp; try with_reducible rfl) | (refine Or.inr ⟨by rfl, ?_⟩; rfl)
      · assumption
      try simp only [Act.put, List.setIfInBounds_toArray, List.set_cons_zero, List.set_cons_succ]
      try simp only [F1.out, F2.out, F3.out, F4.out, F5.out, F6.out, F7.out, F8.out]
      refine wpAnyH_take (i := 1) (oi := ?_) (v := ?_) ?_ ?_ ?_ ?_ ?_ ?_ ?_ ?_
      rotate_left 2
      · (simp only [List.getElem?_toArray, List.getElem?_cons_succ, List.getElem?_cons_zero]; exact rfl)
      · kernel_rfl
      · kernel_rfl
      · kernel_rfl
      · exact fun _ _ _ h => h
      · first | (first | ((refine yieldsIf_load_mid ?_ 39 (.tmp 36) ?_ b4 0 ?_ C0.toList _ ?_ HUL.out ?_ HM0.out) <;> first | rfl | exact fun w h => h.2.2.2.2.1) | ((refine yieldsIf_load_mid ?_ 39 (.tmp 41) ?_ b4 36 ?_ C1.toList _ ?_ HUL.out ?_ HM1.out) <;> first | rfl | exact fun w h => h.2.2.2.2.2) | (refine Or.inl ⟨by rfl, ?_⟩; intro w hSw; obtain ⟨hS1, hS2, hS3, hS4, hS5, hS6⟩ := hSw; go_simp; try with_reducible rfl)) | (refine Or.inr ⟨by rfl, ?_⟩; rfl)
      · assumption
      try simp only [Act.put, List.setIfInBounds_toArray, List.set_cons_zero, List.set_cons_succ]
      try simp only [F1.out, F2.out, F3.out, F4.out, F5.out, F6.out, F7.out, F8.out]
      refine wpAnyH_take (i := 5) (oi := ?_) (v := ?_) ?_ ?_ ?_ ?_ ?_ ?_ ?_ ?_
      rotate_left 2
      · (simp only [List.getElem?_toArray, List.getElem?_cons_succ, List.getElem?_cons_zero]; exact rfl)
      · kernel_rfl
      · kernel_rfl
      · kernel_rfl
      · exact fun _ _ _ h => h
      · first | (refine Or.inl ⟨by rfl, ?_⟩; intro w hSw; (try dsimp only at hSw); go_simp; try with_reducible rfl) | (refine Or.inr ⟨by rfl, ?_⟩; rfl)
      · assumption
      try simp only [Act.put, List.setIfInBounds_toArray, List.set_cons_zero, List.set_cons_succ]
      try simp only [F1.out, F2.out, F3.out, F4.out, F5.out, F6.out, F7.out, F8.out]
      refine wpAnyH_take (i := 7) (oi := ?_) (v := ?_) ?_ ?_ ?_ ?_ ?_ ?_ ?_ ?_
      rotate_left 2
      · (simp only [List.getElem?_toArray, List.getElem?_cons_succ, List.getElem?_cons_zero]; exact rfl)
      · kernel_rfl
      · kernel_rfl
      · kernel_rfl
      · exact fun _ _ _ h => h
      · first | (refine Or.inl ⟨by rfl, ?_⟩; intro w hSw; (try dsimp only at hSw); go_simp; try with_reducible rfl) | (refine Or.inr ⟨by rfl, ?_⟩; rfl)
      · assumption
      try simp only [Act.put, List.setIfInBounds_toArray, List.set_cons_zero, List.set_cons_succ]
      try simp only [F1.out, F2.out, F3.out, F4.out, F5.out, F6.out, F7.out, F8.out]
      refine wpAnyH_take (i := 8) (oi := ?_) (v := ?_) ?_ ?_ ?_ ?_ ?_ ?_ ?_ ?_
      rotate_left 2
      · (simp only [List.getElem?_toArray, List.getElem?_cons_succ, List.getElem?_cons_zero]; exact rfl)
      · kernel_rfl
      · kernel_rfl
      · kernel_rfl
      · exact fun _ _ _ h => h
      · first | (refine Or.inl ⟨by rfl, ?_⟩; intro w hSw; (try dsimp only at hSw); go_simp; try with_reducible rfl) | (refine Or.inr ⟨by rfl, ?_⟩; rfl)
      · assumption
      try simp only [Act.put, List.setIfInBounds_toArray, List.set_cons_zero, List.set_cons_succ]
      try simp only [F1.out, F2.out, F3.out, F4.out, F5.out, F6.out, F7.out, F8.out]
      refine wpAnyH_take (i := 9) (oi := ?_) (v := ?_) ?_ ?_ ?_ ?_ ?_ ?_ ?_ ?_
      rotate_left 2
      · (simp only [List.getElem?_toArray, List.getElem?_cons_succ, List.getElem?_cons_zero]; exact rfl)
      · kernel_rfl
      · kernel_rfl
      · kernel_rfl
      · exact fun _ _ _ h => h
      · first | (first | ((refine yieldsIf_load_mid ?_ 39 (.tmp 36) ?_ b4 0 ?_ C0.toList _ ?_ HUL.out ?_ HM0.out) <;> first | rfl | exact fun w h => h.2.2.2.2.1) | ((refine yieldsIf_load_mid ?_ 39 (.tmp 41) ?_ b4 36 ?_ C1.toList _ ?_ HUL.out ?_ HM1.out) <;> first | rfl | exact fun w h => h.2.2.2.2.2) | (refine Or.inl ⟨by rfl, ?_⟩; intro w hSw; obtain ⟨hS1, hS2, hS3, hS4, hS5, hS6⟩ := hSw; go_simp; try with_reducible rfl)) | (refine Or.inr ⟨by rfl, ?_⟩; rfl)
      · assumption
      try simp only [Act.put, List.setIfInBounds_toArray, List.set_cons_zero, List.set_cons_succ]
      try simp only [F1.out, F2.out, F3.out, F4.out, F5.out, F6.out, F7.out, F8.out]
      refine wpAnyH_take (i := 12) (oi := ?_) (v := ?_) ?_ ?_ ?_ ?_ ?_ ?_ ?_ ?_
      rotate_left 2
      · (simp only [List.getElem?_toArray, List.getElem?_cons_succ, List.getElem?_cons_zero]; exact rfl)
      · kernel_rfl
      · kernel_rfl
      · kernel_rfl
      · exact fun _ _ _ h => h
      · first | (refine Or.inl ⟨by rfl, ?_⟩; intro w hSw; (try dsimp only at hSw); go_simp; try with_reducible rfl) | (refine Or.inr ⟨by rfl, ?_⟩; rfl)
      · assumption
      try simp only [Act.put, List.setIfInBounds_toArray, List.set_cons_zero, List.set_cons_succ]
      try simp only [F1.out, F2.out, F3.out, F4.out, F5.out, F6.out, F7.out, F8.out]
      refine wpAnyH_take (i := 13) (oi := ?_) (v := ?_) ?_ ?_ ?_ ?_ ?_ ?_ ?_ ?_
      rotate_left 2
      · (simp only [List.getElem?_toArray, List.getElem?_cons_succ, List.getElem?_cons_zero]; exact rfl)
      · kernel_rfl
      · kernel_rfl
      · kernel_rfl
      · exact fun _ _ _ h => h
      · first | (refine Or.inl ⟨by rfl, ?_⟩; intro w hSw; (try dsimp only at hSw); go_simp; try with_reducible rfl) | (refine Or.inr ⟨by rfl, ?_⟩; rfl)
      · assumption
      try simp only [Act.put, List.setIfInBounds_toArray, List.set_cons_zero, List.set_cons_succ]
      try simp only [F1.out, F2.out, F3.out, F4.out, F5.out, F6.out, F7.out, F8.out]
      refine wpAnyH_take (i := 14) (oi := ?_) (v := ?_) ?_ ?_ ?_ ?_ ?_ ?_ ?_ ?_
      rotate_left 2
      · (simp only [List.getElem?_toArray, List.getElem?_cons_succ, List.getElem?_cons_zero]; exact rfl)
      · kernel_rfl
      · kernel_rfl
      · kernel_rfl
      · exact fun _ _ _ h => h
      · first | (first | ((refine yieldsIf_load_mid ?_ 39 (.tmp 36) ?_ b4 0 ?_ C0.toList _ ?_ HUL.out ?_ HM0.out) <;> first | rfl | exact fun w h => h.2.2.2.2.1) | ((refine yieldsIf_load_mid ?_ 39 (.tmp 41) ?_ b4 36 ?_ C1.toList _ ?_ HUL.out ?_ HM1.out) <;> first | rfl | exact fun w h => h.2.2.2.2.2) | (refine Or.inl ⟨by rfl, ?_⟩; intro w hSw; obtain ⟨hS1, hS2, hS3, hS4, hS5, hS6⟩ := hSw; go_simp; try with_reducible rfl)) | (refine Or.inr ⟨by rfl, ?_⟩; rfl)
      · assumption
      try simp only [Act.put, List.setIfInBounds_toArray, List.set_cons_zero, List.set_cons_succ]
      try simp only [F1.out, F2.out, F3.out, F4.out, F5.out, F6.out, F7.out, F8.out]
      refine wpAnyH_take (i := 17) (oi := ?_) (v := ?_) ?_ ?_ ?_ ?_ ?_ ?_ ?_ ?_
      rotate_left 2
      · (simp only [List.getElem?_toArray, List.getElem?_cons_succ, List.getElem?_cons_zero]; exact rfl)
      · kernel_rfl
      · kernel_rfl
      · kernel_rfl
      · exact fun _ _ _ h => h
      · first | (refine Or.inl ⟨by rfl, ?_⟩; intro w hSw; (try dsimp only at hSw); go_simp; try with_reducible rfl) | (refine Or.inr ⟨by rfl, ?_⟩; rfl)
      · assumption
      try simp only [Act.put, List.setIfInBounds_toArray, List.set_cons_zero, List.set_cons_succ]
      try simp only [F1.out, F2.out, F3.out, F4.out, F5.out, F6.out, F7.out, F8.out]
      refine wpAnyH_take (i := 18) (oi := ?_) (v := ?_) ?_ ?_ ?_ ?_ ?_ ?_ ?_ ?_
      rotate_left 2
      · (simp only [List.getElem?_toArray, List.getElem?_cons_succ, List.getElem?_cons_zero]; exact rfl)
      · kernel_rfl
      · kernel_rfl
      · kernel_rfl
      · exact fun _ _ _ h => h
      · first | (first | ((refine yieldsIf_load_mid ?_ 39 (.tmp 36) ?_ b4 0 ?_ C0.toList _ ?_ HUL.out ?_ HM0.out) <;> first | rfl | exact fun w h => h.2.2.2.2.1) | ((refine yieldsIf_load_mid ?_ 39 (.tmp 41) ?_ b4 36 ?_ C1.toList _ ?_ HUL.out ?_ HM1.out) <;> first | rfl | exact fun w h => h.2.2.2.2.2) | (refine Or.inl ⟨by rfl, ?_⟩; intro w hSw; obtain ⟨hS1, hS2, hS3, hS4, hS5, hS6⟩ := hSw; go_simp; try with_reducible rfl)) | (refine Or.inr ⟨by rfl, ?_⟩; rfl)
      · assumption
      try simp only [Act.put, List.setIfInBounds_toArray, List.set_cons_zero, List.set_cons_succ]
      try simp only [F1.out, F2.out, F3.out, F4.out, F5.out, F6.out, F7.out, F8.out]
      refine wpAnyH_take (i := 21) (oi := ?_) (v := ?_) ?_ ?_ ?_ ?_ ?_ ?_ ?_ ?_
      rotate_left 2
      · (simp only [List.getElem?_toArray, List.getElem?_cons_succ, List.getElem?_cons_zero]; exact rfl)
      · kernel_rfl
      · kernel_rfl
      · kernel_rfl
      · exact fun _ _ _ h => h
      · first | (refine Or.inl ⟨by rfl, ?_⟩; intro w hSw; (try dsimp only at hSw); go_simp; try with_reducible rfl) | (refine Or.inr ⟨by rfl, ?_⟩; rfl)
      · assumption
      try simp only [Act.put, List.setIfInBounds_toArray, List.set_cons_zero, List.set_cons_succ]
      try simp only [F1.out, F2.out, F3.out, F4.out, F5.out, F6.out, F7.out, F8.out]
      refine wpAnyH_take (i := 22) (oi := ?_) (v := ?_) ?_ ?_ ?_ ?_ ?_ ?_ ?_ ?_
      rotate_left 2
      · (simp only [List.getElem?_toArray, List.getElem?_cons_succ, List.getElem?_cons_zero]; exact rfl)
      · kernel_rfl
      · kernel_rfl
      · kernel_rfl
      · exact fun _ _ _ h => h
      · first | (first | ((refine yieldsIf_load_mid ?_ 39 (.tmp 36) ?_ b4 0 ?_ C0.toList _ ?_ HUL.out ?_ HM0.out) <;> first | rfl | exact fun w h => h.2.2.2.2.1) | ((refine yieldsIf_load_mid ?_ 39 (.tmp 41) ?_ b4 36 ?_ C1.toList _ ?_ HUL.out ?_ HM1.out) <;> first | rfl | exact fun w h => h.2.2.2.2.2) | (refine Or.inl ⟨by rfl, ?_⟩; intro w hSw; obtain ⟨hS1, hS2, hS3, hS4, hS5, hS6⟩ := hSw; go_simp; try with_reducible rfl)) | (refine Or.inr ⟨by rfl, ?_⟩; rfl)
      · assumption
      try simp only [Act.put, List.setIfInBounds_toArray, List.set_cons_zero, List.set_cons_succ]
      try simp only [F1.out, F2.out, F3.out, F4.out, F5.out, F6.out, F7.out, F8.out]
      refine wpAnyH_take (i := 25) (oi := ?_) (v := ?_) ?_ ?_ ?_ ?_ ?_ ?_ ?_ ?_
      rotate_left 2
      · (simp only [List.getElem?_toArray, List.getElem?_cons_succ, List.getElem?_cons_zero]; exact rfl)
      · kernel_rfl
      · kernel_rfl
      · kernel_rfl
      · exact fun _ _ _ h => h
      · first | (refine Or.inl ⟨by rfl, ?_⟩; intro w hSw; (try dsimp only at hSw); go_simp; try with_reducible rfl) | (refine Or.inr ⟨by rfl, ?_⟩; rfl)
      · assumption
      try simp only [Act.put, List.setIfInBounds_toArray, List.set_cons_zero, List.set_cons_succ]
      try simp only [F1.out, F2.out, F3.out, F4.out, F5.out, F6.out, F7.out, F8.out]
      refine wpAnyH_take (i := 26) (oi := ?_) (v := ?_) ?_ ?_ ?_ ?_ ?_ ?_ ?_ ?_
      rotate_left 2
      · (simp only [List.getElem?_toArray, List.getElem?_cons_succ, List.getElem?_cons_zero]; exact rfl)
      · kernel_rfl
      · kernel_rfl
      · kernel_rfl
      · exact fun _ _ _ h => h
      · first | (first | ((refine yieldsIf_load_mid ?_ 39 (.tmp 36) ?_ b4 0 ?_ C0.toList _ ?_ HUL.out ?_ HM0.out) <;> first | rfl | exact fun w h => h.2.2.2.2.1) | ((refine yieldsIf_load_mid ?_ 39 (.tmp 41) ?_ b4 36 ?_ C1.toList _ ?_ HUL.out ?_ HM1.out) <;> first | rfl | exact fun w h => h.2.2.2.2.2) | (refine Or.inl ⟨by rfl, ?_⟩; intro w hSw; obtain ⟨hS1, hS2, hS3, hS4, hS5, hS6⟩ := hSw; go_simp; try with_reducible rfl)) | (refine Or.inr ⟨by rfl, ?_⟩; rfl)
      · assumption
      try simp only [Act.put, List.setIfInBounds_toArray, List.set_cons_zero, List.set_cons_succ]
      try simp only [F1.out, F2.out, F3.out, F4.out, F5.out, F6.out, F7.out, F8.out]
      refine wpAnyH_ready (rs := [2]) (by kernel_rfl) (by simp) ?_
      refine AllReadyH.cons (o := ?_) ?_ (fun K hK => ?_) ?_
      rotate_left 1
      · (simp only [List.getElem?_toArray, List.getElem?_cons_succ, List.getElem?_cons_zero]; exact rfl)
      · go_simp
        ((first | (go_at_call 34; (with_reducible refine (KIJ.out _ _ hx).mono ?_); rintro e wx ⟨rfl, hx⟩; dsimp only) | (go_at_call 66; (with_reducible refine (KT0.out _ _ hx).mono ?_); rintro e wx ⟨rfl, hx⟩; dsimp only) | (go_at_call 66; (with_reducible refine (KT1.out _ _ hx).mono ?_); rintro e wx ⟨rfl, hx⟩; dsimp only) | (go_at_call 44; (with_reducible refine (KNA.out _ _ hx).mono ?_); rintro e wx ⟨rfl, hx⟩; dsimp only) | (go_at_call 44; (with_reducible refine (KNB.out _ _ hx).mono ?_); rintro e wx ⟨rfl, hx⟩; dsimp only) | (go_at_call 67; (with_reducible refine (KF.out _ _ hx).mono ?_); rintro e wx ⟨rfl, hx⟩; dsimp only) | (go_at_call 65; (with_reducible refine (KJ.out _ _ hx).mono ?_); rintro e wx ⟨rfl, hx⟩; dsimp only)))
        refine hK.out _ _ ?_ (fun hHeld => ?_)
        · (try dsimp only) <;> (first | exact SX.out _ _ _ hx (by simp) (by simp) | exact SX.out _ _ _ (hx.alloc_ _) (by simp) (by simp))
        clear hK K
        try simp only [Act.put, List.setIfInBounds_toArray, List.set_cons_zero, List.set_cons_succ]
        try simp only [F1.out, F2.out, F3.out, F4.out, F5.out, F6.out, F7.out, F8.out]
        refine wpAnyH_take (i := 3) (oi := ?_) (v := ?_) ?_ ?_ ?_ ?_ ?_ ?_ ?_ ?_
        rotate_left 2
        · (simp only [List.getElem?_toArray, List.getElem?_cons_succ, List.getElem?_cons_zero]; exact rfl)
        · kernel_rfl
        · kernel_rfl
        · kernel_rfl
        · exact fun _ _ _ h => h
        · first | (refine Or.inl ⟨by rfl, ?_⟩; intro w hSw; (try dsimp only at hSw); go_simp; try with_reducible rfl) | (refine Or.inr ⟨by rfl, ?_⟩; rfl)
        · assumption
        try simp only [Act.put, List.setIfInBounds_toArray, List.set_cons_zero, List.set_cons_succ]
        try simp only [F1.out, F2.out, F3.out, F4.out, F5.out, F6.out, F7.out, F8.out]
        refine wpAnyH_take (i := 4) (oi := ?_) (v := ?_) ?_ ?_ ?_ ?_ ?_ ?_ ?_ ?_
        rotate_left 2
        · (simp only [List.getElem?_toArray, List.getElem?_cons_succ, List.getElem?_cons_zero]; exact rfl)
        · kernel_rfl
        · kernel_rfl
        · kernel_rfl
        · exact fun _ _ _ h => h
        · first | (refine Or.inl ⟨by rfl, ?_⟩; intro w hSw; (try dsimp only at hSw); go_simp; try with_reducible rfl) | (refine Or.inr ⟨by rfl, ?_⟩; rfl)
        · assumption
        try simp only [Act.put, List.setIfInBounds_toArray, List.set_cons_zero, List.set_cons_succ]
        try simp only [F1.out, F2.out, F3.out, F4.out, F5.out, F6.out, F7.out, F8.out]
        refine wpAnyH_take (i := 6) (oi := ?_) (v := ?_) ?_ ?_ ?_ ?_ ?_ ?_ ?_ ?_
        rotate_left 2
        · (simp only [List.getElem?_toArray, List.getElem?_cons_succ, List.getElem?_cons_zero]; exact rfl)
        · kernel_rfl
        · kernel_rfl
        · kernel_rfl
        · exact fun _ _ _ h => h
        · first | (refine Or.inl ⟨by rfl, ?_⟩; intro w hSw; (try dsimp only at hSw); go_simp; try with_reducible rfl) | (refine Or.inr ⟨by rfl, ?_⟩; rfl)
        · assumption
        try simp only [Act.put, List.setIfInBounds_toArray, List.set_cons_zero, List.set_cons_succ]
        try simp only [F1.out, F2.out, F3.out, F4.out, F5.out, F6.out, F7.out, F8.out]
        refine wpAnyH_ready (rs := [10]) (by kernel_rfl) (by simp) ?_
        refine AllReadyH.cons (o := ?_) ?_ (fun K hK => ?_) ?_
        rotate_left 1
        · (simp only [List.getElem?_toArray, List.getElem?_cons_succ, List.getElem?_cons_zero]; exact rfl)
        · go_simp
          ((first | (go_at_call 34; (with_reducible refine (KIJ.out _ _ hx).mono ?_); rintro e wx ⟨rfl, hx⟩; dsimp only) | (go_at_call 66; (with_reducible refine (KT0.out _ _ hx).mono ?_); rintro e wx ⟨rfl, hx⟩; dsimp only) | (go_at_call 66; (with_reducible refine (KT1.out _ _ hx).mono ?_); rintro e wx ⟨rfl, hx⟩; dsimp only) | (go_at_call 44; (with_reducible refine (KNA.out _ _ hx).mono ?_); rintro e wx ⟨rfl, hx⟩; dsimp only) | (go_at_call 44; (with_reducible refine (KNB.out _ _ hx).mono ?_); rintro e wx ⟨rfl, hx⟩; dsimp only) | (go_at_call 67; (with_reducible refine (KF.out _ _ hx).mono ?_); rintro e wx ⟨rfl, hx⟩; dsimp only) | (go_at_call 65; (with_reducible refine (KJ.out _ _ hx).mono ?_); rintro e wx ⟨rfl, hx⟩; dsimp only)))
          refine hK.out _ _ ?_ (fun hHeld => ?_)
          · (try dsimp only) <;> (first | exact SX.out _ _ _ hx (by simp) (by simp) | exact SX.out _ _ _ (hx.alloc_ _) (by simp) (by simp))
          clear hK K
          try simp only [Act.put, List.setIfInBounds_toArray, List.set_cons_zero, List.set_cons_succ]
          try simp only [F1.out, F2.out, F3.out, F4.out, F5.out, F6.out, F7.out, F8.out]
          refine wpAnyH_take (i := 11) (oi := ?_) (v := ?_) ?_ ?_ ?_ ?_ ?_ ?_ ?_ ?_
          rotate_left 2
          · (simp only [List.getElem?_toArray, List.getElem?_cons_succ, List.getElem?_cons_zero]; exact rfl)
          · kernel_rfl
          · kernel_rfl
          · kernel_rfl
          · exact fun _ _ _ h => h
          · first | (refine Or.inl ⟨by rfl, ?_⟩; intro w hSw; (try dsimp only at hSw); go_simp; try with_reducible rfl) | (refine Or.inr ⟨by rfl, ?_⟩; rfl)
          · assumption
          try simp only [Act.put, List.setIfInBounds_toArray, List.set_cons_zero, List.set_cons_succ]
          try simp only [F1.out, F2.out, F3.out, F4.out, F5.out, F6.out, F7.out, F8.out]
          refine wpAnyH_ready (rs := [15]) (by kernel_rfl) (by simp) ?_
          refine AllReadyH.cons (o := ?_) ?_ (fun K hK => ?_) ?_
          rotate_left 1
          · (simp only [List.getElem?_toArray, List.getElem?_cons_succ, List.getElem?_cons_zero]; exact rfl)
          · go_simp
            ((first | (go_at_call 34; (with_reducible refine (KIJ.out _ _ hx).mono ?_); rintro e wx ⟨rfl, hx⟩; dsimp only) | (go_at_call 66; (with_reducible refine (KT0.out _ _ hx).mono ?_); rintro e wx ⟨rfl, hx⟩; dsimp only) | (go_at_call 66; (with_reducible refine (KT1.out _ _ hx).mono ?_); rintro e wx ⟨rfl, hx⟩; dsimp only) | (go_at_call 44; (with_reducible refine (KNA.out _ _ hx).mono ?_); rintro e wx ⟨rfl, hx⟩; dsimp only) | (go_at_call 44; (with_reducible refine (KNB.out _ _ hx).mono ?_); rintro e wx ⟨rfl, hx⟩; dsimp only) | (go_at_call 67; (with_reducible refine (KF.out _ _ hx).mono ?_); rintro e wx ⟨rfl, hx⟩; dsimp only) | (go_at_call 65; (with_reducible refine (KJ.out _ _ hx).mono ?_); rintro e wx ⟨rfl, hx⟩; dsimp only)))
            refine hK.out _ _ ?_ (fun hHeld => ?_)
            · (try dsimp only) <;> (first | exact SX.out _ _ _ hx (by simp) (by simp) | exact SX.out _ _ _ (hx.alloc_ _) (by simp) (by simp))
            clear hK K
            try simp only [Act.put, List.setIfInBounds_toArray, List.set_cons_zero, List.set_cons_succ]
            try simp only [F1.out, F2.out, F3.out, F4.out, F5.out, F6.out, F7.out, F8.out]
            refine wpAnyH_take (i := 16) (oi := ?_) (v := ?_) ?_ ?_ ?_ ?_ ?_ ?_ ?_ ?_
            rotate_left 2
            · (simp only [List.getElem?_toArray, List.getElem?_cons_succ, List.getElem?_cons_zero]; exact rfl)
            · kernel_rfl
            · kernel_rfl
            · kernel_rfl
            · exact fun _ _ _ h => h
            · first | (refine Or.inl ⟨by rfl, ?_⟩; intro w hSw; (try dsimp only at hSw); go_simp; try with_reducible rfl) | (refine Or.inr ⟨by rfl, ?_⟩; rfl)
            · assumption
            try simp only [Act.put, List.setIfInBounds_toArray, List.set_cons_zero, List.set_cons_succ]
            try simp only [F1.out, F2.out, F3.out, F4.out, F5.out, F6.out, F7.out, F8.out]
            refine wpAnyH_ready (rs := [19]) (by kernel_rfl) (by simp) ?_
            refine AllReadyH.cons (o := ?_) ?_ (fun K hK => ?_) ?_
            rotate_left 1
            · (simp only [List.getElem?_toArray, List.getElem?_cons_succ, List.getElem?_cons_zero]; exact rfl)
            · go_simp
              ((first | (go_at_call 34; (with_reducible refine (KIJ.out _ _ hx).mono ?_); rintro e wx ⟨rfl, hx⟩; dsimp only) | (go_at_call 66; (with_reducible refine (KT0.out _ _ hx).mono ?_); rintro e wx ⟨rfl, hx⟩; dsimp only) | (go_at_call 66; (with_reducible refine (KT1.out _ _ hx).mono ?_); rintro e wx ⟨rfl, hx⟩; dsimp only) | (go_at_call 44; (with_reducible refine (KNA.out _ _ hx).mono ?_); rintro e wx ⟨rfl, hx⟩; dsimp only) | (go_at_call 44; (with_reducible refine (KNB.out _ _ hx).mono ?_); rintro e wx ⟨rfl, hx⟩; dsimp only) | (go_at_call 67; (with_reducible refine (KF.out _ _ hx).mono ?_); rintro e wx ⟨rfl, hx⟩; dsimp only) | (go_at_call 65; (with_reducible refine (KJ.out _ _ hx).mono ?_); rintro e wx ⟨rfl, hx⟩; dsimp only)))
              refine hK.out _ _ ?_ (fun hHeld => ?_)
              · (try dsimp only) <;> (first | exact SX.out _ _ _ hx (by simp) (by simp) | exact SX.out _ _ _ (hx.alloc_ _) (by simp) (by simp))
              clear hK K
              try simp only [Act.put, List.setIfInBounds_toArray, List.set_cons_zero, List.set_cons_succ]
              try simp only [F1.out, F2.out, F3.out, F4.out, F5.out, F6.out, F7.out, F8.out]
              refine wpAnyH_take (i := 20) (oi := ?_) (v := ?_) ?_ ?_ ?_ ?_ ?_ ?_ ?_ ?_
              rotate_left 2
              · (simp only [List.getElem?_toArray, List.getElem?_cons_succ, List.getElem?_cons_zero]; exact rfl)
              · kernel_rfl
              · kernel_rfl
              · kernel_rfl
              · exact fun _ _ _ h => h
              · first | (refine Or.inl ⟨by rfl, ?_⟩; intro w hSw; (try dsimp only at hSw); go_simp; try with_reducible rfl) | (refine Or.inr ⟨by rfl, ?_⟩; rfl)
              · assumption
              try simp only [Act.put, List.setIfInBounds_toArray, List.set_cons_zero, List.set_cons_succ]
              try simp only [F1.out, F2.out, F3.out, F4.out, F5.out, F6.out, F7.out, F8.out]
              refine wpAnyH_ready (rs := [23]) (by kernel_rfl) (by simp) ?_
              refine AllReadyH.cons (o := ?_) ?_ (fun K hK => ?_) ?_
              rotate_left 1
              · (simp only [List.getElem?_toArray, List.getElem?_cons_succ, List.getElem?_cons_zero]; exact rfl)
              · go_simp
                ((first | (go_at_call 34; (with_reducible refine (KIJ.out _ _ hx).mono ?_); rintro e wx ⟨rfl, hx⟩; dsimp only) | (go_at_call 66; (with_reducible refine (KT0.out _ _ hx).mono ?_); rintro e wx ⟨rfl, hx⟩; dsimp only) | (go_at_call 66; (with_reducible refine (KT1.out _ _ hx).mono ?_); rintro e wx ⟨rfl, hx⟩; dsimp only) | (go_at_call 44; (with_reducible refine (KNA.out _ _ hx).mono ?_); rintro e wx ⟨rfl, hx⟩; dsimp only) | (go_at_call 44; (with_reducible refine (KNB.out _ _ hx).mono ?_); rintro e wx ⟨rfl, hx⟩; dsimp only) | (go_at_call 67; (with_reducible refine (KF.out _ _ hx).mono ?_); rintro e wx ⟨rfl, hx⟩; dsimp only) | (go_at_call 65; (with_reducible refine (KJ.out _ _ hx).mono ?_); rintro e wx ⟨rfl, hx⟩; dsimp only)))
                refine hK.out _ _ ?_ (fun hHeld => ?_)
                · (try dsimp only) <;> (first | exact SX.out _ _ _ hx (by simp) (by simp) | exact SX.out _ _ _ (hx.alloc_ _) (by simp) (by simp))
                clear hK K
                try simp only [Act.put, List.setIfInBounds_toArray, List.set_cons_zero, List.set_cons_succ]
                try simp only [F1.out, F2.out, F3.out, F4.out, F5.out, F6.out, F7.out, F8.out]
                refine wpAnyH_take (i := 24) (oi := ?_) (v := ?_) ?_ ?_ ?_ ?_ ?_ ?_ ?_ ?_
                rotate_left 2
                · (simp only [List.getElem?_toArray, List.getElem?_cons_succ, List.getElem?_cons_zero]; exact rfl)
                · kernel_rfl
                · kernel_rfl
                · kernel_rfl
                · exact fun _ _ _ h => h
                · first | (refine Or.inl ⟨by rfl, ?_⟩; intro w hSw; (try dsimp only at hSw); go_simp; try with_reducible rfl) | (refine Or.inr ⟨by rfl, ?_⟩; rfl)
                · assumption
                try simp only [Act.put, List.setIfInBounds_toArray, List.set_cons_zero, List.set_cons_succ]
                try simp only [F1.out, F2.out, F3.out, F4.out, F5.out, F6.out, F7.out, F8.out]
                refine wpAnyH_ready (rs := [27]) (by kernel_rfl) (by simp) ?_
                refine AllReadyH.cons (o := ?_) ?_ (fun K hK => ?_) ?_
                rotate_left 1
                · (simp only [List.getElem?_toArray, List.getElem?_cons_succ, List.getElem?_cons_zero]; exact rfl)
                · go_simp
                  ((first | (go_at_call 34; (with_reducible refine (KIJ.out _ _ hx).mono ?_); rintro e wx ⟨rfl, hx⟩; dsimp only) | (go_at_call 66; (with_reducible refine (KT0.out _ _ hx).mono ?_); rintro e wx ⟨rfl, hx⟩; dsimp only) | (go_at_call 66; (with_reducible refine (KT1.out _ _ hx).mono ?_); rintro e wx ⟨rfl, hx⟩; dsimp only) | (go_at_call 44; (with_reducible refine (KNA.out _ _ hx).mono ?_); rintro e wx ⟨rfl, hx⟩; dsimp only) | (go_at_call 44; (with_reducible refine (KNB.out _ _ hx).mono ?_); rintro e wx ⟨rfl, hx⟩; dsimp only) | (go_at_call 67; (with_reducible refine (KF.out _ _ hx).mono ?_); rintro e wx ⟨rfl, hx⟩; dsimp only) | (go_at_call 65; (with_reducible refine (KJ.out _ _ hx).mono ?_); rintro e wx ⟨rfl, hx⟩; dsimp only)))
                  refine hK.out _ _ ?_ (fun hHeld => ?_)
                  · (try dsimp only) <;> (first | exact SX.out _ _ _ hx (by simp) (by simp) | exact SX.out _ _ _ (hx.alloc_ _) (by simp) (by simp))
                  clear hK K
                  try simp only [Act.put, List.setIfInBounds_toArray, List.set_cons_zero, List.set_cons_succ]
                  try simp only [F1.out, F2.out, F3.out, F4.out, F5.out, F6.out, F7.out, F8.out]
                  refine wpAnyH_take (i := 28) (oi := ?_) (v := ?_) ?_ ?_ ?_ ?_ ?_ ?_ ?_ ?_
                  rotate_left 2
                  · (simp only [List.getElem?_toArray, List.getElem?_cons_succ, List.getElem?_cons_zero]; exact rfl)
                  · kernel_rfl
                  · kernel_rfl
                  · kernel_rfl
                  · exact fun _ _ _ h => h
                  · first | (refine Or.inl ⟨by rfl, ?_⟩; intro w hSw; (try dsimp only at hSw); go_simp; try with_reducible rfl) | (refine Or.inr ⟨by rfl, ?_⟩; rfl)
                  · assumption
                  try simp only [Act.put, List.setIfInBounds_toArray, List.set_cons_zero, List.set_cons_succ]
                  try simp only [F1.out, F2.out, F3.out, F4.out, F5.out, F6.out, F7.out, F8.out]
                  refine wpAnyH_ready (rs := [29]) (by kernel_rfl) (by simp) ?_
                  refine AllReadyH.cons (o := ?_) ?_ (fun K hK => ?_) ?_
                  rotate_left 1
                  · (simp only [List.getElem?_toArray, List.getElem?_cons_succ, List.getElem?_cons_zero]; exact rfl)
                  · go_simp
                    refine hK.out _ _ ?_ (fun hHeld => ?_)
                    · (try dsimp only) <;> (first | exact SX.out _ _ _ hx (by simp) (by simp) | exact SX.out _ _ _ (hx.alloc_ _) (by simp) (by simp))
                    clear hK K
                    try simp only [Act.put, List.setIfInBounds_toArray, List.set_cons_zero, List.set_cons_succ]
                    try simp only [F1.out, F2.out, F3.out, F4.out, F5.out, F6.out, F7.out, F8.out]
                    refine wpAnyH_ready (rs := [30]) (by kernel_rfl) (by simp) ?_
                    refine AllReadyH.cons (o := ?_) ?_ (fun K hK => ?_) ?_
                    rotate_left 1
                    · (simp only [List.getElem?_toArray, List.getElem?_cons_succ, List.getElem?_cons_zero]; exact rfl)
                    · go_simp
                      ((first | (go_at_call 34; (with_reducible refine (KIJ.out _ _ hx).mono ?_); rintro e wx ⟨rfl, hx⟩; dsimp only) | (go_at_call 66; (with_reducible refine (KT0.out _ _ hx).mono ?_); rintro e wx ⟨rfl, hx⟩; dsimp only) | (go_at_call 66; (with_reducible refine (KT1.out _ _ hx).mono ?_); rintro e wx ⟨rfl, hx⟩; dsimp only) | (go_at_call 44; (with_reducible refine (KNA.out _ _ hx).mono ?_); rintro e wx ⟨rfl, hx⟩; dsimp only) | (go_at_call 44; (with_reducible refine (KNB.out _ _ hx).mono ?_); rintro e wx ⟨rfl, hx⟩; dsimp only) | (go_at_call 67; (with_reducible refine (KF.out _ _ hx).mono ?_); rintro e wx ⟨rfl, hx⟩; dsimp only) | (go_at_call 65; (with_reducible refine (KJ.out _ _ hx).mono ?_); rintro e wx ⟨rfl, hx⟩; dsimp only)))
                      refine hK.out _ _ ?_ (fun hHeld => ?_)
                      · (try dsimp only) <;> (first | exact SX.out _ _ _ hx (by simp) (by simp) | exact SX.out _ _ _ (hx.alloc_ _) (by simp) (by simp))
                      clear hK K
                      try simp only [Act.put, List.setIfInBounds_toArray, List.set_cons_zero, List.set_cons_succ]
                      try simp only [F1.out, F2.out, F3.out, F4.out, F5.out, F6.out, F7.out, F8.out]
                      refine wpAnyH_take (i := 31) (oi := ?_) (v := ?_) ?_ ?_ ?_ ?_ ?_ ?_ ?_ ?_
                      rotate_left 2
                      · (simp only [List.getElem?_toArray, List.getElem?_cons_succ, List.getElem?_cons_zero]; exact rfl)
                      · kernel_rfl
                      · kernel_rfl
                      · kernel_rfl
                      · exact fun _ _ _ h => h
                      · first | (refine Or.inl ⟨by rfl, ?_⟩; intro w hSw; (try dsimp only at hSw); go_simp; try with_reducible rfl) | (refine Or.inr ⟨by rfl, ?_⟩; rfl)
                      · assumption
                      try simp only [Act.put, List.setIfInBounds_toArray, List.set_cons_zero, List.set_cons_succ]
                      try simp only [F1.out, F2.out, F3.out, F4.out, F5.out, F6.out, F7.out, F8.out]
                      refine wpAnyH_done (by kernel_rfl) ?_ _
                      have HY := Lib.hid hx
                      clear hx SX
                      go_wp2_with fail
                      go_ret
                      exact ⟨rfl, St.weaken (A := [_, _]) HY.out⟩
                    exact AllReadyH.nil
                  exact AllReadyH.nil
                exact AllReadyH.nil
              exact AllReadyH.nil
            exact AllReadyH.nil
          exact AllReadyH.nil
        exact AllReadyH.nil
      exact AllReadyH.nil
  · have e := HSF.out
    rw [if_neg (by omega)] at e
    have hb9 := HBST.out
    rw [e] at hb9
    subst hb9
    have z3b : ¬ (9223372036854775807 < b2.size + 1) := z3
    have k3 : (r.state == 3) = false := beq_eq_false_iff_ne.2 (by omega)
    have h4 := H0.out.alloc (.cells Tryd.zeroCells42 42)
    rw [World.size_alloc, hb] at h4
    obtain ⟨b4, hb4⟩ : ∃ x, b + 1 = x := ⟨_, rfl⟩
    rw [hb4] at h4
    have HX := H0; have H4 := Lib.hid h4
    clear h4 H0 e KIF
    go_enter Tryd.func45, Tryd.ntmps45
    go_wp2_with (first | (with_reducible refine wpList_load_st rfl 42 (.tmp 26) rfl (g := b) (off := 5) rfl HX.out (cs := R) (t := 44) (fr := (0, 0)) (by simp) T HTAB.out _ Tryd.underlying42 rfl INF.out ?_) | (with_reducible refine wpList_store_st rfl 42 (.tmp 4) (.tmp 27) rfl (off := 0) T rfl rfl H4.out FZ.out INF.out ONE.out ?_; intro w5 h5; rw [MZ.out] at h5; have H5 := Lib.hid h5; clear h5))
    have hx := H5.out.drew1
    clear H4 HX
    refine wp_region_held_drew (S := fun v => (v.cell? ⟨b, 1, none⟩ = some (.int .i64 r.job) ∧ v.cell? ⟨b4, 72, none⟩ = some (.int .i64 r.act) ∧ v.cell? ⟨b4, 73, none⟩ = some (.int .i64 r.boo) ∧ v.cell? ⟨b4, 74, none⟩ = some (.int .u64 r.flo) ∧ v.rangeAt b4 0 C0.toList ∧ v.rangeAt b4 36 C1.toList)) (by kernel_rfl) (SX.out _ _ _ hx (by simp) (by simp)) (fun hHeld => ?_)
    refine wpAnyH_take (i := 0) (oi := ?_) (v := ?_) ?_ ?_ ?_ ?_ ?_ ?_ ?_ ?_
    rotate_left 2
    · (simp only [List.getElem?_toArray, List.getElem?_cons_succ, List.getElem?_cons_zero]; exact rfl)
    · kernel_rfl
    · kernel_rfl
    · kernel_rfl
    · exact fun _ _ _ h => h
    · first | (refine Or.inl ⟨by rfl, ?_⟩; intro w hSw; (try dsimp only at hSw); go_simp; try with_reducible rfl) | (refine Or.inr ⟨by rfl, ?_⟩; rfl)
    · assumption
    try simp only [Act.put, List.setIfInBounds_toArray, List.set_cons_zero, List.set_cons_succ]
    try simp only [F1.out, F2.out, F3.out, F4.out, F5.out, F6.out, F7.out, F8.out]
    refine wpAnyH_take (i := 1) (oi := ?_) (v := ?_) ?_ ?_ ?_ ?_ ?_ ?_ ?_ ?_
    rotate_left 2
    · (simp only [List.getElem?_toArray, List.getElem?_cons_succ, List.getElem?_cons_zero]; exact rfl)
    · kernel_rfl
    · kernel_rfl
    · kernel_rfl
    · exact fun _ _ _ h => h
    · first | (first | ((refine yieldsIf_load_mid ?_ 39 (.tmp 36) ?_ b4 0 ?_ C0.toList _ ?_ HUL.out ?_ HM0.out) <;> first | rfl | exact fun w h => h.2.2.2.2.1) | ((refine yieldsIf_load_mid ?_ 39 (.tmp 41) ?_ b4 36 ?_ C1.toList _ ?_ HUL.out ?_ HM1.out) <;> first | rfl | exact fun w h => h.2.2.2.2.2) | (refine Or.inl ⟨by rfl, ?_⟩; intro w hSw; obtain ⟨hS1, hS2, hS3, hS4, hS5, hS6⟩ := hSw; go_simp; try with_reducible rfl)) | (refine Or.inr ⟨by rfl, ?_⟩; rfl)
    · assumption
    try simp only [Act.put, List.setIfInBounds_toArray, List.set_cons_zero, List.set_cons_succ]
    try simp only [F1.out, F2.out, F3.out, F4.out, F5.out, F6.out, F7.out, F8.out]
    refine wpAnyH_take (i := 5) (oi := ?_) (v := ?_) ?_ ?_ ?_ ?_ ?_ ?_ ?_ ?_
    rotate_left 2
    · (simp only [List.getElem?_toArray, List.getElem?_cons_succ, List.getElem?_cons_zero]; exact rfl)
    · kernel_rfl
    · kernel_rfl
    · kernel_rfl
    · exact fun _ _ _ h => h
    · first | (refine Or.inl ⟨by rfl, ?_⟩; intro w hSw; (try dsimp only at hSw); go_simp; try with_reducible rfl) | (refine Or.inr ⟨by rfl, ?_⟩; rfl)
    · assumption
    try simp only [Act.put, List.setIfInBounds_toArray, List.set_cons_zero, List.set_cons_succ]
    try simp only [F1.out, F2.out, F3.out, F4.out, F5.out, F6.out, F7.out, F8.out]
    refine wpAnyH_take (i := 7) (oi := ?_) (v := ?_) ?_ ?_ ?_ ?_ ?_ ?_ ?_ ?_
    rotate_left 2
    · (simp only [List.getElem?_toArray, List.getElem?_cons_succ, List.getElem?_cons_zero]; exact rfl)
    · kernel_rfl
    · kernel_rfl
    · kernel_rfl
    · exact fun _ _ _ h => h
    · first | (refine Or.inl ⟨by rfl, ?_⟩; intro w hSw; (try dsimp only at hSw); go_simp; try with_reducible rfl) | (refine Or.inr ⟨by rfl, ?_⟩; rfl)
    · assumption
    try simp only [Act.put, List.setIfInBounds_toArray, List.set_cons_zero, List.set_cons_succ]
    try simp only [F1.out, F2.out, F3.out, F4.out, F5.out, F6.out, F7.out, F8.out]
    refine wpAnyH_take (i := 8) (oi := ?_) (v := ?_) ?_ ?_ ?_ ?_ ?_ ?_ ?_ ?_
    rotate_left 2
    · (simp only [List.getElem?_toArray, List.getElem?_cons_succ, List.getElem?_cons_zero]; exact rfl)
    · kernel_rfl
    · kernel_rfl
    · kernel_rfl
    · exact fun _ _ _ h => h
    · first | (refine Or.inl ⟨by rfl, ?_⟩; intro w hSw; (try dsimp only at hSw); go_simp; try with_reducible rfl) | (refine Or.inr ⟨by rfl, ?_⟩; rfl)
    · assumption
    try simp only [Act.put, List.setIfInBounds_toArray, List.set_cons_zero, List.set_cons_succ]
    try simp only [F1.out, F2.out, F3.out, F4.out, F5.out, F6.out, F7.out, F8.out]
    refine wpAnyH_take (i := 9) (oi := ?_) (v := ?_) ?_ ?_ ?_ ?_ ?_ ?_ ?_ ?_
    rotate_left 2
    · (simp only [List.getElem?_toArray, List.getElem?_cons_succ, List.getElem?_cons_zero]; exact rfl)
    · kernel_rfl
    · kernel_rfl
    · kernel_rfl
    · exact fun _ _ _ h => h
    · first | (first | ((refine yieldsIf_load_mid ?_ 39 (.tmp 36) ?_ b4 0 ?_ C0.toList _ ?_ HUL.out ?_ HM0.out) <;> first | rfl | exact fun w h => h.2.2.2.2.1) | ((refine yieldsIf_load_mid ?_ 39 (.tmp 41) ?_ b4 36 ?_ C1.toList _ ?_ HUL.out ?_ HM1.out) <;> first | rfl | exact fun w h => h.2.2.2.2.2) | (refine Or.inl ⟨by rfl, ?_⟩; intro w hSw; obtain ⟨hS1, hS2, hS3, hS4, hS5, hS6⟩ := hSw; go_simp; try with_reducible rfl)) | (refine Or.inr ⟨by rfl, ?_⟩; rfl)
    · assumption
    try simp only [Act.put, List.setIfInBounds_toArray, List.set_cons_zero, List.set_cons_succ]
    try simp only [F1.out, F2.out, F3.out, F4.out, F5.out, F6.out, F7.out, F8.out]
    refine wpAnyH_take (i := 12) (oi := ?_) (v := ?_) ?_ ?_ ?_ ?_ ?_ ?_ ?_ ?_
    rotate_left 2
    · (simp only [List.getElem?_toArray, List.getElem?_cons_succ, List.getElem?_cons_zero]; exact rfl)
    · kernel_rfl
    · kernel_rfl
    · kernel_rfl
    · exact fun _ _ _ h => h
    · first | (refine Or.inl ⟨by rfl, ?_⟩; intro w hSw; (try dsimp only at hSw); go_simp; try with_reducible rfl) | (refine Or.inr ⟨by rfl, ?_⟩; rfl)
    · assumption
    try simp only [Act.put, List.setIfInBounds_toArray, List.set_cons_zero, List.set_cons_succ]
    try simp only [F1.out, F2.out, F3.out, F4.out, F5.out, F6.out, F7.out, F8.out]
    refine wpAnyH_take (i := 13) (oi := ?_) (v := ?_) ?_ ?_ ?_ ?_ ?_ ?_ ?_ ?_
    rotate_left 2
    · (simp only [List.getElem?_toArray, List.getElem?_cons_succ, List.getElem?_cons_zero]; exact rfl)
    · kernel_rfl
    · kernel_rfl
    · kernel_rfl
    · exact fun _ _ _ h => h
    · first | (refine Or.inl ⟨by rfl, ?_⟩; intro w hSw; (try dsimp only at hSw); go_simp; try with_reducible rfl) | (refine Or.inr ⟨by rfl, ?_⟩; rfl)
    · assumption
    try simp only [Act.put, List.setIfInBounds_toArray, List.set_cons_zero, List.set_cons_succ]
    try simp only [F1.out, F2.out, F3.out, F4.out, F5.out, F6.out, F7.out, F8.out]
    refine wpAnyH_take (i := 14) (oi := ?_) (v := ?_) ?_ ?_ ?_ ?_ ?_ ?_ ?_ ?_
    rotate_left 2
    · (simp only [List.getElem?_toArray, List.getElem?_cons_succ, List.getElem?_cons_zero]; exact rfl)
    · kernel_rfl
    · kernel_rfl
    · kernel_rfl
    · exact fun _ _ _ h => h
    · first | (first | ((refine yieldsIf_load_mid ?_ 39 (.tmp 36) ?_ b4 0 ?_ C0.toList _ ?_ HUL.out ?_ HM0.out) <;> first | rfl | exact fun w h => h.2.2.2.2.1) | ((refine yieldsIf_load_mid ?_ 39 (.tmp 41) ?_ b4 36 ?_ C1.toList _ ?_ HUL.out ?_ HM1.out) <;> first | rfl | exact fun w h => h.2.2.2.2.2) | (refine Or.inl ⟨by rfl, ?_⟩; intro w hSw; obtain ⟨hS1, hS2, hS3, hS4, hS5, hS6⟩ := hSw; go_simp; try with_reducible rfl)) | (refine Or.inr ⟨by rfl, ?_⟩; rfl)
    · assumption
    try simp only [Act.put, List.setIfInBounds_toArray, List.set_cons_zero, List.set_cons_succ]
    try simp only [F1.out, F2.out, F3.out, F4.out, F5.out, F6.out, F7.out, F8.out]
    refine wpAnyH_take (i := 17) (oi := ?_) (v := ?_) ?_ ?_ ?_ ?_ ?_ ?_ ?_ ?_
    rotate_left 2
    · (simp only [List.getElem?_toArray, List.getElem?_cons_succ, List.getElem?_cons_zero]; exact rfl)
    · kernel_rfl
    · kernel_rfl
    · kernel_rfl
    · exact fun _ _ _ h => h
    · first | (refine Or.inl ⟨by rfl, ?_⟩; intro w hSw; (try dsimp only at hSw); go_simp; try with_reducible rfl) | (refine Or.inr ⟨by rfl, ?_⟩; rfl)
    · assumption
    try simp only [Act.put, List.setIfInBounds_toArray, List.set_cons_zero, List.set_cons_succ]
    try simp only [F1.out, F2.out, F3.out, F4.out, F5.out, F6.out, F7.out, F8.out]
    refine wpAnyH_take (i := 18) (oi := ?_) (v := ?_) ?_ ?_ ?_ ?_ ?_ ?_ ?_ ?_
    rotate_left 2
    · (simp only [List.getElem?_toArray, List.getElem?_cons_succ, List.getElem?_cons_zero]; exact rfl)
    · kernel_rfl
    · kernel_rfl
    · kernel_rfl
    · exact fun _ _ _ h => h
    · first | (first | ((refine yieldsIf_load_mid ?_ 39 (.tmp 36) ?_ b4 0 ?_ C0.toList _ ?_ HUL.out ?_ HM0.out) <;> first | rfl | exact fun w h => h.2.2.2.2.1) | ((refine yieldsIf_load_mid ?_ 39 (.tmp 41) ?_ b4 36 ?_ C1.toList _ ?_ HUL.out ?_ HM1.out) <;> first | rfl | exact fun w h => h.2.2.2.2.2) | (refine Or.inl ⟨by rfl, ?_⟩; intro w hSw; obtain ⟨hS1, hS2, hS3, hS4, hS5, hS6⟩ := hSw; go_simp; try with_reducible rfl)) | (refine Or.inr ⟨by rfl, ?_⟩; rfl)
    · assumption
    try simp only [Act.put, List.setIfInBounds_toArray, List.set_cons_zero, List.set_cons_succ]
    try simp only [F1.out, F2.out, F3.out, F4.out, F5.out, F6.out, F7.out, F8.out]
    refine wpAnyH_take (i := 21) (oi := ?_) (v := ?_) ?_ ?_ ?_ ?_ ?_ ?_ ?_ ?_
    rotate_left 2
    · (simp only [List.getElem?_toArray, List.getElem?_cons_succ, List.getElem?_cons_zero]; exact rfl)
    · kernel_rfl
    · kernel_rfl
    · kernel_rfl
    · exact fun _ _ _ h => h
    · first | (refine Or.inl ⟨by rfl, ?_⟩; intro w hSw; (try dsimp only at hSw); go_simp; try with_reducible rfl) | (refine Or.inr ⟨by rfl, ?_⟩; rfl)
    · assumption
    try simp only [Act.put, List.setIfInBounds_toArray, List.set_cons_zero, List.set_cons_succ]
    try simp only [F1.out, F2.out, F3.out, F4.out, F5.out, F6.out, F7.out, F8.out]
    refine wpAnyH_take (i := 22) (oi := ?_) (v := ?_) ?_ ?_ ?_ ?_ ?_ ?_ ?_ ?_
    rotate_left 2
    · (simp only [List.getElem?_toArray, List.getElem?_cons_succ, List.getElem?_cons_zero]; exact rfl)
    · kernel_rfl
    · kernel_rfl
    · kernel_rfl
    · exact fun _ _ _ h => h
    · first | (first | ((refine yieldsIf_load_mid ?_ 39 (.tmp 36) ?_ b4 0 ?_ C0.toList _ ?_ HUL.out ?_ HM0.out) <;> first | rfl | exact fun w h => h.2.2.2.2.1) | ((refine yieldsIf_load_mid ?_ 39 (.tmp 41) ?_ b4 36 ?_ C1.toList _ ?_ HUL.out ?_ HM1.out) <;> first | rfl | exact fun w h => h.2.2.2.2.2) | (refine Or.inl ⟨by rfl, ?_⟩; intro w hSw; obtain ⟨hS1, hS2, hS3, hS4, hS5, hS6⟩ := hSw; go_simp; try with_reducible rfl)) | (refine Or.inr ⟨by rfl, ?_⟩; rfl)
    · assumption
    try simp only [Act.put, List.setIfInBounds_toArray, List.set_cons_zero, List.set_cons_succ]
    try simp only [F1.out, F2.out, F3.out, F4.out, F5.out, F6.out, F7.out, F8.out]
    refine wpAnyH_take (i := 25) (oi := ?_) (v := ?_) ?_ ?_ ?_ ?_ ?_ ?_ ?_ ?_
    rotate_left 2
    · (simp only [List.getElem?_toArray, List.getElem?_cons_succ, List.getElem?_cons_zero]; exact rfl)
    · kernel_rfl
    · kernel_rfl
    · kernel_rfl
    · exact fun _ _ _ h => h
    · first | (refine Or.inl ⟨by rfl, ?_⟩; intro w hSw; (try dsimp only at hSw); go_simp; try with_reducible rfl) | (refine Or.inr ⟨by rfl, ?_⟩; rfl)
    · assumption
    try simp only [Act.put, List.setIfInBounds_toArray, List.set_cons_zero, List.set_cons_succ]
    try simp only [F1.out, F2.out, F3.out, F4.out, F5.out, F6.out, F7.out, F8.out]
    refine wpAnyH_take (i := 26) (oi := ?_) (v := ?_) ?_ ?_ ?_ ?_ ?_ ?_ ?_ ?_
    rotate_left 2
    · (simp only [List.getElem?_toArray, List.getElem?_cons_succ, List.getElem?_cons_zero]; exact rfl)
    · kernel_rfl
    · kernel_rfl
    · kernel_rfl
    · exact fun _ _ _ h => h
    · first | (first | ((refine yieldsIf_load_mid ?_ 39 (.tmp 36) ?_ b4 0 ?_ C0.toList _ ?_ HUL.out ?_ HM0.out) <;> first | rfl | exact fun w h => h.2.2.2.2.1) | ((refine yieldsIf_load_mid ?_ 39 (.tmp 41) ?_ b4 36 ?_ C1.toList _ ?_ HUL.out ?_ HM1.out) <;> first | rfl | exact fun w h => h.2.2.2.2.2) | (refine Or.inl ⟨by rfl, ?_⟩; intro w hSw; obtain ⟨hS1, hS2, hS3, hS4, hS5, hS6⟩ := hSw; go_simp; try with_reducible rfl)) | (refine Or.inr ⟨by rfl, ?_⟩; rfl)
    · assumption
    try simp only [Act.put, List.setIfInBounds_toArray, List.set_cons_zero, List.set_cons_succ]
    try simp only [F1.out, F2.out, F3.out, F4.out, F5.out, F6.out, F7.out, F8.out]
    refine wpAnyH_ready (rs := [2]) (by kernel_rfl) (by simp) ?_
    refine AllReadyH.cons (o := ?_) ?_ (fun K hK => ?_) ?_
    rotate_left 1
    · (simp only [List.getElem?_toArray, List.getElem?_cons_succ, List.getElem?_cons_zero]; exact rfl)
    · go_simp
      ((first | (go_at_call 34; (with_reducible refine (KIJ.out _ _ hx).mono ?_); rintro e wx ⟨rfl, hx⟩; dsimp only) | (go_at_call 66; (with_reducible refine (KT0.out _ _ hx).mono ?_); rintro e wx ⟨rfl, hx⟩; dsimp only) | (go_at_call 66; (with_reducible refine (KT1.out _ _ hx).mono ?_); rintro e wx ⟨rfl, hx⟩; dsimp only) | (go_at_call 44; (with_reducible refine (KNA.out _ _ hx).mono ?_); rintro e wx ⟨rfl, hx⟩; dsimp only) | (go_at_call 44; (with_reducible refine (KNB.out _ _ hx).mono ?_); rintro e wx ⟨rfl, hx⟩; dsimp only) | (go_at_call 67; (with_reducible refine (KF.out _ _ hx).mono ?_); rintro e wx ⟨rfl, hx⟩; dsimp only) | (go_at_call 65; (with_reducible refine (KJ.out _ _ hx).mono ?_); rintro e wx ⟨rfl, hx⟩; dsimp only)))
      refine hK.out _ _ ?_ (fun hHeld => ?_)
      · (try dsimp only) <;> (first | exact SX.out _ _ _ hx (by simp) (by simp) | exact SX.out _ _ _ (hx.alloc_ _) (by simp) (by simp))
      clear hK K
      try simp only [Act.put, List.setIfInBounds_toArray, List.set_cons_zero, List.set_cons_succ]
      try simp only [F1.out, F2.out, F3.out, F4.out, F5.out, F6.out, F7.out, F8.out]
      refine wpAnyH_take (i := 3) (oi := ?_) (v := ?_) ?_ ?_ ?_ ?_ ?_ ?_ ?_ ?_
      rotate_left 2
      · (simp only [List.getElem?_toArray, List.getElem?_cons_succ, List.getElem?_cons_zero]; exact rfl)
      · kernel_rfl
      · kernel_rfl
      · kernel_rfl
      · exact fun _ _ _ h => h
      · first | (refine Or.inl ⟨by rfl, ?_⟩; intro w hSw; (try dsimp only at hSw); go_simp; try with_reducible rfl) | (refine Or.inr ⟨by rfl, ?_⟩; rfl)
      · assumption
      try simp only [Act.put, List.setIfInBounds_toArray, List.set_cons_zero, List.set_cons_succ]
      try simp only [F1.out, F2.out, F3.out, F4.out, F5.out, F6.out, F7.out, F8.out]
      refine wpAnyH_take (i := 4) (oi := ?_) (v := ?_) ?_ ?_ ?_ ?_ ?_ ?_ ?_ ?_
      rotate_left 2
      · (simp only [List.getElem?_toArray, List.getElem?_cons_succ, List.getElem?_cons_zero]; exact rfl)
      · kernel_rfl
      · kernel_rfl
      · kernel_rfl
      · exact fun _ _ _ h => h
      · first | (refine Or.inl ⟨by rfl, ?_⟩; intro w hSw; (try dsimp only at hSw); go_simp; try with_reducible rfl) | (refine Or.inr ⟨by rfl, ?_⟩; rfl)
      · assumption
      try simp only [Act.put, List.setIfInBounds_toArray, List.set_cons_zero, List.set_cons_succ]
      try simp only [F1.out, F2.out, F3.out, F4.out, F5.out, F6.out, F7.out, F8.out]
      refine wpAnyH_take (i := 6) (oi := ?_) (v := ?_) ?_ ?_ ?_ ?_ ?_ ?_ ?_ ?_
      rotate_left 2
      · (simp only [List.getElem?_toArray, List.getElem?_cons_succ, List.getElem?_cons_zero]; exact rfl)
      · kernel_rfl
      · kernel_rfl
      · kernel_rfl
      · exact fun _ _ _ h => h
      · first | (refine Or.inl ⟨by rfl, ?_⟩; intro w hSw; (try dsimp only at hSw); go_simp; try with_reducible rfl) | (refine Or.inr ⟨by rfl, ?_⟩; rfl)
      · assumption
      try simp only [Act.put, List.setIfInBounds_toArray, List.set_cons_zero, List.set_cons_succ]
      try simp only [F1.out, F2.out, F3.out, F4.out, F5.out, F6.out, F7.out, F8.out]
      refine wpAnyH_ready (rs := [10]) (by kernel_rfl) (by simp) ?_
      refine AllReadyH.cons (o := ?_) ?_ (fun K hK => ?_) ?_
      rotate_left 1
      · (simp only [List.getElem?_toArray, List.getElem?_cons_succ, List.getElem?_cons_zero]; exact rfl)
      · go_simp
        ((first | (go_at_call 34; (with_reducible refine (KIJ.out _ _ hx).mono ?_); rintro e wx ⟨rfl, hx⟩; dsimp only) | (go_at_call 66; (with_reducible refine (KT0.out _ _ hx).mono ?_); rintro e wx ⟨rfl, hx⟩; dsimp only) | (go_at_call 66; (with_reducible refine (KT1.out _ _ hx).mono ?_); rintro e wx ⟨rfl, hx⟩; dsimp only) | (go_at_call 44; (with_reducible refine (KNA.out _ _ hx).mono ?_); rintro e wx ⟨rfl, hx⟩; dsimp only) | (go_at_call 44; (with_reducible refine (KNB.out _ _ hx).mono ?_); rintro e wx ⟨rfl, hx⟩; dsimp only) | (go_at_call 67; (with_reducible refine (KF.out _ _ hx).mono ?_); rintro e wx ⟨rfl, hx⟩; dsimp only) | (go_at_call 65; (with_reducible refine (KJ.out _ _ hx).mono ?_); rintro e wx ⟨rfl, hx⟩; dsimp only)))
        refine hK.out _ _ ?_ (fun hHeld => ?_)
        · (try dsimp only) <;> (first | exact SX.out _ _ _ hx (by simp) (by simp) | exact SX.out _ _ _ (hx.alloc_ _) (by simp) (by simp))
        clear hK K
        try simp only [Act.put, List.setIfInBounds_toArray, List.set_cons_zero, List.set_cons_succ]
        try simp only [F1.out, F2.out, F3.out, F4.out, F5.out, F6.out, F7.out, F8.out]
        refine wpAnyH_take (i := 11) (oi := ?_) (v := ?_) ?_ ?_ ?_ ?_ ?_ ?_ ?_ ?_
        rotate_left 2
        · (simp only [List.getElem?_toArray, List.getElem?_cons_succ, List.getElem?_cons_zero]; exact rfl)
        · kernel_rfl
        · kernel_rfl
        · kernel_rfl
        · exact fun _ _ _ h => h
        · first | (refine Or.inl ⟨by rfl, ?_⟩; intro w hSw; (try dsimp only at hSw); go_simp; try with_reducible rfl) | (refine Or.inr ⟨by rfl, ?_⟩; rfl)
        · assumption
        try simp only [Act.put, List.setIfInBounds_toArray, List.set_cons_zero, List.set_cons_succ]
        try simp only [F1.out, F2.out, F3.out, F4.out, F5.out, F6.out, F7.out, F8.out]
        refine wpAnyH_ready (rs := [15]) (by kernel_rfl) (by simp) ?_
        refine AllReadyH.cons (o := ?_) ?_ (fun K hK => ?_) ?_
        rotate_left 1
        · (simp only [List.getElem?_toArray, List.getElem?_cons_succ, List.getElem?_cons_zero]; exact rfl)
        · go_simp
          ((first | (go_at_call 34; (with_reducible refine (KIJ.out _ _ hx).mono ?_); rintro e wx ⟨rfl, hx⟩; dsimp only) | (go_at_call 66; (with_reducible refine (KT0.out _ _ hx).mono ?_); rintro e wx ⟨rfl, hx⟩; dsimp only) | (go_at_call 66; (with_reducible refine (KT1.out _ _ hx).mono ?_); rintro e wx ⟨rfl, hx⟩; dsimp only) | (go_at_call 44; (with_reducible refine (KNA.out _ _ hx).mono ?_); rintro e wx ⟨rfl, hx⟩; dsimp only) | (go_at_call 44; (with_reducible refine (KNB.out _ _ hx).mono ?_); rintro e wx ⟨rfl, hx⟩; dsimp only) | (go_at_call 67; (with_reducible refine (KF.out _ _ hx).mono ?_); rintro e wx ⟨rfl, hx⟩; dsimp only) | (go_at_call 65; (with_reducible refine (KJ.out _ _ hx).mono ?_); rintro e wx ⟨rfl, hx⟩; dsimp only)))
          refine hK.out _ _ ?_ (fun hHeld => ?_)
          · (try dsimp only) <;> (first | exact SX.out _ _ _ hx (by simp) (by simp) | exact SX.out _ _ _ (hx.alloc_ _) (by simp) (by simp))
          clear hK K
          try simp only [Act.put, List.setIfInBounds_toArray, List.set_cons_zero, List.set_cons_succ]
          try simp only [F1.out, F2.out, F3.out, F4.out, F5.out, F6.out, F7.out, F8.out]
          refine wpAnyH_take (i := 16) (oi := ?_) (v := ?_) ?_ ?_ ?_ ?_ ?_ ?_ ?_ ?_
          rotate_left 2
          · (simp only [List.getElem?_toArray, List.getElem?_cons_succ, List.getElem?_cons_zero]; exact rfl)
          · kernel_rfl
          · kernel_rfl
          · kernel_rfl
          · exact fun _ _ _ h => h
          · first | (refine Or.inl ⟨by rfl, ?_⟩; intro w hSw; (try dsimp only at hSw); go_simp; try with_reducible rfl) | (refine Or.inr ⟨by rfl, ?_⟩; rfl)
          · assumption
          try simp only [Act.put, List.setIfInBounds_toArray, List.set_cons_zero, List.set_cons_succ]
          try simp only [F1.out, F2.out, F3.out, F4.out, F5.out, F6.out, F7.out, F8.out]
          refine wpAnyH_ready (rs := [19]) (by kernel_rfl) (by simp) ?_
          refine AllReadyH.cons (o := ?_) ?_ (fun K hK => ?_) ?_
          rotate_left 1
          · (simp only [List.getElem?_toArray, List.getElem?_cons_succ, List.getElem?_cons_zero]; exact rfl)
          · go_simp
            ((first | (go_at_call 34; (with_reducible refine (KIJ.out _ _ hx).mono ?_); rintro e wx ⟨rfl, hx⟩; dsimp only) | (go_at_call 66; (with_reducible refine (KT0.out _ _ hx).mono ?_); rintro e wx ⟨rfl, hx⟩; dsimp only) | (go_at_call 66; (with_reducible refine (KT1.out _ _ hx).mono ?_); rintro e wx ⟨rfl, hx⟩; dsimp only) | (go_at_call 44; (with_reducible refine (KNA.out _ _ hx).mono ?_); rintro e wx ⟨rfl, hx⟩; dsimp only) | (go_at_call 44; (with_reducible refine (KNB.out _ _ hx).mono ?_); rintro e wx ⟨rfl, hx⟩; dsimp only) | (go_at_call 67; (with_reducible refine (KF.out _ _ hx).mono ?_); rintro e wx ⟨rfl, hx⟩; dsimp only) | (go_at_call 65; (with_reducible refine (KJ.out _ _ hx).mono ?_); rintro e wx ⟨rfl, hx⟩; dsimp only)))
            refine hK.out _ _ ?_ (fun hHeld => ?_)
            · (try dsimp only) <;> (first | exact SX.out _ _ _ hx (by simp) (by simp) | exact SX.out _ _ _ (hx.alloc_ _) (by simp) (by simp))
            clear hK K
            try simp only [Act.put, List.setIfInBounds_toArray, List.set_cons_zero, List.set_cons_succ]
            try simp only [F1.out, F2.out, F3.out, F4.out, F5.out, F6.out, F7.out, F8.out]
            refine wpAnyH_take (i := 20) (oi := ?_) (v := ?_) ?_ ?_ ?_ ?_ ?_ ?_ ?_ ?_
            rotate_left 2
            · (simp only [List.getElem?_toArray, List.getElem?_cons_succ, List.getElem?_cons_zero]; exact rfl)
            · kernel_rfl
            · kernel_rfl
            · kernel_rfl
            · exact fun _ _ _ h => h
            · first | (refine Or.inl ⟨by rfl, ?_⟩; intro w hSw; (try dsimp only at hSw); go_simp; try with_reducible rfl) | (refine Or.inr ⟨by rfl, ?_⟩; rfl)
            · assumption
            try simp only [Act.put, List.setIfInBounds_toArray, List.set_cons_zero, List.set_cons_succ]
            try simp only [F1.out, F2.out, F3.out, F4.out, F5.out, F6.out, F7.out, F8.out]
            refine wpAnyH_ready (rs := [23]) (by kernel_rfl) (by simp) ?_
            refine AllReadyH.cons (o := ?_) ?_ (fun K hK => ?_) ?_
            rotate_left 1
            · (simp only [List.getElem?_toArray, List.getElem?_cons_succ, List.getElem?_cons_zero]; exact rfl)
            · go_simp
              ((first | (go_at_call 34; (with_reducible refine (KIJ.out _ _ hx).mono ?_); rintro e wx ⟨rfl, hx⟩; dsimp only) | (go_at_call 66; (with_reducible refine (KT0.out _ _ hx).mono ?_); rintro e wx ⟨rfl, hx⟩; dsimp only) | (go_at_call 66; (with_reducible refine (KT1.out _ _ hx).mono ?_); rintro e wx ⟨rfl, hx⟩; dsimp only) | (go_at_call 44; (with_reducible refine (KNA.out _ _ hx).mono ?_); rintro e wx ⟨rfl, hx⟩; dsimp only) | (go_at_call 44; (with_reducible refine (KNB.out _ _ hx).mono ?_); rintro e wx ⟨rfl, hx⟩; dsimp only) | (go_at_call 67; (with_reducible refine (KF.out _ _ hx).mono ?_); rintro e wx ⟨rfl, hx⟩; dsimp only) | (go_at_call 65; (with_reducible refine (KJ.out _ _ hx).mono ?_); rintro e wx ⟨rfl, hx⟩; dsimp only)))
              refine hK.out _ _ ?_ (fun hHeld => ?_)
              · (try dsimp only) <;> (first | exact SX.out _ _ _ hx (by simp) (by simp) | exact SX.out _ _ _ (hx.alloc_ _) (by simp) (by simp))
              clear hK K
              try simp only [Act.put, List.setIfInBounds_toArray, List.set_cons_zero, List.set_cons_succ]
              try simp only [F1.out, F2.out, F3.out, F4.out, F5.out, F6.out, F7.out, F8.out]
              refine wpAnyH_take (i := 24) (oi := ?_) (v := ?_) ?_ ?_ ?_ ?_ ?_ ?_ ?_ ?_
              rotate_left 2
              · (simp only [List.getElem?_toArray, List.getElem?_cons_succ, List.getElem?_cons_zero]; exact rfl)
              · kernel_rfl
              · kernel_rfl
              · kernel_rfl
              · exact fun _ _ _ h => h
              · first | (refine Or.inl ⟨by rfl, ?_⟩; intro w hSw; (try dsimp only at hSw); go_simp; try with_reducible rfl) | (refine Or.inr ⟨by rfl, ?_⟩; rfl)
              · assumption
              try simp only [Act.put, List.setIfInBounds_toArray, List.set_cons_zero, List.set_cons_succ]
              try simp only [F1.out, F2.out, F3.out, F4.out, F5.out, F6.out, F7.out, F8.out]
              refine wpAnyH_ready (rs := [27]) (by kernel_rfl) (by simp) ?_
              refine AllReadyH.cons (o := ?_) ?_ (fun K hK => ?_) ?_
              rotate_left 1
              · (simp only [List.getElem?_toArray, List.getElem?_cons_succ, List.getElem?_cons_zero]; exact rfl)
              · go_simp
                ((first | (go_at_call 34; (with_reducible refine (KIJ.out _ _ hx).mono ?_); rintro e wx ⟨rfl, hx⟩; dsimp only) | (go_at_call 66; (with_reducible refine (KT0.out _ _ hx).mono ?_); rintro e wx ⟨rfl, hx⟩; dsimp only) | (go_at_call 66; (with_reducible refine (KT1.out _ _ hx).mono ?_); rintro e wx ⟨rfl, hx⟩; dsimp only) | (go_at_call 44; (with_reducible refine (KNA.out _ _ hx).mono ?_); rintro e wx ⟨rfl, hx⟩; dsimp only) | (go_at_call 44; (with_reducible refine (KNB.out _ _ hx).mono ?_); rintro e wx ⟨rfl, hx⟩; dsimp only) | (go_at_call 67; (with_reducible refine (KF.out _ _ hx).mono ?_); rintro e wx ⟨rfl, hx⟩; dsimp only) | (go_at_call 65; (with_reducible refine (KJ.out _ _ hx).mono ?_); rintro e wx ⟨rfl, hx⟩; dsimp only)))
                refine hK.out _ _ ?_ (fun hHeld => ?_)
                · (try dsimp only) <;> (first | exact SX.out _ _ _ hx (by simp) (by simp) | exact SX.out _ _ _ (hx.alloc_ _) (by simp) (by simp))
                clear hK K
                try simp only [Act.put, List.setIfInBounds_toArray, List.set_cons_zero, List.set_cons_succ]
                try simp only [F1.out, F2.out, F3.out, F4.out, F5.out, F6.out, F7.out, F8.out]
                refine wpAnyH_take (i := 28) (oi := ?_) (v := ?_) ?_ ?_ ?_ ?_ ?_ ?_ ?_ ?_
                rotate_left 2
                · (simp only [List.getElem?_toArray, List.getElem?_cons_succ, List.getElem?_cons_zero]; exact rfl)
                · kernel_rfl
                · kernel_rfl
                · kernel_rfl
                · exact fun _ _ _ h => h
                · first | (refine Or.inl ⟨by rfl, ?_⟩; intro w hSw; (try dsimp only at hSw); go_simp; try with_reducible rfl) | (refine Or.inr ⟨by rfl, ?_⟩; rfl)
                · assumption
                try simp only [Act.put, List.setIfInBounds_toArray, List.set_cons_zero, List.set_cons_succ]
                try simp only [F1.out, F2.out, F3.out, F4.out, F5.out, F6.out, F7.out, F8.out]
                refine wpAnyH_ready (rs := [29]) (by kernel_rfl) (by simp) ?_
                refine AllReadyH.cons (o := ?_) ?_ (fun K hK => ?_) ?_
                rotate_left 1
                · (simp only [List.getElem?_toArray, List.getElem?_cons_succ, List.getElem?_cons_zero]; exact rfl)
                · go_simp
                  refine hK.out _ _ ?_ (fun hHeld => ?_)
                  · (try dsimp only) <;> (first | exact SX.out _ _ _ hx (by simp) (by simp) | exact SX.out _ _ _ (hx.alloc_ _) (by simp) (by simp))
                  clear hK K
                  try simp only [Act.put, List.setIfInBounds_toArray, List.set_cons_zero, List.set_cons_succ]
                  try simp only [F1.out, F2.out, F3.out, F4.out, F5.out, F6.out, F7.out, F8.out]
                  refine wpAnyH_ready (rs := [30]) (by kernel_rfl) (by simp) ?_
                  refine AllReadyH.cons (o := ?_) ?_ (fun K hK => ?_) ?_
                  rotate_left 1
                  · (simp only [List.getElem?_toArray, List.getElem?_cons_succ, List.getElem?_cons_zero]; exact rfl)
                  · go_simp
                    ((first | (go_at_call 34; (with_reducible refine (KIJ.out _ _ hx).mono ?_); rintro e wx ⟨rfl, hx⟩; dsimp only) | (go_at_call 66; (with_reducible refine (KT0.out _ _ hx).mono ?_); rintro e wx ⟨rfl, hx⟩; dsimp only) | (go_at_call 66; (with_reducible refine (KT1.out _ _ hx).mono ?_); rintro e wx ⟨rfl, hx⟩; dsimp only) | (go_at_call 44; (with_reducible refine (KNA.out _ _ hx).mono ?_); rintro e wx ⟨rfl, hx⟩; dsimp only) | (go_at_call 44; (with_reducible refine (KNB.out _ _ hx).mono ?_); rintro e wx ⟨rfl, hx⟩; dsimp only) | (go_at_call 67; (with_reducible refine (KF.out _ _ hx).mono ?_); rintro e wx ⟨rfl, hx⟩; dsimp only) | (go_at_call 65; (with_reducible refine (KJ.out _ _ hx).mono ?_); rintro e wx ⟨rfl, hx⟩; dsimp only)))
                    refine hK.out _ _ ?_ (fun hHeld => ?_)
                    · (try dsimp only) <;> (first | exact SX.out _ _ _ hx (by simp) (by simp) | exact SX.out _ _ _ (hx.alloc_ _) (by simp) (by simp))
                    clear hK K
                    try simp only [Act.put, List.setIfInBounds_toArray, List.set_cons_zero, List.set_cons_succ]
                    try simp only [F1.out, F2.out, F3.out, F4.out, F5.out, F6.out, F7.out, F8.out]
                    refine wpAnyH_take (i := 31) (oi := ?_) (v := ?_) ?_ ?_ ?_ ?_ ?_ ?_ ?_ ?_
                    rotate_left 2
                    · (simp only [List.getElem?_toArray, List.getElem?_cons_succ, List.getElem?_cons_zero]; exact rfl)
                    · kernel_rfl
                    · kernel_rfl
                    · kernel_rfl
                    · exact fun _ _ _ h => h
                    · first | (refine Or.inl ⟨by rfl, ?_⟩; intro w hSw; (try dsimp only at hSw); go_simp; try with_reducible rfl) | (refine Or.inr ⟨by rfl, ?_⟩; rfl)
                    · assumption
                    try simp only [Act.put, List.setIfInBounds_toArray, List.set_cons_zero, List.set_cons_succ]
                    try simp only [F1.out, F2.out, F3.out, F4.out, F5.out, F6.out, F7.out, F8.out]
                    refine wpAnyH_done (by kernel_rfl) ?_ _
                    have HY := Lib.hid hx
                    clear hx SX
                    go_wp2_with fail
                    go_ret
                    exact ⟨rfl, St.weaken (A := [_, _]) HY.out⟩
                  exact AllReadyH.nil
                exact AllReadyH.nil
              exact AllReadyH.nil
            exact AllReadyH.nil
          exact AllReadyH.nil
        exact AllReadyH.nil
      exact AllReadyH.nil
    exact AllReadyH.nil
end
end

section
set_option linter.unusedVariables false
set_option linter.unusedSimpArgs false
set_option linter.unnecessarySimpa false
open Go.RowKit Go.Lib

section
variable {W w : World} {I : Nat → Option Obj} {F : List (Nat × Obj)}
theorem say_err (c : Cl) (r : Rp) (h : r.err ≠ 0) : sayS c r = [101, 114, 114, 111, 114, 32] ++ Lib.itoa r.err := by unfold sayS; rw [if_pos h]
theorem say_job (c : Cl) (r : Rp) (h : r.err = 0) (k : c.kind = 1) : sayS c r = [106, 111, 98, 32] ++ Lib.itoa r.job := by unfold sayS; rw [if_neg (by rw [h]; simp), if_pos k]
theorem say_slot (c : Cl) (r : Rp) (h : r.err = 0) (k : c.kind = 6) : sayS c r = [115, 108, 111, 116, 32] ++ nameOf r.slot := by unfold sayS; rw [if_neg (by rw [h]; simp), if_neg (by omega), if_pos k]
theorem say_status (c : Cl) (r : Rp) (h : r.err = 0) (k : c.kind = 3) : sayS c r = statusS r := by unfold sayS; rw [if_neg (by rw [h]; simp), if_neg (by omega), if_neg (by omega), if_pos k]
theorem say_ok (c : Cl) (r : Rp) (h : r.err = 0) (k1 : c.kind ≠ 1) (k6 : c.kind ≠ 6) (k3 : c.kind ≠ 3) : sayS c r = [111, 107] := by unfold sayS; rw [if_neg (by rw [h]; simp), if_neg k1, if_neg k6, if_neg k3]
set_option maxRecDepth 100000 in
set_option maxHeartbeats 16000000 in
theorem say_any (y : YV W I) (c : Cl) (r : Rp) (ok : r.Ok) (h : St W w I F) :
    Calls Tryd.prog 30 #[c.val, .agg r.cells] w fun e w' => e = .returned (.string ⟨(sayS c r).toArray⟩) ∧ St W w' I F := by
  have h0 := (h.alloc (.cells #[Value.int .i64 c.client, .int .i64 c.kind, .int .i64 c.slot, .int .i64 c.job, .string c.name] 23)).alloc (.cells r.cells 44)
  have kI := fun (n : Int) (n0 : -9223372036854775808 ≤ n) (n1 : n ≤ 9223372036854775807) (v : World) (F : List (Nat × Obj)) (hv : St W v I F) => itoa_any y.cv.t10 y.cv.t.le n n0 n1 hv
  have kN := fun (v : World) (F : List (Nat × Obj)) (hv : St W v I F) => slot_name y.n0 y.n1 r.slot hv
  have kS := fun (v : World) (F : List (Nat × Obj)) (hv : St W v I F) => ustatus y r ok hv
  have hrc := r.at_
  have inf := rp_info r ok
  obtain ⟨b, hb⟩ : ∃ b, w.heap.size = b := ⟨_, rfl⟩
  rw [World.size_alloc, hb] at h0
  have e1 := (h0.cell (g := b) (cs := #[Value.int .i64 c.client, .int .i64 c.kind, .int .i64 c.slot, .int .i64 c.job, .string c.name]) (t := 23) (fr := (0, 0)) (by simp) 1)
  have q := h0.cell (g := b + 1) (cs := r.cells) (t := 44) (fr := (0, 0)) (by simp)
  have q0 := (q 0).trans hrc.1
  have q1 := (q 1).trans hrc.2.1
  have q3 := (q 3).trans hrc.2.2.2.1
  simp at e1
  obtain ⟨X, hX⟩ : ∃ X, sayS c r = X := ⟨_, rfl⟩
  rw [hX]
  rw [show c.val = .agg #[Value.int .i64 c.client, .int .i64 c.kind, .int .i64 c.slot, .int .i64 c.job, .string c.name] from rfl]
  have l1 := itoa_len r.err ok.e0 ok.e1
  have l2 := itoa_len r.job ok.j0 ok.j1
  have l3 := nameOf_len r.slot
  have kIe := kI r.err ok.e0 ok.e1
  have kIj := kI r.job ok.j0 ok.j1
  have KIE := Lib.hid kIe; have KIJ := Lib.hid kIj; have KN := Lib.hid kN; have KS := Lib.hid kS; have H0 := Lib.hid h0; have INF := Lib.hid inf; have HX := Lib.hid hX
  clear kI kIe kIj kN kS h0 hrc inf q h y ok
  generalize hR : r.cells = R at *
  clear hR e1
  obtain ⟨cl, kd, sl, jo, na⟩ := c
  dsimp only at *
  by_cases he : r.err = 0
  · have heb : (r.err == 0) = true := by rw [he]; rfl
    by_cases k1 : kd = 1
    · have hx := say_job ⟨cl, kd, sl, jo, na⟩ r he k1
      rw [HX.out] at hx
      have a1 := ba_app [106, 111, 98, 32] (Lib.itoa r.job)
      rw [← hx] at a1
      have z : ¬ (9223372036854775807 < 4 + (⟨(Lib.itoa r.job).toArray⟩ : ByteArray).size) := by rw [ba_size]; omega
      have kk := KIJ.out
      obtain ⟨bq, hbq⟩ : ∃ x, (⟨(Lib.itoa r.job).toArray⟩ : ByteArray) = x := ⟨_, rfl⟩
      simp only [hbq] at kk
      rw [hbq] at a1 z
      have KK := Lib.hid kk; have A1 := Lib.hid a1
      rw [he] at q0
      clear kk a1 hbq hx KIE KIJ KN KS HX l1 l2 l3 he heb q3
      subst k1
      go_enter Tryd.func30, Tryd.ntmps30
      go_wp2_with fail
      refine (KK.out _ _ H0.out).mono ?_
      rintro e w5 ⟨rfl, h5⟩
      have H5 := Lib.hid h5
      clear h5 H0 KK
      go_wp2_with fail
      go_ret
      exact ⟨congrArg (fun s => Ending.returned (Value.string s)) A1.out, St.weaken (A := [_, _]) H5.out⟩
    · have k1b : (kd == 1) = false := beq_eq_false_iff_ne.2 k1
      by_cases k6 : kd = 6
      · have hx := say_slot ⟨cl, kd, sl, jo, na⟩ r he k6
        rw [HX.out] at hx
        have a1 := ba_app [115, 108, 111, 116, 32] (nameOf r.slot)
        rw [← hx] at a1
        have z : ¬ (9223372036854775807 < 5 + (⟨(nameOf r.slot).toArray⟩ : ByteArray).size) := by rw [ba_size]; omega
        have kk := KN.out
        obtain ⟨bq, hbq⟩ : ∃ x, (⟨(nameOf r.slot).toArray⟩ : ByteArray) = x := ⟨_, rfl⟩
        simp only [hbq] at kk
        rw [hbq] at a1 z
        have KK := Lib.hid kk; have A1 := Lib.hid a1
        rw [he] at q0
        clear kk a1 hbq hx KIE KIJ KN KS HX l1 l2 l3 he heb k1 k1b q1
        subst k6
        go_enter Tryd.func30, Tryd.ntmps30
        go_wp2_with fail
        refine (KK.out _ _ H0.out).mono ?_
        rintro e w5 ⟨rfl, h5⟩
        have H5 := Lib.hid h5
        clear h5 H0 KK
        go_wp2_with fail
        go_ret
        exact ⟨congrArg (fun s => Ending.returned (Value.string s)) A1.out, St.weaken (A := [_, _]) H5.out⟩
      · have k6b : (kd == 6) = false := beq_eq_false_iff_ne.2 k6
        by_cases k3 : kd = 3
        · have hx := say_status ⟨cl, kd, sl, jo, na⟩ r he k3
          rw [HX.out] at hx
          have kk := KS.out
          rw [← hx] at kk
          rw [he] at q0
          have KK := Lib.hid kk
          clear kk he heb k1 k1b k6 k6b hx KIE KIJ KN KS HX q1 q3 l1 l2 l3
          subst k3
          go_enter Tryd.func30, Tryd.ntmps30
          go_wp2_with (with_reducible refine wpList_load_st rfl 44 (.tmp 3) rfl (g := b + 1) (off := 0) rfl H0.out (cs := R) (t := 44) (fr := (0, 0)) (by simp) R (fun j hj => by rw [Nat.zero_add]) _ Tryd.underlying44 rfl INF.out ?_)
          refine (KK.out _ _ H0.out).mono ?_
          rintro e w5 ⟨rfl, h5⟩
          have H5 := Lib.hid h5
          clear h5 H0 KK
          go_wp2_with fail
          go_ret
          exact ⟨rfl, St.weaken (A := [_, _]) H5.out⟩
        · have k3b : (kd == 3) = false := beq_eq_false_iff_ne.2 k3
          have hx := say_ok ⟨cl, kd, sl, jo, na⟩ r he k1 k6 k3
          rw [HX.out] at hx
          subst hx
          rw [he] at q0
          clear he heb k1 k6 k3 KIE KIJ KN KS HX q1 q3 l1 l2 l3
          go_enter Tryd.func30, Tryd.ntmps30
          go_wp2_with fail
          go_ret
          exact ⟨rfl, St.weaken (A := [_, _]) H0.out⟩
  · have heb : (r.err == 0) = false := beq_eq_false_iff_ne.2 he
    have hx := say_err ⟨cl, kd, sl, jo, na⟩ r he
    rw [HX.out] at hx
    have a1 := ba_app [101, 114, 114, 111, 114, 32] (Lib.itoa r.err)
    rw [← hx] at a1
    have z : ¬ (9223372036854775807 < 6 + (⟨(Lib.itoa r.err).toArray⟩ : ByteArray).size) := by rw [ba_size]; omega
    have kk := KIE.out
    obtain ⟨bq, hbq⟩ : ∃ x, (⟨(Lib.itoa r.err).toArray⟩ : ByteArray) = x := ⟨_, rfl⟩
    simp only [hbq] at kk
    rw [hbq] at a1 z
    have KK := Lib.hid kk; have A1 := Lib.hid a1

    clear kk a1 hbq hx KIE KIJ KN KS HX l1 l2 l3 he q1 q3
    skip
    go_enter Tryd.func30, Tryd.ntmps30
    go_wp2_with fail
    refine (KK.out _ _ H0.out).mono ?_
    rintro e w5 ⟨rfl, h5⟩
    have H5 := Lib.hid h5
    clear h5 H0 KK
    go_wp2_with fail
    go_ret
    exact ⟨congrArg (fun s => Ending.returned (Value.string s)) A1.out, St.weaken (A := [_, _]) H5.out⟩
end
end
end Go.Proofs.YtjcekmmieihllaaDoor
