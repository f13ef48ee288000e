/- NetWhole: the walk of the law. NetFaults: the walk of the law. -/
import Derived.Test.YtnhlpiomfljlcaaDoorNtE
import Derived.Test.YtnhlpiomfljlcaaDoorArgs
namespace Go.Proofs.YtnhlpiomfljlcaaDoor
section
set_option linter.unusedVariables false
set_option linter.unusedSimpArgs false
open Go.RowKit

theorem fold_core : foldOf ⟨#[99, 111, 114, 101]⟩ = [99, 111, 114, 101] := by kernel_rfl
theorem fold_Core : foldOf ⟨#[67, 111, 114, 101]⟩ = [99, 111, 114, 101] := by kernel_rfl
theorem name_core : nameOk ⟨#[99, 111, 114, 101]⟩ = true := by kernel_rfl
theorem newOffs_core (p0 : Part) : newOffs [(⟨#[99, 111, 114, 101]⟩, p0)] = [(⟨#[99, 111, 114, 101]⟩, p0.bs)] := by simp [newOffs, addOff, name_core, fold_core, lookB]
theorem fin_nil (W : World) (I : Nat → Option Obj) : FIn none [] W I := fun w L _ => ⟨rfl, fun j u hj => by simp [fall] at hj⟩
theorem core_off {W w : World} {J : Nat → Option Obj} {b7 : Nat} {p0 : Part} (hp : POk p0 W J) (hg : J b7 = some (.cells #[.string ⟨#[99, 111, 114, 101]⟩, p0.val] 57 (0, 0))) : OffIn (some ⟨b7, 0, none⟩) [(⟨#[99, 111, 114, 101]⟩, p0)] W J := by
  refine ⟨fun k o hk => ?_, fun o ho => ?_, fun o ho => ?_⟩
  · match k, hk with
    | 0, hk => simp at hk; subst hk; exact ⟨_, _, rfl, roCell_of hg, by rw [roCell_of hg]; rfl⟩
    | k + 1, hk => simp at hk
  · simp at ho; subst ho; show ByteArray.size ⟨#[99, 111, 114, 101]⟩ ≤ 1000000; decide
  · simp at ho; subst ho; exact hp
theorem fetched_none (bs : List UInt8) (a m : Int) : fetched bs ⟨0, 0, 0⟩ a m = (piece bs a m, 0) := rfl
end

section
set_option linter.unusedVariables false
set_option linter.unusedSimpArgs false
open Go.RowKit

theorem fold_other : foldOf ⟨#[111, 116, 104, 101, 114]⟩ = [111, 116, 104, 101, 114] := by kernel_rfl

theorem fall_get : ∀ (fs : List Fault) (j : Nat) (g : Fault), fs[j / 3]? = some g → (fall fs)[j]? = (fcells g)[j % 3]?
  | [], j, g, h => by simp at h
  | f :: fs, j, g, h => by
    by_cases h3 : j < 3
    · have e1 : j / 3 = 0 := by omega
      have e2 : j % 3 = j := by omega
      rw [e1] at h
      simp at h
      subst h
      simp only [fall, List.flatMap_cons]
      rw [List.getElem?_append_left (by simp [fcells]; omega), e2]
    · obtain ⟨q, rfl⟩ : ∃ q, j = q + 3 := ⟨j - 3, by omega⟩
      have e1 : (q + 3) / 3 = q / 3 + 1 := by omega
      have e2 : (q + 3) % 3 = q % 3 := by omega
      rw [e1, List.getElem?_cons_succ] at h
      simp only [fall, List.flatMap_cons]
      rw [List.getElem?_append_right (by simp [fcells]), e2]
      exact fall_get fs q g h

theorem Arg.faults {H : Type} {enc : TypeId × Value → H} {W : World} {v : Value} (a : Arg enc Tryd.prog W 64 v) : ∃ A c fs, v = .slice A fs.length c ∧ FIn A fs W (fun b => W.heap[b]?) ∧ Slc (fun b => W.heap[b]?) 3 (fun cs (f : Fault) => cs = fcells f) A fs.length c fs := by
  haveI : Inhabited Fault := ⟨⟨0, 0, 0⟩⟩
  obtain ⟨A, n, c, fs, rfl, hsl⟩ := a.slice (α := Fault) (Q := fun cs f => cs = fcells f) (size := 3) Tryd.underlying64 (by kernel_rfl) (by omega) (fun cs h => by
    obtain ⟨hl, hf⟩ := h.ones Tryd.underlying102 (by kernel_rfl) (by kernel_rfl)
    obtain ⟨c0, e0, h0⟩ := hf 0 _ rfl
    obtain ⟨c1, e1, h1⟩ := hf 1 _ rfl
    obtain ⟨c2, e2, h2⟩ := hf 2 _ rfl
    obtain ⟨k, hk, _⟩ := Cel.int (t := 3) Tryd.underlying3 h0
    obtain ⟨a, ha, _⟩ := Cel.int (t := 3) Tryd.underlying3 h1
    obtain ⟨u, hu, hw⟩ := Cel.int (t := 5) Tryd.underlying5 h2
    obtain ⟨w0, w1⟩ := wf_u8 hw
    have hl' : cs.length = 3 := hl
    match cs, hl' with
    | [x0, x1, x2], _ =>
      simp at e0 e1 e2 hk ha hu
      refine ⟨⟨k, a, UInt8.ofNat u.toNat⟩, ?_⟩
      have : (((UInt8.ofNat u.toNat).toNat : Nat) : Int) = u := by
        rw [UInt8.toNat_ofNat']; omega
      simp only [fcells]
      rw [this, e0, e1, e2, hk, ha, hu])
  have hn := hsl.len
  subst hn
  refine ⟨A, c, fs, rfl, fun w L hst => ⟨fall_len fs, fun j u hj => ?_⟩, hsl⟩
  have hj3 : j < fs.length * 3 := by have := (List.getElem?_eq_some_iff.1 hj).1; rw [fall_len] at this; exact this
  have hi : j / 3 < fs.length := by omega
  obtain ⟨b, off, cs, h1, h2, h3, h4⟩ := hsl.at_ (j / 3) (fs[j / 3]) (List.getElem?_eq_getElem hi)
  subst h4
  refine ⟨_, h1, ?_⟩
  have h5 := h3 (j % 3) (by omega)
  have hfj := fall_get fs j _ (List.getElem?_eq_getElem hi)
  rw [hfj] at hj
  rw [hj] at h5
  rw [show (⟨b, off, none⟩ : Addr).add j = ⟨b, off + j / 3 * 3 + j % 3, none⟩ by unfold Addr.add; split <;> simp_all <;> omega]
  exact hst.ro h5

def lostIn (fs : List Fault) : Nat := (fs.filter fun f => f.kind == 1).length
theorem lostIn_take (fs : List Fault) (k : Nat) : lostIn (fs.take (k + 1)) = lostIn (fs.take k) + (if (first (fs.drop k)).kind = 1 then 1 else 0) := by
  unfold lostIn
  rw [List.take_add_one]
  cases h : fs[k]? with
  | none =>
    have : fs.drop k = [] := List.drop_eq_nil_of_le (by have := List.getElem?_eq_none_iff.1 h; omega)
    rw [this]
    simp [first]
  | some f =>
    have hl := (List.getElem?_eq_some_iff.1 h).1
    have : first (fs.drop k) = f := by
      unfold first
      rw [List.headD_eq_head?_getD, List.head?_drop, h]
      rfl
    rw [this]
    by_cases hk : f.kind = 1
    · simp [List.filter_append, hk]
    · simp [List.filter_append, hk]
theorem piece_len (bs : List UInt8) (a m : Int) : (piece bs a m).length ≤ bs.length := by
  unfold piece
  split
  · simp
  · rw [List.length_take, List.length_drop]; omega
theorem fetched_len (bs : List UInt8) (f : Fault) (a m : Int) : (fetched bs f a m).1.length ≤ bs.length := by
  have h1 := piece_len bs a m
  have h2 := piece_len bs f.at_ m
  unfold fetched
  repeat' split
  all_goals simp only []
  · simp
  · unfold turned
    split
    · simp
    · rw [List.length_modify]; exact h1
  · rw [List.length_take]; omega
  · exact h2
  · exact h1
theorem fetched_err (bs : List UInt8) (f : Fault) (a m : Int) : (fetched bs f a m).2 = if f.kind = 1 then 181 else 0 := by
  unfold fetched
  by_cases h : f.kind = 1
  · rw [if_pos h, if_pos h]
  · rw [if_neg h, if_neg h]
    repeat' split
    all_goals rfl
theorem piece_all (bs : List UInt8) (h : bs.length ≤ 300) : piece bs 0 300 = bs := by
  unfold piece
  split
  · rename_i hc
    have : bs.length = 0 := by omega
    rw [List.eq_nil_of_length_eq_zero this]
  · exact List.take_of_length_le h
end
end Go.Proofs.YtnhlpiomfljlcaaDoor
