/- How much items cost, by the count that says whether they are small. -/
import Derived.Test.YtpmfnjkcoogicaaGreatEi
namespace Go.Proofs.YtpmfnjkcoogicaaGreat
open Go.RowKit Go.Th
set_option linter.unusedVariables false

def costH (h : Head) : Nat := h.props.length / 8 + h.dels.length / 8 + h.lyrs.length / 8
mutual
def costI : Item → Nat
  | .mk _ _ _ _ h f r => 1 + costH h + (costIs f + costRs r)
def costIs : List Item → Nat
  | [] => 0
  | x :: l => costI x + costIs l
def costR : Row → Nat
  | .mk h c => 1 + costH h + costCs c
def costRs : List Row → Nat
  | [] => 0
  | x :: l => costR x + costRs l
def costC : Cell → Nat
  | .mk _ h f => 1 + costH h + costIs f
def costCs : List Cell → Nat
  | [] => 0
  | x :: l => costC x + costCs l
end
theorem costIs_take : ∀ (l : List Item) (i : Nat) (x : Item), l[i]? = some x → costIs (l.take (i + 1)) = costIs (l.take i) + costI x
  | [], i, x, h => by simp at h
  | y :: l, 0, x, h => by simp at h; subst h; simp [costIs]
  | y :: l, i + 1, x, h => by
    have := costIs_take l i x (by simpa using h)
    simp only [List.take_succ_cons, costIs, this]; omega
theorem costRs_take : ∀ (l : List Row) (i : Nat) (x : Row), l[i]? = some x → costRs (l.take (i + 1)) = costRs (l.take i) + costR x
  | [], i, x, h => by simp at h
  | y :: l, 0, x, h => by simp at h; subst h; simp [costRs]
  | y :: l, i + 1, x, h => by
    have := costRs_take l i x (by simpa using h)
    simp only [List.take_succ_cons, costRs, this]; omega
theorem costCs_take : ∀ (l : List Cell) (i : Nat) (x : Cell), l[i]? = some x → costCs (l.take (i + 1)) = costCs (l.take i) + costC x
  | [], i, x, h => by simp at h
  | y :: l, 0, x, h => by simp at h; subst h; simp [costCs]
  | y :: l, i + 1, x, h => by
    have := costCs_take l i x (by simpa using h)
    simp only [List.take_succ_cons, costCs, this]; omega

theorem costIs_mem : ∀ {l : List Item} {x : Item}, x ∈ l → costI x ≤ costIs l
  | y :: l, x, h => by
    rcases List.mem_cons.1 h with rfl | h
    · simp only [costIs]; omega
    · have := costIs_mem h; simp only [costIs]; omega
theorem costRs_mem : ∀ {l : List Row} {x : Row}, x ∈ l → costR x ≤ costRs l
  | y :: l, x, h => by
    rcases List.mem_cons.1 h with rfl | h
    · simp only [costRs]; omega
    · have := costRs_mem h; simp only [costRs]; omega
theorem costCs_mem : ∀ {l : List Cell} {x : Cell}, x ∈ l → costC x ≤ costCs l
  | y :: l, x, h => by
    rcases List.mem_cons.1 h with rfl | h
    · simp only [costCs]; omega
    · have := costCs_mem h; simp only [costCs]; omega
theorem costIs_len : ∀ l : List Item, l.length ≤ costIs l
  | [] => Nat.zero_le _
  | .mk _ _ _ _ _ _ _ :: l => by have := costIs_len l; simp only [costIs, costI, List.length_cons]; omega
theorem costRs_len : ∀ l : List Row, l.length ≤ costRs l
  | [] => Nat.zero_le _
  | .mk _ _ :: l => by have := costRs_len l; simp only [costRs, costR, List.length_cons]; omega
theorem costCs_len : ∀ l : List Cell, l.length ≤ costCs l
  | [] => Nat.zero_le _
  | .mk _ _ _ :: l => by have := costCs_len l; simp only [costCs, costC, List.length_cons]; omega

theorem costH_le {h : Head} (hb : h.props.length ≤ 9223372036854775807 ∧ h.dels.length ≤ 9223372036854775807 ∧ h.lyrs.length ≤ 9223372036854775807) : costH h ≤ 3458764513820540925 := by
  unfold costH; omega
def BndH (h : Head) : Prop := h.props.length ≤ 9223372036854775807 ∧ h.dels.length ≤ 9223372036854775807 ∧ h.lyrs.length ≤ 9223372036854775807
theorem bnd_row {α : Type} {enc : α → List PV} {sz : Nat} {l : List α} (h : Bnd (rowP enc sz l)) : l.length ≤ 9223372036854775807 ∧ ∀ x ∈ l, ∀ c ∈ enc x, Bnd c := by
  cases h with
  | tr _ h1 k => exact ⟨h1, fun x hx c hc => k c (List.mem_flatMap.2 ⟨x, hx, hc⟩)⟩
theorem bnd_head {h : Head} {l : List PV} (k : ∀ c ∈ l, Bnd c) (h1 : propsP h.props ∈ l) (h2 : delsP h.dels ∈ l) (h3 : lyrsP h.lyrs ∈ l) : BndH h := ⟨(bnd_row (k _ h1)).1, (bnd_row (k _ h2)).1, (bnd_row (k _ h3)).1⟩
theorem bnd_item {l : List Item} (h : Bnd (itemsP l)) {x : Item} (hx : x ∈ l) : ∀ k c i t hd f r, x = .mk k c i t hd f r → BndH hd := fun k c i t hd f r e => by
  subst e
  have := (bnd_row h).2 _ hx
  rw [encItem_mk] at this
  exact bnd_head this (by simp) (by simp) (by simp)
theorem bnd_rows {l : List Row} (h : Bnd (rowsP l)) {x : Row} (hx : x ∈ l) : ∀ hd cs, x = .mk hd cs → BndH hd ∧ Bnd (cellsP cs) := fun hd cs e => by
  subst e
  have := (bnd_row h).2 _ hx
  rw [encRow_mk] at this
  exact ⟨bnd_head this (by simp) (by simp) (by simp), this _ (by simp)⟩
theorem bnd_cells {l : List Cell} (h : Bnd (cellsP l)) {x : Cell} (hx : x ∈ l) : ∀ i hd f, x = .mk i hd f → BndH hd := fun i hd f e => by
  subst e
  have := (bnd_row h).2 _ hx
  rw [encCell_mk] at this
  exact bnd_head this (by simp) (by simp) (by simp)

def left1 (n : Int) (h : Head) : Int := IntKind.i64.wrap (IntKind.i64.wrap (IntKind.i64.wrap (IntKind.i64.wrap (n - 1) - IntKind.i64.wrap ((h.props.length : Int).tdiv 8)) - IntKind.i64.wrap ((h.dels.length : Int).tdiv 8)) - IntKind.i64.wrap ((h.lyrs.length : Int).tdiv 8))
theorem wrap_id {a : Int} (h1 : -9223372036854775808 ≤ a) (h2 : a ≤ 9223372036854775807) : IntKind.i64.wrap a = a := by rw [IntKind.wrap_i64]; omega
theorem left1_eq {n : Int} {h : Head} (h1 : -3458764513820540929 ≤ n) (h2 : n ≤ 1000) (hb : BndH h) : left1 n h = n - 1 - (costH h : Int) := by
  obtain ⟨a, b, c⟩ := hb
  unfold left1 costH
  have e : ∀ k : Nat, (k : Int).tdiv 8 = ((k / 8 : Nat) : Int) := fun k => by
    rw [Int.tdiv_eq_ediv_of_nonneg (by omega)]; omega
  rw [e, e, e]
  have hx : h.props.length / 8 ≤ 1152921504606846975 := by omega
  have hy : h.dels.length / 8 ≤ 1152921504606846975 := by omega
  have hz : h.lyrs.length / 8 ≤ 1152921504606846975 := by omega
  generalize h.props.length / 8 = x at hx ⊢
  generalize h.dels.length / 8 = y at hy ⊢
  generalize h.lyrs.length / 8 = z at hz ⊢
  rw [wrap_id (a := (x : Int)) (by omega) (by omega), wrap_id (a := (y : Int)) (by omega) (by omega), wrap_id (a := (z : Int)) (by omega) (by omega), wrap_id (a := n - 1) (by omega) (by omega),
    wrap_id (a := n - 1 - (x : Int)) (by omega) (by omega), wrap_id (a := n - 1 - (x : Int) - (y : Int)) (by omega) (by omega), wrap_id (a := n - 1 - (x : Int) - (y : Int) - (z : Int)) (by omega) (by omega)]
  omega
end Go.Proofs.YtpmfnjkcoogicaaGreat
