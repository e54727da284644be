/- Placing a page, as a law of lists. -/
import Derived.Test.YtnenmpeejjeopaaGreatDoorPgD
namespace Go.Proofs.YtnenmpeejjeopaaGreatDoor
open Go.Th

structure Slot where
  flow : Int
  block : Int
  part : Int
  y : Int
  h : Int
  rep : Bool
def encSlot (s : Slot) : List PV := [I s.flow, I s.block, I s.part, I s.y, I s.h, B s.rep]
theorem encSlot_len (s : Slot) : (encSlot s).length = 6 := rfl
def slotsP (l : List Slot) : PV := .tr (l.flatMap encSlot) l.length 6
theorem tree_slotsP (l : List Slot) : Tree (slotsP l) := Tree.tr fun c hc => by
  obtain ⟨f, _, hf⟩ := List.mem_flatMap.1 hc
  simp only [encSlot, List.mem_cons, List.not_mem_nil, or_false] at hf
  rcases hf with rfl | rfl | rfl | rfl | rfl | rfl <;> first | exact tree_I _ | exact tree_B _
theorem slot_spot {l : List Slot} {i : Nat} {x : Slot} (h : l[i]? = some x) : takeN 6 ((l.flatMap encSlot).drop (i * 6)) = some (encSlot x) := flat_at encSlot_len l i x h

structure Page where
  width : Int
  height : Int
  slots : List Slot
  feet : List Slot
  used : Int
  over : Int
def encPage (p : Page) : List PV := [I 0, I 0, .v (.string .empty), I p.width, I p.height, slotsP p.slots, slotsP p.feet, I p.used, I p.over]
theorem tree_encPage (p : Page) : ∀ c ∈ encPage p, Tree c := fun c hc => by
  simp only [encPage, List.mem_cons, List.not_mem_nil, or_false] at hc
  rcases hc with rfl | rfl | rfl | rfl | rfl | rfl | rfl | rfl | rfl <;> first | exact tree_I _ | exact tree_slotsP _ | exact Tree.v _
def nilPage : Page := ⟨0, 0, [], [], 0, 0⟩

def yA (l : List Piece) (a : Nat) (height : Int) : Nat → Int
  | 0 => repOf (pg l a) height
  | j + 1 => yA l a height j + (pg l (a + j)).height + ((pg l (a + j)).after + (pg l (a + j + 1)).before)
def yB (l : List Piece) (a : Nat) (height : Int) : Nat → Int
  | 0 => repOf (pg l a) height
  | j + 1 => yA l a height j + (pg l (a + j)).height
def slotAt (l : List Piece) (a : Nat) (height : Int) (j : Nat) : Slot := ⟨(pg l (a + j)).flow, (pg l (a + j)).block, (pg l (a + j)).part, yA l a height j, (pg l (a + j)).height, false⟩
def slotsN (l : List Piece) (a : Nat) (height : Int) : Nat → List Slot
  | 0 => if 0 < repOf (pg l a) height then [⟨(pg l a).flow, (pg l a).block, 0, 0, repOf (pg l a) height, true⟩] else []
  | n + 1 => slotsN l a height n ++ [slotAt l a height n]
def feetN (l : List Piece) (a : Nat) : Nat → List Foot
  | 0 => []
  | n + 1 => feetN l a n ++ (pg l (a + n)).feet
/-- The feet from a height on. -/
def footSlots : Int → List Foot → List Slot
  | _, [] => []
  | y, f :: r => ⟨f.id, 0, 0, y, f.h, false⟩ :: footSlots (y + f.h) r
def bottom0 (y height : Int) (feet : List Foot) : Int := if 0 < feet.length then max (y + 120) (height - sumFeet feet) else y
def placeF (l : List Piece) (a n : Nat) (width height : Int) : Page :=
  ⟨width, height, slotsN l a height n, footSlots (bottom0 (yB l a height n) height (feetN l a n)) (feetN l a n), yB l a height n, max 0 (bottom0 (yB l a height n) height (feetN l a n) + sumFeet (feetN l a n) - height)⟩
def placeR (l : List Piece) (a b width height : Int) : Page × Int :=
  if a < 0 ∨ b ≤ a ∨ (l.length : Int) < b then (nilPage, 2) else if width < 1 ∨ height < 1 then (nilPage, 32) else (placeF l a.toNat (b - a).toNat width height, 0)

theorem slotsN_len (l : List Piece) (a : Nat) (height : Int) (n : Nat) : (slotsN l a height n).length ≤ n + 1 := by
  induction n with
  | zero => simp only [slotsN]; split <;> simp
  | succ n ih => simp only [slotsN, List.length_append, List.length_cons, List.length_nil]; omega

theorem feetN_len {l : List Piece} (h : allOk l) (a n : Nat) (hn : a + n ≤ l.length) : (feetN l a n).length ≤ 5 * n := by
  induction n with
  | zero => simp [feetN]
  | succ n ih =>
    have := ih (by omega)
    have h2 := (ok_pg h (show a + n < l.length by omega)).feet
    simp only [feetN, List.length_append]; omega

theorem feetN_ok {l : List Piece} (h : allOk l) (a n : Nat) (hn : a + n ≤ l.length) : ∀ f ∈ feetN l a n, small f.id ∧ small f.h := by
  induction n with
  | zero => simp [feetN]
  | succ n ih =>
    intro f hf
    rcases List.mem_append.1 hf with hf | hf
    · exact ih (by omega) f hf
    · exact (ok_pg h (show a + n < l.length by omega)).foot f hf

theorem sumFeet_app (a b : List Foot) : sumFeet (a ++ b) = sumFeet a + sumFeet b := by
  induction a with
  | nil => simp [sumFeet]
  | cons x a ih => simp only [List.cons_append, sumFeet, ih]; omega

theorem yA_le {l : List Piece} (h : allOk l) (a : Nat) (height : Int) (n : Nat) (hn : a + n < l.length) : 0 ≤ yA l a height n ∧ yA l a height n ≤ 4000000000 * (n + 1) := by
  induction n with
  | zero =>
    have := repOf_small (ok_pg h (show a < l.length by omega)) height
    simp only [small] at this
    simp only [yA]; omega
  | succ n ih =>
    have := ih (by omega)
    have hp := ok_pg h (show a + n < l.length by omega)
    have hq := (ok_pg h (show a + n + 1 < l.length by omega)).before
    have h1 := hp.height
    have h2 := hp.after
    simp only [small] at h1 h2 hq
    simp only [yA]; omega

theorem yB_le {l : List Piece} (h : allOk l) (a : Nat) (height : Int) (n : Nat) (hn : a + n ≤ l.length) (ha : a < l.length) : 0 ≤ yB l a height n ∧ yB l a height n ≤ 4000000000 * (n + 1) := by
  cases n with
  | zero =>
    have := repOf_small (ok_pg h ha) height
    simp only [small] at this
    simp only [yB]; omega
  | succ n =>
    have := yA_le h a height n (by omega)
    have h1 := (ok_pg h (show a + n < l.length by omega)).height
    simp only [small] at h1
    simp only [yB]; omega

theorem footSlots_len (y : Int) (l : List Foot) : (footSlots y l).length = l.length := by
  induction l generalizing y with
  | nil => rfl
  | cons a l ih => simp [footSlots, ih]

theorem footSlots_app (y : Int) (a : List Foot) (f : Foot) : footSlots y (a ++ [f]) = footSlots y a ++ [⟨f.id, 0, 0, y + sumFeet a, f.h, false⟩] := by
  induction a generalizing y with
  | nil => simp [footSlots, sumFeet]
  | cons x a ih => simp only [List.cons_append, footSlots, ih, sumFeet]; rw [show y + x.h + sumFeet a = y + (x.h + sumFeet a) from by omega]

theorem take_succ_of {α : Type} {l : List α} {k : Nat} {x : α} (h : l[k]? = some x) : l.take (k + 1) = l.take k ++ [x] := by
  rw [List.take_add_one, h]; rfl
theorem sumLens (l : List Piece) (k : Nat) (_ : k < l.length) : (feetN l 0 (k + 1)).length = (feetN l 0 k).length + (pg l k).feet.length := by simp [feetN]

end Go.Proofs.YtnenmpeejjeopaaGreatDoor
