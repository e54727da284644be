/- The data of layer 48 as Lean has them, and how they stand in memory. -/
import Derived.Test.YtnenmpeejjeopaaGreatDoorThInst
namespace Go.Proofs.YtnenmpeejjeopaaGreatDoor
open Go.Th

def I (n : Int) : PV := .v (.int .i64 n)
def B (b : Bool) : PV := .v (.bool b)

structure Foot where
  id : Int
  h : Int
structure Piece where
  flow : Int
  block : Int
  part : Int
  fr : Int
  tt : Int
  height : Int
  before : Int
  after : Int
  rep : Int
  feet : List Foot
  force : Bool
  kept : Bool

def encFoot (f : Foot) : List PV := [I f.id, I f.h]
def feetP (l : List Foot) : PV := .tr (l.flatMap encFoot) l.length 2
def encPiece (p : Piece) : List PV := [I p.flow, I p.block, I p.part, I p.fr, I p.tt, I p.height, I p.before, I p.after, I p.rep, feetP p.feet, B p.force, B p.kept]
def pcs (l : List Piece) : PV := .tr (l.flatMap encPiece) l.length 12
def ints (l : List Int) : List PV := l.map I

theorem encFoot_len (f : Foot) : (encFoot f).length = 2 := rfl
theorem encPiece_len (p : Piece) : (encPiece p).length = 12 := rfl

theorem tree_I (n : Int) : Tree (I n) := Tree.v _
theorem tree_B (b : Bool) : Tree (B b) := Tree.v _
theorem tree_feetP (l : List Foot) : Tree (feetP l) := Tree.tr fun c hc => by
  obtain ⟨f, _, hf⟩ := List.mem_flatMap.1 hc
  simp only [encFoot, List.mem_cons, List.not_mem_nil, or_false] at hf
  rcases hf with rfl | rfl <;> exact tree_I _
theorem tree_encPiece (p : Piece) : ∀ c ∈ encPiece p, Tree c := fun c hc => by
  simp only [encPiece, List.mem_cons, List.not_mem_nil, or_false] at hc
  rcases hc with rfl | rfl | rfl | rfl | rfl | rfl | rfl | rfl | rfl | rfl | rfl | rfl <;> first | exact tree_I _ | exact tree_B _ | exact tree_feetP _
theorem tree_pcs (l : List Piece) : Tree (pcs l) := Tree.tr fun c hc => by
  obtain ⟨f, _, hf⟩ := List.mem_flatMap.1 hc
  exact tree_encPiece f c hf

theorem pcs_spot {l : List Piece} {i : Nat} {x : Piece} (h : l[i]? = some x) : takeN 12 ((l.flatMap encPiece).drop (i * 12)) = some (encPiece x) := flat_at encPiece_len l i x h
theorem feet_spot {l : List Foot} {i : Nat} {x : Foot} (h : l[i]? = some x) : takeN 2 ((l.flatMap encFoot).drop (i * 2)) = some (encFoot x) := flat_at encFoot_len l i x h

/-- The heights of feet. -/
def sumFeet : List Foot → Int
  | [] => 0
  | f :: r => f.h + sumFeet r

def small (n : Int) : Prop := 0 ≤ n ∧ n ≤ 1073741824
structure Piece.ok (p : Piece) : Prop where
  flow : small p.flow
  block : small p.block
  part : small p.part
  fr : small p.fr
  tt : small p.tt
  height : small p.height
  before : small p.before
  after : small p.after
  rep : small p.rep
  feet : p.feet.length ≤ 5
  foot : ∀ f ∈ p.feet, small f.id ∧ small f.h

theorem sumFeet_take (l : List Foot) (k : Nat) (f : Foot) (h : l[k]? = some f) : sumFeet (l.take (k + 1)) = sumFeet (l.take k) + f.h := by
  induction l generalizing k with
  | nil => simp at h
  | cons a l ih =>
    cases k with
    | zero => simp at h; subst h; simp [sumFeet]
    | succ k =>
      have := ih k (by simpa using h)
      simp only [List.take_succ_cons, sumFeet] at this ⊢
      omega

theorem sumFeet_le (l : List Foot) (h : ∀ f ∈ l, small f.id ∧ small f.h) : 0 ≤ sumFeet l ∧ sumFeet l ≤ 1073741824 * l.length := by
  induction l with
  | nil => simp [sumFeet]
  | cons a l ih =>
    have h1 := ih (fun f hf => h f (by simp [hf]))
    have h2 := (h a (by simp)).2
    simp only [sumFeet, List.length_cons, small] at *
    omega

theorem sumFeet_take_le (l : List Foot) (k : Nat) (h : ∀ f ∈ l, small f.id ∧ small f.h) (hl : l.length ≤ 5) : 0 ≤ sumFeet (l.take k) ∧ sumFeet (l.take k) ≤ 5368709120 := by
  have := sumFeet_le (l.take k) (fun f hf => h f (List.mem_of_mem_take hf))
  have h2 : (l.take k).length ≤ 5 := by simp; omega
  omega

end Go.Proofs.YtnenmpeejjeopaaGreatDoor
