/- A block that is closed drops out of the list; results, cell by cell. -/
import Derived.Test.YtpkeceifnmmhcaaThThirteen
namespace Go.Th
open Go.RowKit

theorem Has.forget {H : Heap} {L : List (Nat × Blk)} {id : Nat} {B : Blk} (h : Has H ((id, B) :: L)) : Has (H.set id none) L :=
  ⟨fun k i C hk => get_set_ne (h.get (k + 1) i C (by simpa using hk)) (h.ne 0 (k + 1) (id, B) (i, C) (by omega) rfl (by simpa using hk)), h.tail.ne⟩

theorem takeN_all {l : List PV} {n : Nat} (h : l.length = n) : takeN n (l.drop 0) = some l := by
  rw [takeN_eq]; subst h; simp

inductive ConvL (H : Heap) : List PV → List PV → Prop
  | nil : ConvL H [] []
  | cons {c d : PV} {cs ds : List PV} (h : Conv H c d) (k : ConvL H cs ds) : ConvL H (c :: cs) (d :: ds)
theorem ConvL.refl (H : Heap) : ∀ l, ConvL H l l
  | [] => .nil
  | a :: l => .cons (.refl a) (ConvL.refl H l)
theorem ConvL.all {H : Heap} {cs ds : List PV} (h : ConvL H cs ds) : ds.length = cs.length ∧ ∀ (j : Nat) (c d : PV), cs[j]? = some c → ds[j]? = some d → Conv H c d := by
  induction h with
  | nil => exact ⟨rfl, fun j c d h => by simp at h⟩
  | cons h k ih =>
    refine ⟨by simp [ih.1], fun j c d hc hd => ?_⟩
    cases j with
    | zero => simp at hc hd; subst hc; subst hd; exact h
    | succ j => exact ih.2 j c d (by simpa using hc) (by simpa using hd)
theorem ConvL.agg {H : Heap} {cs ds : List PV} (h : ConvL H cs ds) : Conv H (.agg cs) (.agg ds) := .agg h.all.1 h.all.2
/-- A slice of ours that holds trees. -/
theorem Conv.own {H : Heap} {L : List (Nat × Blk)} {k id len sz : Nat} {B : Blk} (hG : Has H L) (hk : L[k]? = some (id, B)) (hl : B.cells.length = len * sz) : Conv H (.sl id 0 len sz) (.tr B.cells len sz) :=
  .sl (hG.get k id B hk) (takeN_all hl) rfl (fun j c d hc hd => by rw [hc] at hd; cases hd; exact .refl _)
theorem loadA_at {H : Heap} {d : TypeDesc} {size id off : Nat} {B : Blk} (hB : H[id]? = some (some B)) : loadA d size H (.ptr id off) = loadC d size B.cells off := by
  simp only [loadA, readA, hB]; rfl
end Go.Th
