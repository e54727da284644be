/- The model's place. -/
import Derived.Test.YtpkeceifnmmhcaaPgX
namespace Go.Proofs.Ytpkeceifnmmhcaa
open Go.RowKit Go.Th
set_option linter.unusedVariables false
set_option maxRecDepth 20000

def zeroC : List PV := [I 0, I 0, .v (.string .empty), I 0, I 0, .v (.slice none 0 0), .v (.slice none 0 0), I 0, I 0]
def rawS (F : List Foot) : List Slot := F.map fun f => ⟨f.id, 0, 0, 0, f.h, false⟩
theorem rawS_len (F : List Foot) : (rawS F).length = F.length := by simp [rawS]

theorem set_mid (pre s post : List PV) (k : Nat) (hk : k < s.length) (v : PV) : (pre ++ (s ++ post)).set (pre.length + k) v = pre ++ (s.set k v ++ post) := by
  rw [List.set_append_right _ _ (by omega), Nat.add_sub_cancel_left, List.set_append_left _ _ hk]
theorem load_mid (pre s post : List PV) (k : Nat) (v : PV) (hk : s[k]? = some v) : takeN 1 ((pre ++ (s ++ post)).drop (pre.length + k)) = some [v] := by
  have hlt := (List.getElem?_eq_some_iff.1 hk).1
  rw [takeN_eq, List.drop_append]
  rw [List.drop_eq_nil_of_le (by omega), List.nil_append, Nat.add_sub_cancel_left]
  refine ⟨by simp only [List.length_drop, List.length_append]; omega, ?_⟩
  rw [List.drop_append_of_le_length (by omega)]
  have : s.drop k = v :: s.drop (k + 1) := by
    rw [List.drop_eq_getElem_cons hlt]
    congr 1
    exact (List.getElem?_eq_some_iff.1 hk).2
  rw [this]; rfl

/-- The feet of a page on the way: j of them have their heights. -/
def midS (b : Int) (F : List Foot) (j : Nat) : List PV := (footSlots b (F.take j)).flatMap encSlot ++ (rawS (F.drop j)).flatMap encSlot
theorem midS_len (b : Int) (F : List Foot) (j : Nat) (h : j ≤ F.length) : (midS b F j).length = F.length * 6 := by
  simp only [midS, List.length_append, flat_len encSlot_len, footSlots_len, rawS_len, List.length_take, List.length_drop]; omega
theorem midS_zero (b : Int) (F : List Foot) : midS b F 0 = (rawS F).flatMap encSlot := by simp [midS, footSlots]
theorem midS_end (b : Int) (F : List Foot) : midS b F F.length = (footSlots b F).flatMap encSlot := by simp [midS, rawS]
theorem midS_at (b : Int) (F : List Foot) (j : Nat) (x : Foot) (h : F[j]? = some x) :
    (midS b F j).set (j * 6 + 3) (I (b + sumFeet (F.take j))) = midS b F (j + 1) ∧ takeN 1 ((midS b F (j + 1)).drop (j * 6 + 4)) = some [I x.h] := by
  have hlt := (List.getElem?_eq_some_iff.1 h).1
  have h1 : F.drop j = x :: F.drop (j + 1) := by
    rw [List.drop_eq_getElem_cons hlt]
    congr 1
    exact (List.getElem?_eq_some_iff.1 h).2
  have h2 : ((footSlots b (F.take j)).flatMap encSlot).length = j * 6 := by rw [flat_len encSlot_len, footSlots_len, List.length_take]; omega
  have e0 : midS b F j = (footSlots b (F.take j)).flatMap encSlot ++ (encSlot ⟨x.id, 0, 0, 0, x.h, false⟩ ++ (rawS (F.drop (j + 1))).flatMap encSlot) := by
    simp only [midS, h1, rawS, List.map_cons, List.flatMap_cons]
  have e1 : midS b F (j + 1) = (footSlots b (F.take j)).flatMap encSlot ++ (encSlot ⟨x.id, 0, 0, b + sumFeet (F.take j), x.h, false⟩ ++ (rawS (F.drop (j + 1))).flatMap encSlot) := by
    simp only [midS]
    rw [take_succ_of h, footSlots_app, List.flatMap_append, List.append_assoc]
    simp
  constructor
  · rw [e0, e1, ← h2, set_mid _ _ _ _ (by simp [encSlot])]
    rfl
  · rw [e1, ← h2]
    exact load_mid _ _ _ _ _ rfl
end Go.Proofs.Ytpkeceifnmmhcaa
