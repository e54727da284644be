/- Slots that stand below one another. -/
import Derived.Test.YtpkeceifnmmhcaaPgN
namespace Go.Proofs.Ytpkeceifnmmhcaa
open Go.RowKit Go.Th

/-- Where the last slot ends (y, if there is none). -/
def endL (y : Int) (l : List Slot) : Int := l.foldl (fun _ s => s.y + s.h) y
theorem endL_app (y : Int) (l : List Slot) (s : Slot) : endL y (l ++ [s]) = s.y + s.h := by simp [endL]
def own (l : List Slot) : Nat := (l.filter fun s => !s.rep).length
theorem own_app (l : List Slot) (s : Slot) : own (l ++ [s]) = own l + (if s.rep then 0 else 1) := by
  cases h : s.rep <;> simp [own, h]
def Stk (y : Int) (S : List Slot) : Prop := ∀ i s, S[i]? = some s → endL y (S.take i) ≤ s.y
theorem Stk.nil (y : Int) : Stk y [] := fun i s h => by simp at h
theorem Stk.app {y : Int} {S : List Slot} {s : Slot} (h : Stk y S) (k : endL y S ≤ s.y) : Stk y (S ++ [s]) := fun i t ht => by
  rcases Nat.lt_trichotomy i S.length with hlt | heq | hgt
  · rw [List.getElem?_append_left hlt] at ht
    rw [List.take_append_of_le_length (by omega)]
    exact h i t ht
  · subst heq
    rw [List.getElem?_append_right (Nat.le_refl _)] at ht
    simp at ht
    subst ht
    rw [List.take_left']
    · exact k
    · rfl
  · have : (S ++ [s])[i]? = none := List.getElem?_eq_none (by simp; omega)
    rw [this] at ht; cases ht

theorem slotsN_stk {l : List Piece} (hl : allOk l) (a : Nat) (height : Int) (n : Nat) (hn : a + n ≤ l.length) (ha : a < l.length) :
    Stk 0 (slotsN l a height n) ∧ endL 0 (slotsN l a height n) ≤ yB l a height n ∧ (0 < n → endL 0 (slotsN l a height n) = yB l a height n) ∧ own (slotsN l a height n) = n := by
  induction n with
  | zero =>
    have hr := repOf_small (ok_pg hl ha) height
    simp only [small] at hr
    simp only [slotsN]
    split
    · refine ⟨Stk.app (Stk.nil 0) (by simp [endL]), by simp [endL, yB], fun h => by omega, by simp [own]⟩
    · refine ⟨Stk.nil 0, by simp [endL, yB]; omega, fun h => by omega, by simp [own]⟩
  | succ n ih =>
    obtain ⟨h1, h2, h3, h4⟩ := ih (by omega)
    have hy : yB l a height n ≤ yA l a height n := by
      cases n with
      | zero => simp only [yA, yB]; omega
      | succ n =>
        have p1 := (ok_pg hl (show a + n < l.length by omega)).after
        have p2 := (ok_pg hl (show a + n + 1 < l.length by omega)).before
        simp only [small] at p1 p2
        simp only [yA, yB]; omega
    refine ⟨h1.app (by simp only [slotAt]; omega), ?_, fun _ => ?_, ?_⟩
    · simp only [slotsN, endL_app, slotAt, yB]; omega
    · simp only [slotsN, endL_app, slotAt, yB]
    · simp only [slotsN, own_app, slotAt, h4]; simp

theorem endL_foot (y b : Int) (F : List Foot) (hF : F ≠ []) : endL y (footSlots b F) = b + sumFeet F := by
  induction F generalizing y b with
  | nil => exact absurd rfl hF
  | cons f F ih =>
    cases F with
    | nil => simp [footSlots, endL, sumFeet]
    | cons g F =>
      have := ih (b + f.h) (b + f.h) (by simp)
      have e : endL y (footSlots b (f :: g :: F)) = endL (b + f.h) (footSlots (b + f.h) (g :: F)) := by simp [footSlots, endL]
      rw [e, this]; simp only [sumFeet]; omega

theorem foot_stk (y b : Int) (F : List Foot) (h : y ≤ b) : Stk y (footSlots b F) := by
  have key : ∀ (F : List Foot) (y b : Int), y ≤ b → Stk y (footSlots b F) := fun F => by
    induction F with
    | nil => intro y b _; exact Stk.nil y
    | cons f F ih =>
      intro y b hyb i s hs
      cases i with
      | zero => simp [footSlots] at hs; subst hs; simpa [endL] using hyb
      | succ i =>
        have h2 := ih (b + f.h) (b + f.h) (Int.le_refl _) i s (by simpa [footSlots] using hs)
        have e : endL y ((footSlots b (f :: F)).take (i + 1)) = endL (b + f.h) ((footSlots (b + f.h) F).take i) := by simp [footSlots, endL]
        rw [e]; exact h2
  exact key F y b h

theorem take_endL {S : List Slot} {i : Nat} {s : Slot} (y : Int) (h : S[i]? = some s) : endL y (S.take (i + 1)) = s.y + s.h := by rw [take_succ_of h, endL_app]
theorem take_own {S : List Slot} {i : Nat} {s : Slot} (h : S[i]? = some s) : own (S.take (i + 1)) = own (S.take i) + (if s.rep then 0 else 1) := by rw [take_succ_of h, own_app]
end Go.Proofs.Ytpkeceifnmmhcaa
