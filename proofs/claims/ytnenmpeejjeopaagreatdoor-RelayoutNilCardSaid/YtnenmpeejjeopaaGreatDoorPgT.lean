/- Breaks gives a slice of the caller's own; pages between breaks fit. -/
import Derived.Test.YtnenmpeejjeopaaGreatDoorPgK
namespace Go.Proofs.YtnenmpeejjeopaaGreatDoor
open Go.RowKit Go.Th
set_option linter.unusedVariables false
set_option maxRecDepth 20000

theorem Breaks_ac {H : Heap} {L : List (Nat × Blk)} (l : List Piece) (height : Int) (hl : allOk l) (hh : 1 ≤ height) (hG : Has H L) :
    AC Tryz.prog 35 [pcs l, I height] H (fun p G => ∃ id, p = .tup [.sl id 0 (breaksL l height).length 1, I 0] ∧ Has G ((id, ⟨(breaksL l height).map I, 3, true⟩) :: L)) := by
  refine AC_enter Tryz.func35 rfl rfl rfl ?_
  repeat (first | refine wpL_end ?_ | refine wpL_nil ?_ | refine wpA_seq ?_ | refine wpA_region ?_ | refine wpA_block ?_ | refine wpL_v rfl rfl (by decide) (OpV_move rfl rfl) ?_ | refine wpL_v rfl rfl (by decide) (OpV_assign rfl rfl) ?_ | refine wpL_v rfl rfl (by decide) (OpV_cmp rfl rfl rfl rfl) ?_ | refine wpA_ct rfl (by first | rfl | exact decide_eq_true (by omega) | exact ndec_t (by omega)) ?_ | refine wpA_cf rfl (by first | rfl | exact decide_eq_false (by omega) | exact ndec_f (by omega)) ?_ | refine wpA_skip ?_ | refine wpA_exit ?_ | refine wpA_ret ?_ | refine x_then_exit ?_ | refine x_then_ret ?_ | refine x_then_normal ?_ | refine x_block_ret ?_ | refine x_block_normal ?_ | refine x_block_exit ?_ | refine x_block_other rfl ?_)
  refine wpL_ac rfl rfl rfl rfl rfl rfl (by decide) (starts_ac _ l height hG) ?_
  rintro _ G ⟨id1, id2, rfl, hG⟩
  refine wpL_ac rfl rfl rfl rfl rfl rfl (by decide) (collect_ac _ l height hl (hG.get 1 _ _ rfl) (hG.get 0 _ _ rfl)) ?_
  rintro _ G2 ⟨rfl, rfl⟩
  have hG := (hG.tail.tail.new (Blk.mk ((breaksL l height).map I) 3 true))
  repeat (first | refine wpL_end ?_ | refine wpL_nil ?_ | refine wpA_seq ?_ | refine wpA_region ?_ | refine wpA_block ?_ | refine wpL_v rfl rfl (by decide) (OpV_move rfl rfl) ?_ | refine wpL_v rfl rfl (by decide) (OpV_assign rfl rfl) ?_ | refine wpL_v rfl rfl (by decide) (OpV_cmp rfl rfl rfl rfl) ?_ | refine wpA_ct rfl (by first | rfl | exact decide_eq_true (by omega) | exact ndec_t (by omega)) ?_ | refine wpA_cf rfl (by first | rfl | exact decide_eq_false (by omega) | exact ndec_f (by omega)) ?_ | refine wpA_skip ?_ | refine wpA_exit ?_ | refine wpA_ret ?_ | refine x_then_exit ?_ | refine x_then_ret ?_ | refine x_then_normal ?_ | refine x_block_ret ?_ | refine x_block_normal ?_ | refine x_block_exit ?_ | refine x_block_other rfl ?_)
  exact postA_2 rfl rfl rfl ⟨_, rfl, hG⟩

/-! ### Where pages end -/

theorem backG_le2 (l : List Piece) (a i k : Nat) (hk : k ≤ i) : backG l a i k ≤ i := by
  induction k with
  | zero => exact Nat.le_refl _
  | succ k ih =>
    simp only [backG]
    split
    · split
      · exact ih (by omega)
      · omega
    · exact Nat.le_refl _

theorem fillG_spec (l : List Piece) (a : Nat) (height : Int) (m i : Nat) (hi : a < i) (hm : i + m = l.length) (hp : ∀ j, 1 ≤ j → a + j < i → tot l a height j ≤ height) :
    fillG l a height m i ≤ l.length ∧ ∀ j, 1 ≤ j → a + j < fillG l a height m i → tot l a height j ≤ height := by
  induction m generalizing i with
  | zero => exact ⟨by simp only [fillG]; omega, hp⟩
  | succ m ih =>
    simp only [fillG]
    split
    · exact ⟨by omega, hp⟩
    · split
      · rename_i h1 h2
        refine ih (i + 1) (by omega) (by omega) fun j hj hj2 => ?_
        rcases Nat.lt_or_ge (a + j) i with h | h
        · exact hp j hj h
        · have : j = i - a := by omega
          rw [this]; exact h2
      · have := backG_le2 l a i i (Nat.le_refl _)
        exact ⟨by omega, fun j hj hj2 => hp j hj (by omega)⟩

theorem fillF_spec (l : List Piece) (a : Nat) (height : Int) (ha : a < l.length) :
    fillF l a height ≤ l.length ∧ ∀ j, 1 ≤ j → a + j < fillF l a height → tot l a height j ≤ height :=
  fillG_spec l a height _ (a + 1) (by omega) (by omega) (fun j h1 h2 => by omega)

theorem yB_tx (l : List Piece) (a : Nat) (height : Int) (n : Nat) : yB l a height (n + 1) = repOf (pg l a) height + tx l a n := by
  induction n with
  | zero => simp only [yB, yA, tx, Nat.add_zero]
  | succ n ih =>
    simp only [yB, yA, tx] at ih ⊢
    rw [show a + (n + 1) = a + n + 1 from rfl]
    omega
theorem feetN_nt (l : List Piece) (a n : Nat) : sumFeet (feetN l a (n + 1)) = nt l a n ∧ (feetN l a (n + 1)).length = ft l a n := by
  induction n with
  | zero => simp [feetN, nt, ft]
  | succ n ih =>
    rw [feetN, sumFeet_app, List.length_append, ih.1, ih.2]
    exact ⟨rfl, rfl⟩

theorem over_fits (l : List Piece) (a n : Nat) (height : Int) (h : tot l a height n ≤ height) : (placeF l a (n + 1) 1 height).over = 0 := by
  have h1 := yB_tx l a height n
  obtain ⟨h2, h3⟩ := feetN_nt l a n
  simp only [tot, fillH] at h
  simp only [placeF, bottom0, h1, h2, h3]
  split
  · rename_i h4
    first | rw [if_pos h4] at h | rw [if_pos (by omega)] at h
    omega
  · rename_i h4
    have h5 : nt l a n = 0 := by
      rw [← h2]
      have : (feetN l a (n + 1)).length = 0 := by omega
      rw [List.length_eq_zero_iff.1 this]; rfl
    first | rw [if_neg h4] at h | rw [if_neg (by omega)] at h
    omega

theorem brk_pairs (l : List Piece) (height : Int) (n i : Nat) (h : l.length ≤ i + n) (hi : i ≤ l.length) :
    (brk l height n i ++ [l.length])[0]? = some i ∧ ∀ k x y : Nat, (brk l height n i ++ [l.length])[k]? = some x → (brk l height n i ++ [l.length])[k + 1]? = some y → x < l.length ∧ y = fillF l x height := by
  induction n generalizing i with
  | zero =>
    have : i = l.length := by omega
    subst this
    exact ⟨by simp [brk], fun k x y hk hk1 => by simp [brk] at hk1⟩
  | succ n ih =>
    simp only [brk]
    split
    · rename_i hlt
      have h2 := fillF_spec l i height hlt
      have h3 := fillF_gt l i height
      obtain ⟨e1, e2⟩ := ih (fillF l i height) (by omega) h2.1
      refine ⟨by simp, fun k x y hk hk1 => ?_⟩
      cases k with
      | zero =>
        simp at hk; subst hk
        rw [List.cons_append, List.getElem?_cons_succ, e1] at hk1
        cases hk1
        exact ⟨hlt, rfl⟩
      | succ k =>
        rw [List.cons_append, List.getElem?_cons_succ] at hk hk1
        exact e2 k x y hk hk1
    · have : i = l.length := by omega
      subst this
      exact ⟨by simp, fun k x y hk hk1 => by simp at hk1⟩

def endsN (l : List Piece) (height : Int) : List Nat := brk l height l.length 0 ++ [l.length]
theorem endsN_int (l : List Piece) (height : Int) : breaksL l height ++ [(l.length : Int)] = (endsN l height).map Int.ofNat := by
  simp [breaksL, endsN]
theorem endsN_pairs (l : List Piece) (height : Int) : (endsN l height)[0]? = some 0 ∧ ∀ k x y : Nat, (endsN l height)[k]? = some x → (endsN l height)[k + 1]? = some y → x < l.length ∧ y = fillF l x height :=
  brk_pairs l height l.length 0 (by omega) (by omega)
theorem breaksL_none (l : List Piece) (height : Int) (h : breaksL l height = []) : l.length = 0 := by
  cases hl : l.length with
  | zero => rfl
  | succ n =>
    simp only [breaksL, hl, brk] at h
    rw [if_pos (by omega)] at h
    simp at h
/-- A page between breaks: where it is, and that it fits. -/
theorem page_fits (l : List Piece) (height : Int) {k x y : Nat} (h1 : (endsN l height)[k]? = some x) (h2 : (endsN l height)[k + 1]? = some y) :
    x < y ∧ y ≤ l.length ∧ (1 < y - x → (placeF l x (y - x) 1 height).over = 0) := by
  obtain ⟨a1, rfl⟩ := (endsN_pairs l height).2 k x y h1 h2
  have h3 := fillF_gt l x height
  obtain ⟨h4, h5⟩ := fillF_spec l x height a1
  refine ⟨h3, h4, fun h6 => ?_⟩
  obtain ⟨n, hn⟩ : ∃ n, fillF l x height - x = n + 1 := ⟨fillF l x height - x - 1, by omega⟩
  rw [hn]
  exact over_fits l x n height (h5 n (by omega) (by omega))
end Go.Proofs.YtnenmpeejjeopaaGreatDoor
