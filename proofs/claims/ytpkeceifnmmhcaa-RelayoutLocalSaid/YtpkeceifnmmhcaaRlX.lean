/- Sorted lists: the binary search and the search from the front find the same; the model's has. -/
import Derived.Test.YtpkeceifnmmhcaaRlW
namespace Go.Proofs.Ytpkeceifnmmhcaa
open Go.RowKit Go.Th
set_option linter.unusedVariables false
set_option maxRecDepth 20000

theorem sorted_lt {l : List Int} (hs : l.Pairwise (· < ·)) {i k : Nat} (h1 : i < k) (h2 : k < l.length) : l.getD i 0 < l.getD k 0 := by
  have := List.pairwise_iff_getElem.1 hs i k (by omega) h2 h1
  simpa [List.getD_eq_getElem?_getD, show i < l.length by omega, h2] using this
theorem sorted_iff {l : List Int} (hs : l.Pairwise (· < ·)) {i k : Nat} (h1 : i < l.length) (h2 : k < l.length) : l.getD i 0 < l.getD k 0 ↔ i < k := by
  constructor
  · intro h
    by_cases e : i < k
    · exact e
    · by_cases e2 : i = k
      · subst e2; omega
      · have := sorted_lt hs (show k < i by omega) h1; omega
  · exact fun h => sorted_lt hs h h2
theorem sorted_inj {l : List Int} (hs : l.Pairwise (· < ·)) {i k : Nat} (h1 : i < l.length) (h2 : k < l.length) (h : l.getD i 0 = l.getD k 0) : i = k := by
  by_cases e : i < k
  · have := sorted_lt hs e h2; omega
  · by_cases e2 : k < i
    · have := sorted_lt hs e2 h1; omega
    · omega

theorem bsG_at {l : List Int} (hs : l.Pairwise (· < ·)) {k : Nat} (hk : k < l.length) (n i j : Nat) (h1 : i ≤ k) (h2 : k ≤ j) (h3 : j ≤ l.length) (hn : j ≤ i + n) : bsG l (l.getD k 0) n i j = k := by
  induction n generalizing i j with
  | zero => simp only [bsG]; omega
  | succ n ih =>
    rw [bsG]
    by_cases c1 : i < j
    · rw [if_pos c1]
      have := sorted_iff hs (show (i + j) / 2 < l.length by omega) hk
      by_cases c2 : (i + j) / 2 < k
      · rw [if_pos (this.2 c2)]
        exact ih _ _ (by omega) h2 h3 (by omega)
      · rw [if_neg (fun h => c2 (this.1 h))]
        exact ih _ _ h1 (by omega) (by omega) (by omega)
    · rw [if_neg c1]; omega

def hasG (l : List Int) (x : Int) : Nat → Nat → Int
  | 0, _ => -1
  | n + 1, i => if l.getD i 0 = x then (i : Int) else hasG l x n (i + 1)
def hasI (l : List Int) (x : Int) : Int := hasG l x l.length 0

theorem hasG_at {l : List Int} (hs : l.Pairwise (· < ·)) {k : Nat} (hk : k < l.length) (n i : Nat) (h1 : i ≤ k) (h2 : k < i + n) : hasG l (l.getD k 0) n i = k := by
  induction n generalizing i with
  | zero => omega
  | succ n ih =>
    rw [hasG]
    by_cases c : l.getD i 0 = l.getD k 0
    · rw [if_pos c, sorted_inj hs (by omega) hk c]
    · rw [if_neg c]
      exact ih (i + 1) (by
        by_cases e : i = k
        · subst e; exact absurd rfl c
        · omega) (by omega)
theorem hasG_none {l : List Int} {x : Int} (h : ∀ i, i < l.length → l.getD i 0 ≠ x) (n i : Nat) (hn : i + n ≤ l.length) : hasG l x n i = -1 := by
  induction n generalizing i with
  | zero => rfl
  | succ n ih => rw [hasG, if_neg (h i (by omega))]; exact ih (i + 1) (by omega)

theorem has_bs {l : List Int} (hs : l.Pairwise (· < ·)) (x : Int) : (bsB l x = true → hasI l x = bsI l x) ∧ (bsB l x = false → hasI l x = -1) := by
  constructor
  · intro h
    simp only [bsB, Bool.and_eq_true, decide_eq_true_eq] at h
    obtain ⟨h1, h2⟩ := h
    have := hasG_at hs h1 l.length 0 (by omega) (by omega)
    rw [h2] at this
    exact this
  · intro h
    refine hasG_none (fun i hi he => ?_) _ _ (by omega)
    have := bsG_at hs hi l.length 0 l.length (by omega) (by omega) (by omega) (by omega)
    rw [he] at this
    have e : bsI l x = i := this
    have : bsB l x = true := by simp only [bsB, e, Bool.and_eq_true, decide_eq_true_eq]; exact ⟨hi, he⟩
    rw [this] at h; cases h

theorem bL_sorted (l : List Piece) (height : Int) : (breaksL l height).Pairwise (· < ·) := by
  have : breaksL l height = (brk l height l.length 0).map Int.ofNat := rfl
  rw [this, List.pairwise_map]
  refine (brk_sorted l height l.length 0).imp ?_
  intro a b h
  exact Int.ofNat_lt.2 h

set_option maxHeartbeats 4000000 in
theorem has_iso (l : List Int) (x : Int) (hl : l.length ≤ 1000000) : Iso Try.prog 53 [intsP l, I x] (fun p => p = I (hasI l x)) := by
  have hG := has_nil
  refine Iso_enter Try.func53 rfl rfl rfl ?_
  repeat (first | refine wpL_end ?_ | refine wpL_nil ?_ | refine wpA_seq ?_ | refine wpA_region ?_ | refine wpA_block ?_ | refine wpL_v rfl rfl (by decide) (OpV_cmp rfl rfl rfl (congrArg some (decide_eq_true (by omega)))) ?_ | refine wpL_v rfl rfl (by decide) (OpV_cmp rfl rfl rfl (congrArg some (decide_eq_false (by omega)))) ?_ | refine wpL_v rfl rfl (by decide) (OpV_cmp rfl rfl rfl (congrArg some (ndec_t (by omega)))) ?_ | refine wpL_v rfl rfl (by decide) (OpV_cmp rfl rfl rfl (congrArg some (ndec_f (by omega)))) ?_ | refine wpL_v rfl rfl (by decide) (OpV_move rfl rfl) ?_ | refine wpL_v rfl rfl (by decide) (OpV_assign rfl rfl) ?_ | refine wpL_v rfl rfl (by decide) (OpV_cmp rfl rfl rfl rfl) ?_ | refine wpL_v rfl rfl (by decide) (OpV_add rfl rfl rfl (by omega)) ?_ | refine wpL_v rfl rfl (by decide) (OpV_len rfl rfl rfl) ?_ | refine wpL_v rfl rfl (by decide) (OpV_load rfl rfl rfl) ?_ | refine wpL_v rfl rfl (by decide) (OpV_nilptr rfl rfl rfl) ?_ | refine wpL_v rfl rfl (by decide) (OpV_beq rfl rfl rfl) ?_ | refine wpL_v rfl rfl (by decide) (OpV_bne rfl rfl rfl) ?_ | refine wpL_loadH 0 hG rfl rfl (by decide) rfl rfl rfl rfl ?_ | refine wpL_loadH 1 hG rfl rfl (by decide) rfl rfl rfl rfl ?_ | refine wpL_loadH 2 hG rfl rfl (by decide) rfl rfl rfl rfl ?_ | refine wpL_loadH 3 hG rfl rfl (by decide) rfl rfl rfl rfl ?_ | refine wpL_loadH 4 hG rfl rfl (by decide) rfl rfl rfl rfl ?_ | refine wpL_loadH 5 hG rfl rfl (by decide) rfl rfl rfl rfl ?_ | refine wpA_ct rfl (by first | rfl | exact decide_eq_true (by omega) | exact ndec_t (by omega)) ?_ | refine wpA_cf rfl (by first | rfl | exact decide_eq_false (by omega) | exact ndec_f (by omega)) ?_ | refine wpA_skip ?_ | refine wpA_exit ?_ | refine wpA_ret ?_ | refine x_then_exit ?_ | refine x_then_ret ?_ | refine x_then_normal ?_ | refine x_block_ret ?_ | refine x_block_normal ?_ | refine x_block_exit ?_ | refine x_block_other rfl ?_)
  refine wpA_loopS (S := Nat) (fun i => [(0, intsP l), (1, I x), (5, I i)]) (fun i _ => i ≤ l.length ∧ hasG l x (l.length - i) i = hasI l x) (fun i => l.length - i) 0
    (.cons rfl (.cons rfl (.cons rfl (.nil _)))) ⟨by omega, rfl⟩ ?_
  rintro i G ⟨h1, h2⟩
  have hG := Has.nil G
  by_cases c1 : i < l.length
  · have hx := getD_some c1
    have o1 : takeN 1 ((l.map I).drop ((i : Int).toNat * 1)) = some [I (l.getD i 0)] := int_spot hx
    obtain ⟨n, hn⟩ : ∃ n, l.length - i = n + 1 := ⟨l.length - i - 1, by omega⟩
    rw [hn, hasG] at h2
    generalize l.getD i 0 = y at o1 h2
    by_cases c2 : y = x
    · rw [if_pos c2] at h2
      repeat (first | refine wpL_end ?_ | refine wpL_nil ?_ | refine wpA_seq ?_ | refine wpA_region ?_ | refine wpA_block ?_ | refine wpL_v rfl rfl (by decide) (OpV_index_tr (cells := l.map I) rfl rfl rfl (by omega) (by exact o1)) ?_ | refine wpL_v rfl rfl (by decide) (OpV_cmp rfl rfl rfl (congrArg some (decide_eq_true (by omega)))) ?_ | refine wpL_v rfl rfl (by decide) (OpV_cmp rfl rfl rfl (congrArg some (decide_eq_false (by omega)))) ?_ | refine wpL_v rfl rfl (by decide) (OpV_cmp rfl rfl rfl (congrArg some (ndec_t (by omega)))) ?_ | refine wpL_v rfl rfl (by decide) (OpV_cmp rfl rfl rfl (congrArg some (ndec_f (by omega)))) ?_ | refine wpL_v rfl rfl (by decide) (OpV_move rfl rfl) ?_ | refine wpL_v rfl rfl (by decide) (OpV_assign rfl rfl) ?_ | refine wpL_v rfl rfl (by decide) (OpV_cmp rfl rfl rfl rfl) ?_ | refine wpL_v rfl rfl (by decide) (OpV_add rfl rfl rfl (by omega)) ?_ | refine wpL_v rfl rfl (by decide) (OpV_len rfl rfl rfl) ?_ | refine wpL_v rfl rfl (by decide) (OpV_load rfl rfl rfl) ?_ | refine wpL_v rfl rfl (by decide) (OpV_nilptr rfl rfl rfl) ?_ | refine wpL_v rfl rfl (by decide) (OpV_beq rfl rfl rfl) ?_ | refine wpL_v rfl rfl (by decide) (OpV_bne rfl rfl rfl) ?_ | refine wpL_loadH 0 hG rfl rfl (by decide) rfl rfl rfl rfl ?_ | refine wpL_loadH 1 hG rfl rfl (by decide) rfl rfl rfl rfl ?_ | refine wpL_loadH 2 hG rfl rfl (by decide) rfl rfl rfl rfl ?_ | refine wpL_loadH 3 hG rfl rfl (by decide) rfl rfl rfl rfl ?_ | refine wpL_loadH 4 hG rfl rfl (by decide) rfl rfl rfl rfl ?_ | refine wpL_loadH 5 hG rfl rfl (by decide) rfl rfl rfl rfl ?_ | refine wpA_ct rfl (by first | rfl | exact decide_eq_true (by omega) | exact ndec_t (by omega)) ?_ | refine wpA_cf rfl (by first | rfl | exact decide_eq_false (by omega) | exact ndec_f (by omega)) ?_ | refine wpA_skip ?_ | refine wpA_exit ?_ | refine wpA_ret ?_ | refine x_then_exit ?_ | refine x_then_ret ?_ | refine x_then_normal ?_ | refine x_block_ret ?_ | refine x_block_normal ?_ | refine x_block_exit ?_ | refine x_block_other rfl ?_)
      exact postI_1 rfl rfl (.refl _) (.v _) (by rw [← h2])
    · rw [if_neg c2] at h2
      repeat (first | refine wpL_end ?_ | refine wpL_nil ?_ | refine wpA_seq ?_ | refine wpA_region ?_ | refine wpA_block ?_ | refine wpL_v rfl rfl (by decide) (OpV_index_tr (cells := l.map I) rfl rfl rfl (by omega) (by exact o1)) ?_ | refine wpL_v rfl rfl (by decide) (OpV_cmp rfl rfl rfl (congrArg some (decide_eq_true (by omega)))) ?_ | refine wpL_v rfl rfl (by decide) (OpV_cmp rfl rfl rfl (congrArg some (decide_eq_false (by omega)))) ?_ | refine wpL_v rfl rfl (by decide) (OpV_cmp rfl rfl rfl (congrArg some (ndec_t (by omega)))) ?_ | refine wpL_v rfl rfl (by decide) (OpV_cmp rfl rfl rfl (congrArg some (ndec_f (by omega)))) ?_ | refine wpL_v rfl rfl (by decide) (OpV_move rfl rfl) ?_ | refine wpL_v rfl rfl (by decide) (OpV_assign rfl rfl) ?_ | refine wpL_v rfl rfl (by decide) (OpV_cmp rfl rfl rfl rfl) ?_ | refine wpL_v rfl rfl (by decide) (OpV_add rfl rfl rfl (by omega)) ?_ | refine wpL_v rfl rfl (by decide) (OpV_len rfl rfl rfl) ?_ | refine wpL_v rfl rfl (by decide) (OpV_load rfl rfl rfl) ?_ | refine wpL_v rfl rfl (by decide) (OpV_nilptr rfl rfl rfl) ?_ | refine wpL_v rfl rfl (by decide) (OpV_beq rfl rfl rfl) ?_ | refine wpL_v rfl rfl (by decide) (OpV_bne rfl rfl rfl) ?_ | refine wpL_loadH 0 hG rfl rfl (by decide) rfl rfl rfl rfl ?_ | refine wpL_loadH 1 hG rfl rfl (by decide) rfl rfl rfl rfl ?_ | refine wpL_loadH 2 hG rfl rfl (by decide) rfl rfl rfl rfl ?_ | refine wpL_loadH 3 hG rfl rfl (by decide) rfl rfl rfl rfl ?_ | refine wpL_loadH 4 hG rfl rfl (by decide) rfl rfl rfl rfl ?_ | refine wpL_loadH 5 hG rfl rfl (by decide) rfl rfl rfl rfl ?_ | refine wpA_ct rfl (by first | rfl | exact decide_eq_true (by omega) | exact ndec_t (by omega)) ?_ | refine wpA_cf rfl (by first | rfl | exact decide_eq_false (by omega) | exact ndec_f (by omega)) ?_ | refine wpA_skip ?_ | refine wpA_exit ?_ | refine wpA_ret ?_ | refine x_then_exit ?_ | refine x_then_ret ?_ | refine x_then_normal ?_ | refine x_block_ret ?_ | refine x_block_normal ?_ | refine x_block_exit ?_ | refine x_block_other rfl ?_)
      exact ⟨i + 1, by omega, .cons rfl (.cons rfl (.cons rfl (.nil _))), by omega, by rw [← h2, show l.length - (i + 1) = n by omega]⟩
  · rw [show l.length - i = 0 by omega, hasG] at h2
    repeat (first | refine wpL_end ?_ | refine wpL_nil ?_ | refine wpA_seq ?_ | refine wpA_region ?_ | refine wpA_block ?_ | refine wpL_v rfl rfl (by decide) (OpV_cmp rfl rfl rfl (congrArg some (decide_eq_true (by omega)))) ?_ | refine wpL_v rfl rfl (by decide) (OpV_cmp rfl rfl rfl (congrArg some (decide_eq_false (by omega)))) ?_ | refine wpL_v rfl rfl (by decide) (OpV_cmp rfl rfl rfl (congrArg some (ndec_t (by omega)))) ?_ | refine wpL_v rfl rfl (by decide) (OpV_cmp rfl rfl rfl (congrArg some (ndec_f (by omega)))) ?_ | refine wpL_v rfl rfl (by decide) (OpV_move rfl rfl) ?_ | refine wpL_v rfl rfl (by decide) (OpV_assign rfl rfl) ?_ | refine wpL_v rfl rfl (by decide) (OpV_cmp rfl rfl rfl rfl) ?_ | refine wpL_v rfl rfl (by decide) (OpV_add rfl rfl rfl (by omega)) ?_ | refine wpL_v rfl rfl (by decide) (OpV_len rfl rfl rfl) ?_ | refine wpL_v rfl rfl (by decide) (OpV_load rfl rfl rfl) ?_ | refine wpL_v rfl rfl (by decide) (OpV_nilptr rfl rfl rfl) ?_ | refine wpL_v rfl rfl (by decide) (OpV_beq rfl rfl rfl) ?_ | refine wpL_v rfl rfl (by decide) (OpV_bne rfl rfl rfl) ?_ | refine wpL_loadH 0 hG rfl rfl (by decide) rfl rfl rfl rfl ?_ | refine wpL_loadH 1 hG rfl rfl (by decide) rfl rfl rfl rfl ?_ | refine wpL_loadH 2 hG rfl rfl (by decide) rfl rfl rfl rfl ?_ | refine wpL_loadH 3 hG rfl rfl (by decide) rfl rfl rfl rfl ?_ | refine wpL_loadH 4 hG rfl rfl (by decide) rfl rfl rfl rfl ?_ | refine wpL_loadH 5 hG rfl rfl (by decide) rfl rfl rfl rfl ?_ | refine wpA_ct rfl (by first | rfl | exact decide_eq_true (by omega) | exact ndec_t (by omega)) ?_ | refine wpA_cf rfl (by first | rfl | exact decide_eq_false (by omega) | exact ndec_f (by omega)) ?_ | refine wpA_skip ?_ | refine wpA_exit ?_ | refine wpA_ret ?_ | refine x_then_exit ?_ | refine x_then_ret ?_ | refine x_then_normal ?_ | refine x_block_ret ?_ | refine x_block_normal ?_ | refine x_block_exit ?_ | refine x_block_other rfl ?_)
    exact postI_1 rfl rfl (.refl _) (.v _) (by rw [← h2]; rfl)
end Go.Proofs.Ytpkeceifnmmhcaa
