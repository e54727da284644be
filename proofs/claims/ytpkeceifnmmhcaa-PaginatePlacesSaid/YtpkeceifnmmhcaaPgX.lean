/- The model's fill, breaks and same. -/
import Derived.Test.YtpkeceifnmmhcaaPgW
namespace Go.Proofs.Ytpkeceifnmmhcaa
open Go.RowKit Go.Th
set_option linter.unusedVariables false
set_option maxRecDepth 20000

theorem flat_drop {α : Type} {enc : α → List PV} {sz : Nat} (henc : ∀ x, (enc x).length = sz) : ∀ (l : List α) (i : Nat), (l.flatMap enc).drop (i * sz) = (l.drop i).flatMap enc
  | [], i => by simp
  | a :: l, 0 => by simp
  | a :: l, i + 1 => by
    rw [List.flatMap_cons, show (i + 1) * sz = (enc a).length + i * sz from by rw [henc, Nat.add_mul]; omega, List.drop_append]
    rw [List.drop_eq_nil_of_le (by omega), List.nil_append, Nat.add_sub_cancel_left, List.drop_succ_cons]
    exact flat_drop henc l i
theorem flat_take {α : Type} {enc : α → List PV} {sz : Nat} (henc : ∀ x, (enc x).length = sz) : ∀ (l : List α) (i : Nat), (l.flatMap enc).take (i * sz) = (l.take i).flatMap enc
  | [], i => by simp
  | a :: l, 0 => by simp
  | a :: l, i + 1 => by
    rw [List.flatMap_cons, show (i + 1) * sz = (enc a).length + i * sz from by rw [henc, Nat.add_mul]; omega, List.take_append]
    rw [List.take_of_length_le (by omega), Nat.add_sub_cancel_left, List.take_succ_cons, List.flatMap_cons, flat_take henc l i]
def sub (l : List Piece) (a b : Nat) : List Piece := (l.drop a).take (b - a)
theorem pcs_sub (l : List Piece) {a b : Nat} (h : a ≤ b) (hb : b ≤ l.length) : sliceA 12 (pcs l) a b = some (pcs (sub l a b)) := by
  have e : (sub l a b).length = b - a := by simp only [sub, List.length_take, List.length_drop]; omega
  simp only [pcs, sliceA, e]
  rw [flat_drop encPiece_len, flat_take encPiece_len]
  rfl
theorem ok_sub {l : List Piece} (h : allOk l) (a b : Nat) : allOk (sub l a b) :=
  allOk_sub h (by simp only [sub, List.length_take, List.length_drop]; omega) (fun p hp => List.mem_of_mem_drop (List.mem_of_mem_take hp))

theorem need_sub {l : List Piece} (h : allOk l) (a j : Nat) (hj : a + j < l.length) : Iso Try.prog 44 [pcs (sub l a (a + j + 1))] (fun p => p = I (tx l a j + nt l a j + gp (ft l a j))) := by
  have h1 := need_iso _ (ok_sub h a (a + j + 1))
  have e : (sub l a (a + j + 1)).length = j + 1 := by simp only [sub, List.length_take, List.length_drop]; omega
  have h2 := nd_tx l a j hj
  rw [e] at h1
  have e2 : sub l a (a + j + 1) = (l.drop a).take (j + 1) := by simp only [sub]; rw [show a + j + 1 - a = j + 1 by omega]
  rw [e2] at h1 ⊢
  rw [h2.1, h2.2] at h1
  exact h1

theorem tot_gp (l : List Piece) (a : Nat) (height : Int) (j : Nat) : tot l a height j = repOf (pg l a) height + (tx l a j + nt l a j + gp (ft l a j)) := by
  simp only [tot, fillH]
  by_cases h : 0 < ft l a j
  · rw [gp_pos h, if_pos (by omega)]; omega
  · rw [show ft l a j = 0 by omega, if_neg (by omega)]; simp only [gp]; omega

set_option maxHeartbeats 4000000 in
theorem mfill_iso (l : List Piece) (a : Nat) (height : Int) (hl : allOk l) (ha : a < l.length) : Iso Try.prog 22 [pcs l, I a, I height] (fun p => p = I (fillF l a height)) := by
  have hlen := hl.1
  have hG := has_nil
  have hrep := repOf_small (ok_pg hl ha) height
  have hr := repeat_iso (pg l a) height (ok_pg hl ha)
  simp only [small] at hrep
  refine Iso_enter Try.func22 rfl rfl rfl ?_
  repeat (first
    | refine wpL_end ?_
    | refine wpL_nil ?_
    | refine wpA_seq ?_
    | refine wpA_region ?_
    | refine wpA_block ?_
    | refine wpL_v rfl rfl (by decide) (OpV_index_tr rfl rfl rfl (by omega) (pcs_spot (pg_some ha))) ?_
    | (refine wpL_is rfl rfl rfl rfl rfl rfl (by decide) hr (TreeL.cons (Tree.agg (tree_encPiece _)) (TreeL.cons (tree_I _) TreeL.nil)) ?_; rintro _ rfl)
    | refine wpL_v rfl rfl (by decide) (OpV_cmp rfl rfl rfl (congrArg some (decide_eq_true (by omega)))) ?_
    | refine wpL_v rfl rfl (by decide) (OpV_cmp rfl rfl rfl (congrArg some (decide_eq_false (by omega)))) ?_
    | refine wpL_v rfl rfl (by decide) (OpV_cmp rfl rfl rfl (congrArg some (ndec_t (by omega)))) ?_
    | refine wpL_v rfl rfl (by decide) (OpV_cmp rfl rfl rfl (congrArg some (ndec_f (by omega)))) ?_
    | refine wpL_v rfl rfl (by decide) (OpV_move rfl rfl) ?_
    | refine wpL_v rfl rfl (by decide) (OpV_assign rfl rfl) ?_
    | refine wpL_v rfl rfl (by decide) (OpV_cmp rfl rfl rfl rfl) ?_
    | refine wpL_v rfl rfl (by decide) (OpV_add rfl rfl rfl (by omega)) ?_
    | refine wpL_v rfl rfl (by decide) (OpV_sub rfl rfl rfl (by omega)) ?_
    | refine wpL_v rfl rfl (by decide) (OpV_len rfl rfl rfl) ?_
    | refine wpL_v rfl rfl (by decide) (OpV_nilCheck rfl rfl rfl) ?_
    | refine wpL_v rfl rfl (by decide) (OpV_fieldAddr rfl rfl rfl rfl) ?_
    | refine wpL_v rfl rfl (by decide) (OpV_load rfl rfl rfl) ?_
    | refine wpL_v rfl rfl (by decide) (OpV_not rfl rfl) ?_
    | refine wpL_v rfl rfl (by decide) (OpV_extract rfl rfl rfl) ?_
    | refine wpL_v rfl rfl (by decide) (OpV_pick_t rfl rfl (by first | rfl | exact decide_eq_true (by omega)) rfl) ?_
    | refine wpL_v rfl rfl (by decide) (OpV_pick_f rfl rfl (by first | rfl | exact decide_eq_false (by omega)) rfl) ?_
    | refine wpL_v rfl rfl (by decide) (OpV_build rfl rfl rfl rfl) ?_
    | refine wpL_v rfl rfl (by decide) (OpV_max rfl rfl rfl) ?_
    | refine wpL_v rfl rfl (by decide) (OpV_min rfl rfl rfl) ?_
    | refine wpL_v rfl rfl (by decide) (OpV_nilptr rfl rfl rfl) ?_
    | refine wpL_v rfl rfl (by decide) (OpV_beq rfl rfl rfl) ?_
    | refine wpL_v rfl rfl (by decide) (OpV_bne rfl rfl rfl) ?_
    | refine wpL_v rfl rfl (by decide) (OpV_makeFunc rfl rfl) ?_
    | refine wpL_loadH 0 hG rfl rfl (by decide) rfl rfl rfl rfl ?_
    | refine wpL_loadH 1 hG rfl rfl (by decide) rfl rfl rfl rfl ?_
    | refine wpL_loadH 2 hG rfl rfl (by decide) rfl rfl rfl rfl ?_
    | refine wpL_loadH 3 hG rfl rfl (by decide) rfl rfl rfl rfl ?_
    | refine wpL_loadH 4 hG rfl rfl (by decide) rfl rfl rfl rfl ?_
    | refine wpL_loadH 5 hG rfl rfl (by decide) rfl rfl rfl rfl ?_
    | (refine wpL_storeH 0 hG rfl rfl rfl rfl rfl rfl rfl rfl rfl rfl rfl ?_; intro G hG)
    | (refine wpL_storeH 1 hG rfl rfl rfl rfl rfl rfl rfl rfl rfl rfl rfl ?_; intro G hG)
    | (refine wpL_storeH 2 hG rfl rfl rfl rfl rfl rfl rfl rfl rfl rfl rfl ?_; intro G hG)
    | (refine wpL_storeH 3 hG rfl rfl rfl rfl rfl rfl rfl rfl rfl rfl rfl ?_; intro G hG)
    | (refine wpL_storeH 4 hG rfl rfl rfl rfl rfl rfl rfl rfl rfl rfl rfl ?_; intro G hG)
    | (refine wpL_storeH 5 hG rfl rfl rfl rfl rfl rfl rfl rfl rfl rfl rfl ?_; intro G hG)
    | (refine wpL_allocH hG rfl rfl (by decide) rfl rfl ?_; intro id G hG)
    | (refine wpL_boxH hG rfl rfl (by decide) rfl rfl rfl ?_; intro id G hG)
    | (refine wpL_sliceH hG rfl rfl (by decide) rfl rfl rfl rfl rfl rfl rfl rfl ?_; intro id G hG)
    | refine wpL_gt rfl rfl rfl rfl rfl (by decide) (by first | rfl | exact decide_eq_true (by omega) | exact decide_eq_false (by omega) | exact ndec_t (by omega) | exact ndec_f (by omega)) ?_
    | refine wpL_gf rfl rfl rfl rfl rfl (by decide) (by first | rfl | exact decide_eq_true (by omega) | exact decide_eq_false (by omega) | exact ndec_t (by omega) | exact ndec_f (by omega)) ?_
    | refine wpA_ct rfl (by first | rfl | exact decide_eq_true (by omega) | exact ndec_t (by omega)) ?_
    | refine wpA_cf rfl (by first | rfl | exact decide_eq_false (by omega) | exact ndec_f (by omega)) ?_
    | refine wpA_skip ?_
    | refine wpA_exit ?_
    | refine wpA_ret ?_
    | refine x_then_exit ?_
    | refine x_then_ret ?_
    | refine x_then_normal ?_
    | refine x_block_ret ?_
    | refine x_block_normal ?_
    | refine x_block_exit ?_
    | refine x_block_other rfl ?_
    | refine wpL_v rfl rfl (by decide) (OpV_pick_t rfl rfl (ndec_t (by omega)) rfl) ?_
    | refine wpL_v rfl rfl (by decide) (OpV_pick_f rfl rfl (ndec_f (by omega)) rfl) ?_)
  clear hr
  refine wpA_loopS (S := Nat) (fun j => [(0, pcs l), (1, I a), (2, I height), (7, I (repOf (pg l a) height)), (8, I ((a + j + 1 : Nat) : Int))])
    (fun j G => a + j < l.length ∧ fillG l a height (l.length - (a + j + 1)) (a + j + 1) = fillF l a height) (fun j => l.length - j) 0
    (.cons rfl (.cons rfl (.cons rfl (.cons rfl (.cons rfl (.nil _)))))) ⟨by omega, rfl⟩ ?_
  rintro j G ⟨j1, j3⟩
  have hG := Has.nil G
  by_cases hi : a + j + 1 < l.length
  · have hs2 := sums_le hl a (j + 1) hi
    have hgp := gp_eq (ft l a (j + 1))
    have en : l.length - (a + j + 1) = (l.length - (a + (j + 1) + 1)) + 1 := by omega
    rw [en, fillG] at j3
    have eia : a + j + 1 - a = j + 1 := by omega
    rw [eia] at j3
    have hn := need_sub hl a (j + 1) hi
    have hsub : sliceA 12 (pcs l) a (a + (j + 1) + 1) = some (pcs (sub l a (a + (j + 1) + 1))) := pcs_sub l (by omega) (by omega)
    cases hF : (pg l (a + j + 1)).force with
    | true =>
      rw [if_pos hF] at j3
      repeat (first
        | refine wpL_end ?_
        | refine wpL_nil ?_
        | refine wpA_seq ?_
        | refine wpA_region ?_
        | refine wpA_block ?_
        | refine wpL_v rfl rfl (by decide) (OpV_index_tr rfl rfl rfl (by omega) (pcs_spot (pg_some hi))) ?_
        | refine wpA_ct rfl hF ?_
        | refine wpL_v rfl rfl (by decide) (OpV_cmp rfl rfl rfl (congrArg some (decide_eq_true (by omega)))) ?_
        | refine wpL_v rfl rfl (by decide) (OpV_cmp rfl rfl rfl (congrArg some (decide_eq_false (by omega)))) ?_
        | refine wpL_v rfl rfl (by decide) (OpV_cmp rfl rfl rfl (congrArg some (ndec_t (by omega)))) ?_
        | refine wpL_v rfl rfl (by decide) (OpV_cmp rfl rfl rfl (congrArg some (ndec_f (by omega)))) ?_
        | refine wpL_v rfl rfl (by decide) (OpV_move rfl rfl) ?_
        | refine wpL_v rfl rfl (by decide) (OpV_assign rfl rfl) ?_
        | refine wpL_v rfl rfl (by decide) (OpV_cmp rfl rfl rfl rfl) ?_
        | refine wpL_v rfl rfl (by decide) (OpV_add rfl rfl rfl (by omega)) ?_
        | refine wpL_v rfl rfl (by decide) (OpV_sub rfl rfl rfl (by omega)) ?_
        | refine wpL_v rfl rfl (by decide) (OpV_len rfl rfl rfl) ?_
        | refine wpL_v rfl rfl (by decide) (OpV_nilCheck rfl rfl rfl) ?_
        | refine wpL_v rfl rfl (by decide) (OpV_fieldAddr rfl rfl rfl rfl) ?_
        | refine wpL_v rfl rfl (by decide) (OpV_load rfl rfl rfl) ?_
        | refine wpL_v rfl rfl (by decide) (OpV_not rfl rfl) ?_
        | refine wpL_v rfl rfl (by decide) (OpV_extract rfl rfl rfl) ?_
        | refine wpL_v rfl rfl (by decide) (OpV_pick_t rfl rfl (by first | rfl | exact decide_eq_true (by omega)) rfl) ?_
        | refine wpL_v rfl rfl (by decide) (OpV_pick_f rfl rfl (by first | rfl | exact decide_eq_false (by omega)) rfl) ?_
        | refine wpL_v rfl rfl (by decide) (OpV_build rfl rfl rfl rfl) ?_
        | refine wpL_v rfl rfl (by decide) (OpV_max rfl rfl rfl) ?_
        | refine wpL_v rfl rfl (by decide) (OpV_min rfl rfl rfl) ?_
        | refine wpL_v rfl rfl (by decide) (OpV_nilptr rfl rfl rfl) ?_
        | refine wpL_v rfl rfl (by decide) (OpV_beq rfl rfl rfl) ?_
        | refine wpL_v rfl rfl (by decide) (OpV_bne rfl rfl rfl) ?_
        | refine wpL_v rfl rfl (by decide) (OpV_makeFunc rfl rfl) ?_
        | refine wpL_loadH 0 hG rfl rfl (by decide) rfl rfl rfl rfl ?_
        | refine wpL_loadH 1 hG rfl rfl (by decide) rfl rfl rfl rfl ?_
        | refine wpL_loadH 2 hG rfl rfl (by decide) rfl rfl rfl rfl ?_
        | refine wpL_loadH 3 hG rfl rfl (by decide) rfl rfl rfl rfl ?_
        | refine wpL_loadH 4 hG rfl rfl (by decide) rfl rfl rfl rfl ?_
        | refine wpL_loadH 5 hG rfl rfl (by decide) rfl rfl rfl rfl ?_
        | (refine wpL_storeH 0 hG rfl rfl rfl rfl rfl rfl rfl rfl rfl rfl rfl ?_; intro G hG)
        | (refine wpL_storeH 1 hG rfl rfl rfl rfl rfl rfl rfl rfl rfl rfl rfl ?_; intro G hG)
        | (refine wpL_storeH 2 hG rfl rfl rfl rfl rfl rfl rfl rfl rfl rfl rfl ?_; intro G hG)
        | (refine wpL_storeH 3 hG rfl rfl rfl rfl rfl rfl rfl rfl rfl rfl rfl ?_; intro G hG)
        | (refine wpL_storeH 4 hG rfl rfl rfl rfl rfl rfl rfl rfl rfl rfl rfl ?_; intro G hG)
        | (refine wpL_storeH 5 hG rfl rfl rfl rfl rfl rfl rfl rfl rfl rfl rfl ?_; intro G hG)
        | (refine wpL_allocH hG rfl rfl (by decide) rfl rfl ?_; intro id G hG)
        | (refine wpL_boxH hG rfl rfl (by decide) rfl rfl rfl ?_; intro id G hG)
        | (refine wpL_sliceH hG rfl rfl (by decide) rfl rfl rfl rfl rfl rfl rfl rfl ?_; intro id G hG)
        | refine wpL_gt rfl rfl rfl rfl rfl (by decide) (by first | rfl | exact decide_eq_true (by omega) | exact decide_eq_false (by omega) | exact ndec_t (by omega) | exact ndec_f (by omega)) ?_
        | refine wpL_gf rfl rfl rfl rfl rfl (by decide) (by first | rfl | exact decide_eq_true (by omega) | exact decide_eq_false (by omega) | exact ndec_t (by omega) | exact ndec_f (by omega)) ?_
        | refine wpA_ct rfl (by first | rfl | exact decide_eq_true (by omega) | exact ndec_t (by omega)) ?_
        | refine wpA_cf rfl (by first | rfl | exact decide_eq_false (by omega) | exact ndec_f (by omega)) ?_
        | refine wpA_skip ?_
        | refine wpA_exit ?_
        | refine wpA_ret ?_
        | refine x_then_exit ?_
        | refine x_then_ret ?_
        | refine x_then_normal ?_
        | refine x_block_ret ?_
        | refine x_block_normal ?_
        | refine x_block_exit ?_
        | refine x_block_other rfl ?_
        | refine wpL_v rfl rfl (by decide) (OpV_pick_t rfl rfl (ndec_t (by omega)) rfl) ?_
        | refine wpL_v rfl rfl (by decide) (OpV_pick_f rfl rfl (ndec_f (by omega)) rfl) ?_)
      exact postI_1 rfl rfl (.refl _) (.v _) (by rw [← j3])
    | false =>
      rw [if_neg (by rw [hF]; exact Bool.false_ne_true), tot_gp] at j3
      repeat (first
        | refine wpL_end ?_
        | refine wpL_nil ?_
        | refine wpA_seq ?_
        | refine wpA_region ?_
        | refine wpA_block ?_
        | refine wpL_v rfl rfl (by decide) (OpV_index_tr rfl rfl rfl (by omega) (pcs_spot (pg_some hi))) ?_
        | refine wpA_cf rfl hF ?_
        | refine wpL_v rfl rfl (by decide) (OpV_slice (l := a) (h := a + (j + 1) + 1) rfl rfl rfl rfl rfl (by omega) hsub) ?_
        | (refine wpL_is rfl rfl rfl rfl rfl rfl (by decide) hn (TreeL.cons (tree_pcs _) TreeL.nil) ?_; rintro _ rfl)
        | refine wpL_v rfl rfl (by decide) (OpV_cmp rfl rfl rfl rfl) ?_
        | refine wpL_v rfl rfl (by decide) (OpV_cmp rfl rfl rfl (congrArg some (decide_eq_true (by omega)))) ?_
        | refine wpL_v rfl rfl (by decide) (OpV_cmp rfl rfl rfl (congrArg some (decide_eq_false (by omega)))) ?_
        | refine wpL_v rfl rfl (by decide) (OpV_cmp rfl rfl rfl (congrArg some (ndec_t (by omega)))) ?_
        | refine wpL_v rfl rfl (by decide) (OpV_cmp rfl rfl rfl (congrArg some (ndec_f (by omega)))) ?_
        | refine wpL_v rfl rfl (by decide) (OpV_move rfl rfl) ?_
        | refine wpL_v rfl rfl (by decide) (OpV_assign rfl rfl) ?_
        | refine wpL_v rfl rfl (by decide) (OpV_cmp rfl rfl rfl rfl) ?_
        | refine wpL_v rfl rfl (by decide) (OpV_add rfl rfl rfl (by omega)) ?_
        | refine wpL_v rfl rfl (by decide) (OpV_sub rfl rfl rfl (by omega)) ?_
        | refine wpL_v rfl rfl (by decide) (OpV_len rfl rfl rfl) ?_
        | refine wpL_v rfl rfl (by decide) (OpV_nilCheck rfl rfl rfl) ?_
        | refine wpL_v rfl rfl (by decide) (OpV_fieldAddr rfl rfl rfl rfl) ?_
        | refine wpL_v rfl rfl (by decide) (OpV_load rfl rfl rfl) ?_
        | refine wpL_v rfl rfl (by decide) (OpV_not rfl rfl) ?_
        | refine wpL_v rfl rfl (by decide) (OpV_extract rfl rfl rfl) ?_
        | refine wpL_v rfl rfl (by decide) (OpV_pick_t rfl rfl (by first | rfl | exact decide_eq_true (by omega)) rfl) ?_
        | refine wpL_v rfl rfl (by decide) (OpV_pick_f rfl rfl (by first | rfl | exact decide_eq_false (by omega)) rfl) ?_
        | refine wpL_v rfl rfl (by decide) (OpV_build rfl rfl rfl rfl) ?_
        | refine wpL_v rfl rfl (by decide) (OpV_max rfl rfl rfl) ?_
        | refine wpL_v rfl rfl (by decide) (OpV_min rfl rfl rfl) ?_
        | refine wpL_v rfl rfl (by decide) (OpV_nilptr rfl rfl rfl) ?_
        | refine wpL_v rfl rfl (by decide) (OpV_beq rfl rfl rfl) ?_
        | refine wpL_v rfl rfl (by decide) (OpV_bne rfl rfl rfl) ?_
        | refine wpL_v rfl rfl (by decide) (OpV_makeFunc rfl rfl) ?_
        | refine wpL_loadH 0 hG rfl rfl (by decide) rfl rfl rfl rfl ?_
        | refine wpL_loadH 1 hG rfl rfl (by decide) rfl rfl rfl rfl ?_
        | refine wpL_loadH 2 hG rfl rfl (by decide) rfl rfl rfl rfl ?_
        | refine wpL_loadH 3 hG rfl rfl (by decide) rfl rfl rfl rfl ?_
        | refine wpL_loadH 4 hG rfl rfl (by decide) rfl rfl rfl rfl ?_
        | refine wpL_loadH 5 hG rfl rfl (by decide) rfl rfl rfl rfl ?_
        | (refine wpL_storeH 0 hG rfl rfl rfl rfl rfl rfl rfl rfl rfl rfl rfl ?_; intro G hG)
        | (refine wpL_storeH 1 hG rfl rfl rfl rfl rfl rfl rfl rfl rfl rfl rfl ?_; intro G hG)
        | (refine wpL_storeH 2 hG rfl rfl rfl rfl rfl rfl rfl rfl rfl rfl rfl ?_; intro G hG)
        | (refine wpL_storeH 3 hG rfl rfl rfl rfl rfl rfl rfl rfl rfl rfl rfl ?_; intro G hG)
        | (refine wpL_storeH 4 hG rfl rfl rfl rfl rfl rfl rfl rfl rfl rfl rfl ?_; intro G hG)
        | (refine wpL_storeH 5 hG rfl rfl rfl rfl rfl rfl rfl rfl rfl rfl rfl ?_; intro G hG)
        | (refine wpL_allocH hG rfl rfl (by decide) rfl rfl ?_; intro id G hG)
        | (refine wpL_boxH hG rfl rfl (by decide) rfl rfl rfl ?_; intro id G hG)
        | (refine wpL_sliceH hG rfl rfl (by decide) rfl rfl rfl rfl rfl rfl rfl rfl ?_; intro id G hG)
        | refine wpL_gt rfl rfl rfl rfl rfl (by decide) (by first | rfl | exact decide_eq_true (by omega) | exact decide_eq_false (by omega) | exact ndec_t (by omega) | exact ndec_f (by omega)) ?_
        | refine wpL_gf rfl rfl rfl rfl rfl (by decide) (by first | rfl | exact decide_eq_true (by omega) | exact decide_eq_false (by omega) | exact ndec_t (by omega) | exact ndec_f (by omega)) ?_
        | refine wpA_ct rfl (by first | rfl | exact decide_eq_true (by omega) | exact ndec_t (by omega)) ?_
        | refine wpA_cf rfl (by first | rfl | exact decide_eq_false (by omega) | exact ndec_f (by omega)) ?_
        | refine wpA_skip ?_
        | refine wpA_exit ?_
        | refine wpA_ret ?_
        | refine x_then_exit ?_
        | refine x_then_ret ?_
        | refine x_then_normal ?_
        | refine x_block_ret ?_
        | refine x_block_normal ?_
        | refine x_block_exit ?_
        | refine x_block_other rfl ?_
        | refine wpL_v rfl rfl (by decide) (OpV_pick_t rfl rfl (ndec_t (by omega)) rfl) ?_
        | refine wpL_v rfl rfl (by decide) (OpV_pick_f rfl rfl (ndec_f (by omega)) rfl) ?_)
      by_cases hT : repOf (pg l a) height + (tx l a (j + 1) + nt l a (j + 1) + gp (ft l a (j + 1))) ≤ height
      · rw [if_pos hT] at j3
        repeat (first
          | refine wpL_end ?_
          | refine wpL_nil ?_
          | refine wpA_seq ?_
          | refine wpA_region ?_
          | refine wpA_block ?_
          | refine wpL_v rfl rfl (by decide) (OpV_cmp rfl rfl rfl (congrArg some (decide_eq_true (by omega)))) ?_
          | refine wpL_v rfl rfl (by decide) (OpV_cmp rfl rfl rfl (congrArg some (decide_eq_false (by omega)))) ?_
          | refine wpL_v rfl rfl (by decide) (OpV_cmp rfl rfl rfl (congrArg some (ndec_t (by omega)))) ?_
          | refine wpL_v rfl rfl (by decide) (OpV_cmp rfl rfl rfl (congrArg some (ndec_f (by omega)))) ?_
          | refine wpL_v rfl rfl (by decide) (OpV_move rfl rfl) ?_
          | refine wpL_v rfl rfl (by decide) (OpV_assign rfl rfl) ?_
          | refine wpL_v rfl rfl (by decide) (OpV_cmp rfl rfl rfl rfl) ?_
          | refine wpL_v rfl rfl (by decide) (OpV_add rfl rfl rfl (by omega)) ?_
          | refine wpL_v rfl rfl (by decide) (OpV_sub rfl rfl rfl (by omega)) ?_
          | refine wpL_v rfl rfl (by decide) (OpV_len rfl rfl rfl) ?_
          | refine wpL_v rfl rfl (by decide) (OpV_nilCheck rfl rfl rfl) ?_
          | refine wpL_v rfl rfl (by decide) (OpV_fieldAddr rfl rfl rfl rfl) ?_
          | refine wpL_v rfl rfl (by decide) (OpV_load rfl rfl rfl) ?_
          | refine wpL_v rfl rfl (by decide) (OpV_not rfl rfl) ?_
          | refine wpL_v rfl rfl (by decide) (OpV_extract rfl rfl rfl) ?_
          | refine wpL_v rfl rfl (by decide) (OpV_pick_t rfl rfl (by first | rfl | exact decide_eq_true (by omega)) rfl) ?_
          | refine wpL_v rfl rfl (by decide) (OpV_pick_f rfl rfl (by first | rfl | exact decide_eq_false (by omega)) rfl) ?_
          | refine wpL_v rfl rfl (by decide) (OpV_build rfl rfl rfl rfl) ?_
          | refine wpL_v rfl rfl (by decide) (OpV_max rfl rfl rfl) ?_
          | refine wpL_v rfl rfl (by decide) (OpV_min rfl rfl rfl) ?_
          | refine wpL_v rfl rfl (by decide) (OpV_nilptr rfl rfl rfl) ?_
          | refine wpL_v rfl rfl (by decide) (OpV_beq rfl rfl rfl) ?_
          | refine wpL_v rfl rfl (by decide) (OpV_bne rfl rfl rfl) ?_
          | refine wpL_v rfl rfl (by decide) (OpV_makeFunc rfl rfl) ?_
          | refine wpL_loadH 0 hG rfl rfl (by decide) rfl rfl rfl rfl ?_
          | refine wpL_loadH 1 hG rfl rfl (by decide) rfl rfl rfl rfl ?_
          | refine wpL_loadH 2 hG rfl rfl (by decide) rfl rfl rfl rfl ?_
          | refine wpL_loadH 3 hG rfl rfl (by decide) rfl rfl rfl rfl ?_
          | refine wpL_loadH 4 hG rfl rfl (by decide) rfl rfl rfl rfl ?_
          | refine wpL_loadH 5 hG rfl rfl (by decide) rfl rfl rfl rfl ?_
          | (refine wpL_storeH 0 hG rfl rfl rfl rfl rfl rfl rfl rfl rfl rfl rfl ?_; intro G hG)
          | (refine wpL_storeH 1 hG rfl rfl rfl rfl rfl rfl rfl rfl rfl rfl rfl ?_; intro G hG)
          | (refine wpL_storeH 2 hG rfl rfl rfl rfl rfl rfl rfl rfl rfl rfl rfl ?_; intro G hG)
          | (refine wpL_storeH 3 hG rfl rfl rfl rfl rfl rfl rfl rfl rfl rfl rfl ?_; intro G hG)
          | (refine wpL_storeH 4 hG rfl rfl rfl rfl rfl rfl rfl rfl rfl rfl rfl ?_; intro G hG)
          | (refine wpL_storeH 5 hG rfl rfl rfl rfl rfl rfl rfl rfl rfl rfl rfl ?_; intro G hG)
          | (refine wpL_allocH hG rfl rfl (by decide) rfl rfl ?_; intro id G hG)
          | (refine wpL_boxH hG rfl rfl (by decide) rfl rfl rfl ?_; intro id G hG)
          | (refine wpL_sliceH hG rfl rfl (by decide) rfl rfl rfl rfl rfl rfl rfl rfl ?_; intro id G hG)
          | refine wpL_gt rfl rfl rfl rfl rfl (by decide) (by first | rfl | exact decide_eq_true (by omega) | exact decide_eq_false (by omega) | exact ndec_t (by omega) | exact ndec_f (by omega)) ?_
          | refine wpL_gf rfl rfl rfl rfl rfl (by decide) (by first | rfl | exact decide_eq_true (by omega) | exact decide_eq_false (by omega) | exact ndec_t (by omega) | exact ndec_f (by omega)) ?_
          | refine wpA_ct rfl (by first | rfl | exact decide_eq_true (by omega) | exact ndec_t (by omega)) ?_
          | refine wpA_cf rfl (by first | rfl | exact decide_eq_false (by omega) | exact ndec_f (by omega)) ?_
          | refine wpA_skip ?_
          | refine wpA_exit ?_
          | refine wpA_ret ?_
          | refine x_then_exit ?_
          | refine x_then_ret ?_
          | refine x_then_normal ?_
          | refine x_block_ret ?_
          | refine x_block_normal ?_
          | refine x_block_exit ?_
          | refine x_block_other rfl ?_
          | refine wpL_v rfl rfl (by decide) (OpV_pick_t rfl rfl (ndec_t (by omega)) rfl) ?_
          | refine wpL_v rfl rfl (by decide) (OpV_pick_f rfl rfl (ndec_f (by omega)) rfl) ?_)
        exact ⟨j + 1, by omega, .cons rfl (.cons rfl (.cons rfl (.cons rfl (.cons rfl (.nil _))))), hi, j3⟩
      · rw [if_neg hT] at j3
        repeat (first
          | refine wpL_end ?_
          | refine wpL_nil ?_
          | refine wpA_seq ?_
          | refine wpA_region ?_
          | refine wpA_block ?_
          | refine wpL_v rfl rfl (by decide) (OpV_cmp rfl rfl rfl (congrArg some (decide_eq_true (by omega)))) ?_
          | refine wpL_v rfl rfl (by decide) (OpV_cmp rfl rfl rfl (congrArg some (decide_eq_false (by omega)))) ?_
          | refine wpL_v rfl rfl (by decide) (OpV_cmp rfl rfl rfl (congrArg some (ndec_t (by omega)))) ?_
          | refine wpL_v rfl rfl (by decide) (OpV_cmp rfl rfl rfl (congrArg some (ndec_f (by omega)))) ?_
          | refine wpL_v rfl rfl (by decide) (OpV_move rfl rfl) ?_
          | refine wpL_v rfl rfl (by decide) (OpV_assign rfl rfl) ?_
          | refine wpL_v rfl rfl (by decide) (OpV_cmp rfl rfl rfl rfl) ?_
          | refine wpL_v rfl rfl (by decide) (OpV_add rfl rfl rfl (by omega)) ?_
          | refine wpL_v rfl rfl (by decide) (OpV_sub rfl rfl rfl (by omega)) ?_
          | refine wpL_v rfl rfl (by decide) (OpV_len rfl rfl rfl) ?_
          | refine wpL_v rfl rfl (by decide) (OpV_nilCheck rfl rfl rfl) ?_
          | refine wpL_v rfl rfl (by decide) (OpV_fieldAddr rfl rfl rfl rfl) ?_
          | refine wpL_v rfl rfl (by decide) (OpV_load rfl rfl rfl) ?_
          | refine wpL_v rfl rfl (by decide) (OpV_not rfl rfl) ?_
          | refine wpL_v rfl rfl (by decide) (OpV_extract rfl rfl rfl) ?_
          | refine wpL_v rfl rfl (by decide) (OpV_pick_t rfl rfl (by first | rfl | exact decide_eq_true (by omega)) rfl) ?_
          | refine wpL_v rfl rfl (by decide) (OpV_pick_f rfl rfl (by first | rfl | exact decide_eq_false (by omega)) rfl) ?_
          | refine wpL_v rfl rfl (by decide) (OpV_build rfl rfl rfl rfl) ?_
          | refine wpL_v rfl rfl (by decide) (OpV_max rfl rfl rfl) ?_
          | refine wpL_v rfl rfl (by decide) (OpV_min rfl rfl rfl) ?_
          | refine wpL_v rfl rfl (by decide) (OpV_nilptr rfl rfl rfl) ?_
          | refine wpL_v rfl rfl (by decide) (OpV_beq rfl rfl rfl) ?_
          | refine wpL_v rfl rfl (by decide) (OpV_bne rfl rfl rfl) ?_
          | refine wpL_v rfl rfl (by decide) (OpV_makeFunc rfl rfl) ?_
          | refine wpL_loadH 0 hG rfl rfl (by decide) rfl rfl rfl rfl ?_
          | refine wpL_loadH 1 hG rfl rfl (by decide) rfl rfl rfl rfl ?_
          | refine wpL_loadH 2 hG rfl rfl (by decide) rfl rfl rfl rfl ?_
          | refine wpL_loadH 3 hG rfl rfl (by decide) rfl rfl rfl rfl ?_
          | refine wpL_loadH 4 hG rfl rfl (by decide) rfl rfl rfl rfl ?_
          | refine wpL_loadH 5 hG rfl rfl (by decide) rfl rfl rfl rfl ?_
          | (refine wpL_storeH 0 hG rfl rfl rfl rfl rfl rfl rfl rfl rfl rfl rfl ?_; intro G hG)
          | (refine wpL_storeH 1 hG rfl rfl rfl rfl rfl rfl rfl rfl rfl rfl rfl ?_; intro G hG)
          | (refine wpL_storeH 2 hG rfl rfl rfl rfl rfl rfl rfl rfl rfl rfl rfl ?_; intro G hG)
          | (refine wpL_storeH 3 hG rfl rfl rfl rfl rfl rfl rfl rfl rfl rfl rfl ?_; intro G hG)
          | (refine wpL_storeH 4 hG rfl rfl rfl rfl rfl rfl rfl rfl rfl rfl rfl ?_; intro G hG)
          | (refine wpL_storeH 5 hG rfl rfl rfl rfl rfl rfl rfl rfl rfl rfl rfl ?_; intro G hG)
          | (refine wpL_allocH hG rfl rfl (by decide) rfl rfl ?_; intro id G hG)
          | (refine wpL_boxH hG rfl rfl (by decide) rfl rfl rfl ?_; intro id G hG)
          | (refine wpL_sliceH hG rfl rfl (by decide) rfl rfl rfl rfl rfl rfl rfl rfl ?_; intro id G hG)
          | refine wpL_gt rfl rfl rfl rfl rfl (by decide) (by first | rfl | exact decide_eq_true (by omega) | exact decide_eq_false (by omega) | exact ndec_t (by omega) | exact ndec_f (by omega)) ?_
          | refine wpL_gf rfl rfl rfl rfl rfl (by decide) (by first | rfl | exact decide_eq_true (by omega) | exact decide_eq_false (by omega) | exact ndec_t (by omega) | exact ndec_f (by omega)) ?_
          | refine wpA_ct rfl (by first | rfl | exact decide_eq_true (by omega) | exact ndec_t (by omega)) ?_
          | refine wpA_cf rfl (by first | rfl | exact decide_eq_false (by omega) | exact ndec_f (by omega)) ?_
          | refine wpA_skip ?_
          | refine wpA_exit ?_
          | refine wpA_ret ?_
          | refine x_then_exit ?_
          | refine x_then_ret ?_
          | refine x_then_normal ?_
          | refine x_block_ret ?_
          | refine x_block_normal ?_
          | refine x_block_exit ?_
          | refine x_block_other rfl ?_
          | refine wpL_v rfl rfl (by decide) (OpV_pick_t rfl rfl (ndec_t (by omega)) rfl) ?_
          | refine wpL_v rfl rfl (by decide) (OpV_pick_f rfl rfl (ndec_f (by omega)) rfl) ?_)
        refine wpA_loopS (S := Nat) (fun k => [(0, pcs l), (1, I a), (8, I ((a + j + 1 : Nat) : Int)), (9, I k)])
          (fun k G => a ≤ k ∧ k ≤ a + j + 1 ∧ backG l a (a + j + 1) k = fillF l a height) (fun k => k) (a + j + 1)
          (.cons rfl (.cons rfl (.cons rfl (.cons rfl (.nil _))))) ⟨by omega, by omega, j3⟩ ?_
        rintro k G4 ⟨q1, q2, q3⟩
        have hG := Has.nil G4
        by_cases hk : a < k
        · obtain ⟨k, rfl⟩ : ∃ k', k = k' + 1 := ⟨k - 1, by omega⟩
          rw [backG, if_pos hk] at q3
          cases hK : (pg l (k + 1)).kept with
          | true =>
            rw [if_pos hK] at q3
            have hK' : (!(pg l (k + 1)).kept) = false := by rw [hK]; rfl
            repeat (first
              | refine wpL_end ?_
              | refine wpL_nil ?_
              | refine wpA_seq ?_
              | refine wpA_region ?_
              | refine wpA_block ?_
              | refine wpL_v rfl rfl (by decide) (OpV_index_tr rfl rfl rfl (by omega) (pcs_spot (pg_some (show k + 1 < l.length by omega)))) ?_
              | refine wpA_cf rfl hK' ?_
              | refine wpL_v rfl rfl (by decide) (OpV_cmp rfl rfl rfl (congrArg some (decide_eq_true (by omega)))) ?_
              | refine wpL_v rfl rfl (by decide) (OpV_cmp rfl rfl rfl (congrArg some (decide_eq_false (by omega)))) ?_
              | refine wpL_v rfl rfl (by decide) (OpV_cmp rfl rfl rfl (congrArg some (ndec_t (by omega)))) ?_
              | refine wpL_v rfl rfl (by decide) (OpV_cmp rfl rfl rfl (congrArg some (ndec_f (by omega)))) ?_
              | refine wpL_v rfl rfl (by decide) (OpV_move rfl rfl) ?_
              | refine wpL_v rfl rfl (by decide) (OpV_assign rfl rfl) ?_
              | refine wpL_v rfl rfl (by decide) (OpV_cmp rfl rfl rfl rfl) ?_
              | refine wpL_v rfl rfl (by decide) (OpV_add rfl rfl rfl (by omega)) ?_
              | refine wpL_v rfl rfl (by decide) (OpV_sub rfl rfl rfl (by omega)) ?_
              | refine wpL_v rfl rfl (by decide) (OpV_len rfl rfl rfl) ?_
              | refine wpL_v rfl rfl (by decide) (OpV_nilCheck rfl rfl rfl) ?_
              | refine wpL_v rfl rfl (by decide) (OpV_fieldAddr rfl rfl rfl rfl) ?_
              | refine wpL_v rfl rfl (by decide) (OpV_load rfl rfl rfl) ?_
              | refine wpL_v rfl rfl (by decide) (OpV_not rfl rfl) ?_
              | refine wpL_v rfl rfl (by decide) (OpV_extract rfl rfl rfl) ?_
              | refine wpL_v rfl rfl (by decide) (OpV_pick_t rfl rfl (by first | rfl | exact decide_eq_true (by omega)) rfl) ?_
              | refine wpL_v rfl rfl (by decide) (OpV_pick_f rfl rfl (by first | rfl | exact decide_eq_false (by omega)) rfl) ?_
              | refine wpL_v rfl rfl (by decide) (OpV_build rfl rfl rfl rfl) ?_
              | refine wpL_v rfl rfl (by decide) (OpV_max rfl rfl rfl) ?_
              | refine wpL_v rfl rfl (by decide) (OpV_min rfl rfl rfl) ?_
              | refine wpL_v rfl rfl (by decide) (OpV_nilptr rfl rfl rfl) ?_
              | refine wpL_v rfl rfl (by decide) (OpV_beq rfl rfl rfl) ?_
              | refine wpL_v rfl rfl (by decide) (OpV_bne rfl rfl rfl) ?_
              | refine wpL_v rfl rfl (by decide) (OpV_makeFunc rfl rfl) ?_
              | refine wpL_loadH 0 hG rfl rfl (by decide) rfl rfl rfl rfl ?_
              | refine wpL_loadH 1 hG rfl rfl (by decide) rfl rfl rfl rfl ?_
              | refine wpL_loadH 2 hG rfl rfl (by decide) rfl rfl rfl rfl ?_
              | refine wpL_loadH 3 hG rfl rfl (by decide) rfl rfl rfl rfl ?_
              | refine wpL_loadH 4 hG rfl rfl (by decide) rfl rfl rfl rfl ?_
              | refine wpL_loadH 5 hG rfl rfl (by decide) rfl rfl rfl rfl ?_
              | (refine wpL_storeH 0 hG rfl rfl rfl rfl rfl rfl rfl rfl rfl rfl rfl ?_; intro G hG)
              | (refine wpL_storeH 1 hG rfl rfl rfl rfl rfl rfl rfl rfl rfl rfl rfl ?_; intro G hG)
              | (refine wpL_storeH 2 hG rfl rfl rfl rfl rfl rfl rfl rfl rfl rfl rfl ?_; intro G hG)
              | (refine wpL_storeH 3 hG rfl rfl rfl rfl rfl rfl rfl rfl rfl rfl rfl ?_; intro G hG)
              | (refine wpL_storeH 4 hG rfl rfl rfl rfl rfl rfl rfl rfl rfl rfl rfl ?_; intro G hG)
              | (refine wpL_storeH 5 hG rfl rfl rfl rfl rfl rfl rfl rfl rfl rfl rfl ?_; intro G hG)
              | (refine wpL_allocH hG rfl rfl (by decide) rfl rfl ?_; intro id G hG)
              | (refine wpL_boxH hG rfl rfl (by decide) rfl rfl rfl ?_; intro id G hG)
              | (refine wpL_sliceH hG rfl rfl (by decide) rfl rfl rfl rfl rfl rfl rfl rfl ?_; intro id G hG)
              | refine wpL_gt rfl rfl rfl rfl rfl (by decide) (by first | rfl | exact decide_eq_true (by omega) | exact decide_eq_false (by omega) | exact ndec_t (by omega) | exact ndec_f (by omega)) ?_
              | refine wpL_gf rfl rfl rfl rfl rfl (by decide) (by first | rfl | exact decide_eq_true (by omega) | exact decide_eq_false (by omega) | exact ndec_t (by omega) | exact ndec_f (by omega)) ?_
              | refine wpA_ct rfl (by first | rfl | exact decide_eq_true (by omega) | exact ndec_t (by omega)) ?_
              | refine wpA_cf rfl (by first | rfl | exact decide_eq_false (by omega) | exact ndec_f (by omega)) ?_
              | refine wpA_skip ?_
              | refine wpA_exit ?_
              | refine wpA_ret ?_
              | refine x_then_exit ?_
              | refine x_then_ret ?_
              | refine x_then_normal ?_
              | refine x_block_ret ?_
              | refine x_block_normal ?_
              | refine x_block_exit ?_
              | refine x_block_other rfl ?_
              | refine wpL_v rfl rfl (by decide) (OpV_pick_t rfl rfl (ndec_t (by omega)) rfl) ?_
              | refine wpL_v rfl rfl (by decide) (OpV_pick_f rfl rfl (ndec_f (by omega)) rfl) ?_)
            have ek : ((k + 1 : Nat) : Int) - 1 = (k : Int) := by omega
            exact ⟨k, by omega, .cons rfl (.cons rfl (.cons rfl (.cons (show _ = some (I (k : Int)) from by rw [← ek]; rfl) (.nil _)))), by omega, by omega, q3⟩
          | false =>
            rw [if_neg (by rw [hK]; exact Bool.false_ne_true)] at q3
            have hK' : (!(pg l (k + 1)).kept) = true := by rw [hK]; rfl
            repeat (first
              | refine wpL_end ?_
              | refine wpL_nil ?_
              | refine wpA_seq ?_
              | refine wpA_region ?_
              | refine wpA_block ?_
              | refine wpL_v rfl rfl (by decide) (OpV_index_tr rfl rfl rfl (by omega) (pcs_spot (pg_some (show k + 1 < l.length by omega)))) ?_
              | refine wpA_ct rfl hK' ?_
              | refine wpL_v rfl rfl (by decide) (OpV_cmp rfl rfl rfl (congrArg some (decide_eq_true (by omega)))) ?_
              | refine wpL_v rfl rfl (by decide) (OpV_cmp rfl rfl rfl (congrArg some (decide_eq_false (by omega)))) ?_
              | refine wpL_v rfl rfl (by decide) (OpV_cmp rfl rfl rfl (congrArg some (ndec_t (by omega)))) ?_
              | refine wpL_v rfl rfl (by decide) (OpV_cmp rfl rfl rfl (congrArg some (ndec_f (by omega)))) ?_
              | refine wpL_v rfl rfl (by decide) (OpV_move rfl rfl) ?_
              | refine wpL_v rfl rfl (by decide) (OpV_assign rfl rfl) ?_
              | refine wpL_v rfl rfl (by decide) (OpV_cmp rfl rfl rfl rfl) ?_
              | refine wpL_v rfl rfl (by decide) (OpV_add rfl rfl rfl (by omega)) ?_
              | refine wpL_v rfl rfl (by decide) (OpV_sub rfl rfl rfl (by omega)) ?_
              | refine wpL_v rfl rfl (by decide) (OpV_len rfl rfl rfl) ?_
              | refine wpL_v rfl rfl (by decide) (OpV_nilCheck rfl rfl rfl) ?_
              | refine wpL_v rfl rfl (by decide) (OpV_fieldAddr rfl rfl rfl rfl) ?_
              | refine wpL_v rfl rfl (by decide) (OpV_load rfl rfl rfl) ?_
              | refine wpL_v rfl rfl (by decide) (OpV_not rfl rfl) ?_
              | refine wpL_v rfl rfl (by decide) (OpV_extract rfl rfl rfl) ?_
              | refine wpL_v rfl rfl (by decide) (OpV_pick_t rfl rfl (by first | rfl | exact decide_eq_true (by omega)) rfl) ?_
              | refine wpL_v rfl rfl (by decide) (OpV_pick_f rfl rfl (by first | rfl | exact decide_eq_false (by omega)) rfl) ?_
              | refine wpL_v rfl rfl (by decide) (OpV_build rfl rfl rfl rfl) ?_
              | refine wpL_v rfl rfl (by decide) (OpV_max rfl rfl rfl) ?_
              | refine wpL_v rfl rfl (by decide) (OpV_min rfl rfl rfl) ?_
              | refine wpL_v rfl rfl (by decide) (OpV_nilptr rfl rfl rfl) ?_
              | refine wpL_v rfl rfl (by decide) (OpV_beq rfl rfl rfl) ?_
              | refine wpL_v rfl rfl (by decide) (OpV_bne rfl rfl rfl) ?_
              | refine wpL_v rfl rfl (by decide) (OpV_makeFunc rfl rfl) ?_
              | refine wpL_loadH 0 hG rfl rfl (by decide) rfl rfl rfl rfl ?_
              | refine wpL_loadH 1 hG rfl rfl (by decide) rfl rfl rfl rfl ?_
              | refine wpL_loadH 2 hG rfl rfl (by decide) rfl rfl rfl rfl ?_
              | refine wpL_loadH 3 hG rfl rfl (by decide) rfl rfl rfl rfl ?_
              | refine wpL_loadH 4 hG rfl rfl (by decide) rfl rfl rfl rfl ?_
              | refine wpL_loadH 5 hG rfl rfl (by decide) rfl rfl rfl rfl ?_
              | (refine wpL_storeH 0 hG rfl rfl rfl rfl rfl rfl rfl rfl rfl rfl rfl ?_; intro G hG)
              | (refine wpL_storeH 1 hG rfl rfl rfl rfl rfl rfl rfl rfl rfl rfl rfl ?_; intro G hG)
              | (refine wpL_storeH 2 hG rfl rfl rfl rfl rfl rfl rfl rfl rfl rfl rfl ?_; intro G hG)
              | (refine wpL_storeH 3 hG rfl rfl rfl rfl rfl rfl rfl rfl rfl rfl rfl ?_; intro G hG)
              | (refine wpL_storeH 4 hG rfl rfl rfl rfl rfl rfl rfl rfl rfl rfl rfl ?_; intro G hG)
              | (refine wpL_storeH 5 hG rfl rfl rfl rfl rfl rfl rfl rfl rfl rfl rfl ?_; intro G hG)
              | (refine wpL_allocH hG rfl rfl (by decide) rfl rfl ?_; intro id G hG)
              | (refine wpL_boxH hG rfl rfl (by decide) rfl rfl rfl ?_; intro id G hG)
              | (refine wpL_sliceH hG rfl rfl (by decide) rfl rfl rfl rfl rfl rfl rfl rfl ?_; intro id G hG)
              | refine wpL_gt rfl rfl rfl rfl rfl (by decide) (by first | rfl | exact decide_eq_true (by omega) | exact decide_eq_false (by omega) | exact ndec_t (by omega) | exact ndec_f (by omega)) ?_
              | refine wpL_gf rfl rfl rfl rfl rfl (by decide) (by first | rfl | exact decide_eq_true (by omega) | exact decide_eq_false (by omega) | exact ndec_t (by omega) | exact ndec_f (by omega)) ?_
              | refine wpA_ct rfl (by first | rfl | exact decide_eq_true (by omega) | exact ndec_t (by omega)) ?_
              | refine wpA_cf rfl (by first | rfl | exact decide_eq_false (by omega) | exact ndec_f (by omega)) ?_
              | refine wpA_skip ?_
              | refine wpA_exit ?_
              | refine wpA_ret ?_
              | refine x_then_exit ?_
              | refine x_then_ret ?_
              | refine x_then_normal ?_
              | refine x_block_ret ?_
              | refine x_block_normal ?_
              | refine x_block_exit ?_
              | refine x_block_other rfl ?_
              | refine wpL_v rfl rfl (by decide) (OpV_pick_t rfl rfl (ndec_t (by omega)) rfl) ?_
              | refine wpL_v rfl rfl (by decide) (OpV_pick_f rfl rfl (ndec_f (by omega)) rfl) ?_)
            exact postI_1 rfl rfl (.refl _) (.v _) (by rw [← q3])
        · rw [backG_le l a _ (by omega)] at q3
          repeat (first
            | refine wpL_end ?_
            | refine wpL_nil ?_
            | refine wpA_seq ?_
            | refine wpA_region ?_
            | refine wpA_block ?_
            | refine wpL_v rfl rfl (by decide) (OpV_cmp rfl rfl rfl (congrArg some (decide_eq_true (by omega)))) ?_
            | refine wpL_v rfl rfl (by decide) (OpV_cmp rfl rfl rfl (congrArg some (decide_eq_false (by omega)))) ?_
            | refine wpL_v rfl rfl (by decide) (OpV_cmp rfl rfl rfl (congrArg some (ndec_t (by omega)))) ?_
            | refine wpL_v rfl rfl (by decide) (OpV_cmp rfl rfl rfl (congrArg some (ndec_f (by omega)))) ?_
            | refine wpL_v rfl rfl (by decide) (OpV_move rfl rfl) ?_
            | refine wpL_v rfl rfl (by decide) (OpV_assign rfl rfl) ?_
            | refine wpL_v rfl rfl (by decide) (OpV_cmp rfl rfl rfl rfl) ?_
            | refine wpL_v rfl rfl (by decide) (OpV_add rfl rfl rfl (by omega)) ?_
            | refine wpL_v rfl rfl (by decide) (OpV_sub rfl rfl rfl (by omega)) ?_
            | refine wpL_v rfl rfl (by decide) (OpV_len rfl rfl rfl) ?_
            | refine wpL_v rfl rfl (by decide) (OpV_nilCheck rfl rfl rfl) ?_
            | refine wpL_v rfl rfl (by decide) (OpV_fieldAddr rfl rfl rfl rfl) ?_
            | refine wpL_v rfl rfl (by decide) (OpV_load rfl rfl rfl) ?_
            | refine wpL_v rfl rfl (by decide) (OpV_not rfl rfl) ?_
            | refine wpL_v rfl rfl (by decide) (OpV_extract rfl rfl rfl) ?_
            | refine wpL_v rfl rfl (by decide) (OpV_pick_t rfl rfl (by first | rfl | exact decide_eq_true (by omega)) rfl) ?_
            | refine wpL_v rfl rfl (by decide) (OpV_pick_f rfl rfl (by first | rfl | exact decide_eq_false (by omega)) rfl) ?_
            | refine wpL_v rfl rfl (by decide) (OpV_build rfl rfl rfl rfl) ?_
            | refine wpL_v rfl rfl (by decide) (OpV_max rfl rfl rfl) ?_
            | refine wpL_v rfl rfl (by decide) (OpV_min rfl rfl rfl) ?_
            | refine wpL_v rfl rfl (by decide) (OpV_nilptr rfl rfl rfl) ?_
            | refine wpL_v rfl rfl (by decide) (OpV_beq rfl rfl rfl) ?_
            | refine wpL_v rfl rfl (by decide) (OpV_bne rfl rfl rfl) ?_
            | refine wpL_v rfl rfl (by decide) (OpV_makeFunc rfl rfl) ?_
            | refine wpL_loadH 0 hG rfl rfl (by decide) rfl rfl rfl rfl ?_
            | refine wpL_loadH 1 hG rfl rfl (by decide) rfl rfl rfl rfl ?_
            | refine wpL_loadH 2 hG rfl rfl (by decide) rfl rfl rfl rfl ?_
            | refine wpL_loadH 3 hG rfl rfl (by decide) rfl rfl rfl rfl ?_
            | refine wpL_loadH 4 hG rfl rfl (by decide) rfl rfl rfl rfl ?_
            | refine wpL_loadH 5 hG rfl rfl (by decide) rfl rfl rfl rfl ?_
            | (refine wpL_storeH 0 hG rfl rfl rfl rfl rfl rfl rfl rfl rfl rfl rfl ?_; intro G hG)
            | (refine wpL_storeH 1 hG rfl rfl rfl rfl rfl rfl rfl rfl rfl rfl rfl ?_; intro G hG)
            | (refine wpL_storeH 2 hG rfl rfl rfl rfl rfl rfl rfl rfl rfl rfl rfl ?_; intro G hG)
            | (refine wpL_storeH 3 hG rfl rfl rfl rfl rfl rfl rfl rfl rfl rfl rfl ?_; intro G hG)
            | (refine wpL_storeH 4 hG rfl rfl rfl rfl rfl rfl rfl rfl rfl rfl rfl ?_; intro G hG)
            | (refine wpL_storeH 5 hG rfl rfl rfl rfl rfl rfl rfl rfl rfl rfl rfl ?_; intro G hG)
            | (refine wpL_allocH hG rfl rfl (by decide) rfl rfl ?_; intro id G hG)
            | (refine wpL_boxH hG rfl rfl (by decide) rfl rfl rfl ?_; intro id G hG)
            | (refine wpL_sliceH hG rfl rfl (by decide) rfl rfl rfl rfl rfl rfl rfl rfl ?_; intro id G hG)
            | refine wpL_gt rfl rfl rfl rfl rfl (by decide) (by first | rfl | exact decide_eq_true (by omega) | exact decide_eq_false (by omega) | exact ndec_t (by omega) | exact ndec_f (by omega)) ?_
            | refine wpL_gf rfl rfl rfl rfl rfl (by decide) (by first | rfl | exact decide_eq_true (by omega) | exact decide_eq_false (by omega) | exact ndec_t (by omega) | exact ndec_f (by omega)) ?_
            | refine wpA_ct rfl (by first | rfl | exact decide_eq_true (by omega) | exact ndec_t (by omega)) ?_
            | refine wpA_cf rfl (by first | rfl | exact decide_eq_false (by omega) | exact ndec_f (by omega)) ?_
            | refine wpA_skip ?_
            | refine wpA_exit ?_
            | refine wpA_ret ?_
            | refine x_then_exit ?_
            | refine x_then_ret ?_
            | refine x_then_normal ?_
            | refine x_block_ret ?_
            | refine x_block_normal ?_
            | refine x_block_exit ?_
            | refine x_block_other rfl ?_
            | refine wpL_v rfl rfl (by decide) (OpV_pick_t rfl rfl (ndec_t (by omega)) rfl) ?_
            | refine wpL_v rfl rfl (by decide) (OpV_pick_f rfl rfl (ndec_f (by omega)) rfl) ?_)
          exact postI_1 rfl rfl (.refl _) (.v _) (by rw [← q3])
  · have e : l.length - (a + j + 1) = 0 := by omega
    rw [e, fillG] at j3
    repeat (first
      | refine wpL_end ?_
      | refine wpL_nil ?_
      | refine wpA_seq ?_
      | refine wpA_region ?_
      | refine wpA_block ?_
      | refine wpL_v rfl rfl (by decide) (OpV_cmp rfl rfl rfl (congrArg some (decide_eq_true (by omega)))) ?_
      | refine wpL_v rfl rfl (by decide) (OpV_cmp rfl rfl rfl (congrArg some (decide_eq_false (by omega)))) ?_
      | refine wpL_v rfl rfl (by decide) (OpV_cmp rfl rfl rfl (congrArg some (ndec_t (by omega)))) ?_
      | refine wpL_v rfl rfl (by decide) (OpV_cmp rfl rfl rfl (congrArg some (ndec_f (by omega)))) ?_
      | refine wpL_v rfl rfl (by decide) (OpV_move rfl rfl) ?_
      | refine wpL_v rfl rfl (by decide) (OpV_assign rfl rfl) ?_
      | refine wpL_v rfl rfl (by decide) (OpV_cmp rfl rfl rfl rfl) ?_
      | refine wpL_v rfl rfl (by decide) (OpV_add rfl rfl rfl (by omega)) ?_
      | refine wpL_v rfl rfl (by decide) (OpV_sub rfl rfl rfl (by omega)) ?_
      | refine wpL_v rfl rfl (by decide) (OpV_len rfl rfl rfl) ?_
      | refine wpL_v rfl rfl (by decide) (OpV_nilCheck rfl rfl rfl) ?_
      | refine wpL_v rfl rfl (by decide) (OpV_fieldAddr rfl rfl rfl rfl) ?_
      | refine wpL_v rfl rfl (by decide) (OpV_load rfl rfl rfl) ?_
      | refine wpL_v rfl rfl (by decide) (OpV_not rfl rfl) ?_
      | refine wpL_v rfl rfl (by decide) (OpV_extract rfl rfl rfl) ?_
      | refine wpL_v rfl rfl (by decide) (OpV_pick_t rfl rfl (by first | rfl | exact decide_eq_true (by omega)) rfl) ?_
      | refine wpL_v rfl rfl (by decide) (OpV_pick_f rfl rfl (by first | rfl | exact decide_eq_false (by omega)) rfl) ?_
      | refine wpL_v rfl rfl (by decide) (OpV_build rfl rfl rfl rfl) ?_
      | refine wpL_v rfl rfl (by decide) (OpV_max rfl rfl rfl) ?_
      | refine wpL_v rfl rfl (by decide) (OpV_min rfl rfl rfl) ?_
      | refine wpL_v rfl rfl (by decide) (OpV_nilptr rfl rfl rfl) ?_
      | refine wpL_v rfl rfl (by decide) (OpV_beq rfl rfl rfl) ?_
      | refine wpL_v rfl rfl (by decide) (OpV_bne rfl rfl rfl) ?_
      | refine wpL_v rfl rfl (by decide) (OpV_makeFunc rfl rfl) ?_
      | refine wpL_loadH 0 hG rfl rfl (by decide) rfl rfl rfl rfl ?_
      | refine wpL_loadH 1 hG rfl rfl (by decide) rfl rfl rfl rfl ?_
      | refine wpL_loadH 2 hG rfl rfl (by decide) rfl rfl rfl rfl ?_
      | refine wpL_loadH 3 hG rfl rfl (by decide) rfl rfl rfl rfl ?_
      | refine wpL_loadH 4 hG rfl rfl (by decide) rfl rfl rfl rfl ?_
      | refine wpL_loadH 5 hG rfl rfl (by decide) rfl rfl rfl rfl ?_
      | (refine wpL_storeH 0 hG rfl rfl rfl rfl rfl rfl rfl rfl rfl rfl rfl ?_; intro G hG)
      | (refine wpL_storeH 1 hG rfl rfl rfl rfl rfl rfl rfl rfl rfl rfl rfl ?_; intro G hG)
      | (refine wpL_storeH 2 hG rfl rfl rfl rfl rfl rfl rfl rfl rfl rfl rfl ?_; intro G hG)
      | (refine wpL_storeH 3 hG rfl rfl rfl rfl rfl rfl rfl rfl rfl rfl rfl ?_; intro G hG)
      | (refine wpL_storeH 4 hG rfl rfl rfl rfl rfl rfl rfl rfl rfl rfl rfl ?_; intro G hG)
      | (refine wpL_storeH 5 hG rfl rfl rfl rfl rfl rfl rfl rfl rfl rfl rfl ?_; intro G hG)
      | (refine wpL_allocH hG rfl rfl (by decide) rfl rfl ?_; intro id G hG)
      | (refine wpL_boxH hG rfl rfl (by decide) rfl rfl rfl ?_; intro id G hG)
      | (refine wpL_sliceH hG rfl rfl (by decide) rfl rfl rfl rfl rfl rfl rfl rfl ?_; intro id G hG)
      | refine wpL_gt rfl rfl rfl rfl rfl (by decide) (by first | rfl | exact decide_eq_true (by omega) | exact decide_eq_false (by omega) | exact ndec_t (by omega) | exact ndec_f (by omega)) ?_
      | refine wpL_gf rfl rfl rfl rfl rfl (by decide) (by first | rfl | exact decide_eq_true (by omega) | exact decide_eq_false (by omega) | exact ndec_t (by omega) | exact ndec_f (by omega)) ?_
      | refine wpA_ct rfl (by first | rfl | exact decide_eq_true (by omega) | exact ndec_t (by omega)) ?_
      | refine wpA_cf rfl (by first | rfl | exact decide_eq_false (by omega) | exact ndec_f (by omega)) ?_
      | refine wpA_skip ?_
      | refine wpA_exit ?_
      | refine wpA_ret ?_
      | refine x_then_exit ?_
      | refine x_then_ret ?_
      | refine x_then_normal ?_
      | refine x_block_ret ?_
      | refine x_block_normal ?_
      | refine x_block_exit ?_
      | refine x_block_other rfl ?_
      | refine wpL_v rfl rfl (by decide) (OpV_pick_t rfl rfl (ndec_t (by omega)) rfl) ?_
      | refine wpL_v rfl rfl (by decide) (OpV_pick_f rfl rfl (ndec_f (by omega)) rfl) ?_)
    exact postI_1 rfl rfl (.refl _) (.v _) (by rw [← j3, show a + j + 1 = l.length from by omega]; rfl)

set_option maxHeartbeats 4000000 in
theorem mbreaks_iso (l : List Piece) (height : Int) (hl : allOk l) : Iso Try.prog 21 [pcs l, I height] (fun p => p = intsP (breaksL l height)) := by
  have hlen := hl.1
  have hG := has_nil
  refine Iso_enter Try.func21 rfl rfl rfl ?_
  repeat (first
    | refine wpL_end ?_
    | refine wpL_nil ?_
    | refine wpA_seq ?_
    | refine wpA_region ?_
    | refine wpA_block ?_
    | refine wpL_v rfl rfl (by decide) (OpV_cmp rfl rfl rfl (congrArg some (decide_eq_true (by omega)))) ?_
    | refine wpL_v rfl rfl (by decide) (OpV_cmp rfl rfl rfl (congrArg some (decide_eq_false (by omega)))) ?_
    | refine wpL_v rfl rfl (by decide) (OpV_cmp rfl rfl rfl (congrArg some (ndec_t (by omega)))) ?_
    | refine wpL_v rfl rfl (by decide) (OpV_cmp rfl rfl rfl (congrArg some (ndec_f (by omega)))) ?_
    | refine wpL_v rfl rfl (by decide) (OpV_move rfl rfl) ?_
    | refine wpL_v rfl rfl (by decide) (OpV_assign rfl rfl) ?_
    | refine wpL_v rfl rfl (by decide) (OpV_cmp rfl rfl rfl rfl) ?_
    | refine wpL_v rfl rfl (by decide) (OpV_add rfl rfl rfl (by omega)) ?_
    | refine wpL_v rfl rfl (by decide) (OpV_sub rfl rfl rfl (by omega)) ?_
    | refine wpL_v rfl rfl (by decide) (OpV_len rfl rfl rfl) ?_
    | refine wpL_v rfl rfl (by decide) (OpV_nilCheck rfl rfl rfl) ?_
    | refine wpL_v rfl rfl (by decide) (OpV_fieldAddr rfl rfl rfl rfl) ?_
    | refine wpL_v rfl rfl (by decide) (OpV_load rfl rfl rfl) ?_
    | refine wpL_v rfl rfl (by decide) (OpV_not rfl rfl) ?_
    | refine wpL_v rfl rfl (by decide) (OpV_extract rfl rfl rfl) ?_
    | refine wpL_v rfl rfl (by decide) (OpV_pick_t rfl rfl (by first | rfl | exact decide_eq_true (by omega)) rfl) ?_
    | refine wpL_v rfl rfl (by decide) (OpV_pick_f rfl rfl (by first | rfl | exact decide_eq_false (by omega)) rfl) ?_
    | refine wpL_v rfl rfl (by decide) (OpV_build rfl rfl rfl rfl) ?_
    | refine wpL_v rfl rfl (by decide) (OpV_max rfl rfl rfl) ?_
    | refine wpL_v rfl rfl (by decide) (OpV_min rfl rfl rfl) ?_
    | refine wpL_v rfl rfl (by decide) (OpV_nilptr rfl rfl rfl) ?_
    | refine wpL_v rfl rfl (by decide) (OpV_beq rfl rfl rfl) ?_
    | refine wpL_v rfl rfl (by decide) (OpV_bne rfl rfl rfl) ?_
    | refine wpL_v rfl rfl (by decide) (OpV_makeFunc rfl rfl) ?_
    | refine wpL_loadH 0 hG rfl rfl (by decide) rfl rfl rfl rfl ?_
    | refine wpL_loadH 1 hG rfl rfl (by decide) rfl rfl rfl rfl ?_
    | refine wpL_loadH 2 hG rfl rfl (by decide) rfl rfl rfl rfl ?_
    | refine wpL_loadH 3 hG rfl rfl (by decide) rfl rfl rfl rfl ?_
    | refine wpL_loadH 4 hG rfl rfl (by decide) rfl rfl rfl rfl ?_
    | refine wpL_loadH 5 hG rfl rfl (by decide) rfl rfl rfl rfl ?_
    | (refine wpL_storeH 0 hG rfl rfl rfl rfl rfl rfl rfl rfl rfl rfl rfl ?_; intro G hG)
    | (refine wpL_storeH 1 hG rfl rfl rfl rfl rfl rfl rfl rfl rfl rfl rfl ?_; intro G hG)
    | (refine wpL_storeH 2 hG rfl rfl rfl rfl rfl rfl rfl rfl rfl rfl rfl ?_; intro G hG)
    | (refine wpL_storeH 3 hG rfl rfl rfl rfl rfl rfl rfl rfl rfl rfl rfl ?_; intro G hG)
    | (refine wpL_storeH 4 hG rfl rfl rfl rfl rfl rfl rfl rfl rfl rfl rfl ?_; intro G hG)
    | (refine wpL_storeH 5 hG rfl rfl rfl rfl rfl rfl rfl rfl rfl rfl rfl ?_; intro G hG)
    | (refine wpL_allocH hG rfl rfl (by decide) rfl rfl ?_; intro id G hG)
    | (refine wpL_boxH hG rfl rfl (by decide) rfl rfl rfl ?_; intro id G hG)
    | (refine wpL_sliceH hG rfl rfl (by decide) rfl rfl rfl rfl rfl rfl rfl rfl ?_; intro id G hG)
    | refine wpL_gt rfl rfl rfl rfl rfl (by decide) (by first | rfl | exact decide_eq_true (by omega) | exact decide_eq_false (by omega) | exact ndec_t (by omega) | exact ndec_f (by omega)) ?_
    | refine wpL_gf rfl rfl rfl rfl rfl (by decide) (by first | rfl | exact decide_eq_true (by omega) | exact decide_eq_false (by omega) | exact ndec_t (by omega) | exact ndec_f (by omega)) ?_
    | refine wpA_ct rfl (by first | rfl | exact decide_eq_true (by omega) | exact ndec_t (by omega)) ?_
    | refine wpA_cf rfl (by first | rfl | exact decide_eq_false (by omega) | exact ndec_f (by omega)) ?_
    | refine wpA_skip ?_
    | refine wpA_exit ?_
    | refine wpA_ret ?_
    | refine x_then_exit ?_
    | refine x_then_ret ?_
    | refine x_then_normal ?_
    | refine x_block_ret ?_
    | refine x_block_normal ?_
    | refine x_block_exit ?_
    | refine x_block_other rfl ?_
    | refine wpL_v rfl rfl (by decide) (OpV_pick_t rfl rfl (ndec_t (by omega)) rfl) ?_
    | refine wpL_v rfl rfl (by decide) (OpV_pick_f rfl rfl (ndec_f (by omega)) rfl) ?_)
  refine wpA_ghostH 5 3 1 hG rfl ?_
  intro o0 G hG
  refine wpA_loopS (S := List Int × Nat × Nat × Nat) (fun x => [(0, pcs l), (1, I height), (5, .sl x.2.2.2 0 x.1.length 1), (6, I x.2.1)])
    (fun x G => x.1.length + x.2.2.1 ≤ l.length ∧ l.length ≤ x.2.1 + x.2.2.1 ∧ breaksL l height = x.1 ++ (brk l height x.2.2.1 x.2.1).map Int.ofNat ∧ x.2.1 ≤ l.length ∧ Has G [(x.2.2.2, ⟨x.1.map I, 3, true⟩)]) (fun x => l.length - x.2.1) ([], 0, l.length, o0)
    (.cons rfl (.cons rfl (.cons rfl (.cons rfl (.nil _))))) ⟨by simp, by simp, rfl, by simp, hG⟩ ?_
  rintro ⟨pre, k, fuel, o⟩ G ⟨q1, q2, q3, q4, hG⟩
  dsimp only at q1 q2 q3 q4 hG ⊢
  have hm := mfill_iso l k height hl
  by_cases hk : k < l.length
  · obtain ⟨fuel, rfl⟩ : ∃ f, fuel = f + 1 := ⟨fuel - 1, by omega⟩
    rw [brk, if_pos hk] at q3
    have hm := hm hk
    have hf1 := fillF_gt l k height
    have hf2 := (fillF_spec l k height hk).1
    repeat (first
      | refine wpL_end ?_
      | refine wpL_nil ?_
      | refine wpA_seq ?_
      | refine wpA_region ?_
      | refine wpA_block ?_
      | (refine wpL_appendH 1 hG rfl rfl (by decide) rfl rfl rfl rfl rfl rfl (by simp) rfl (hG.cellsOf (k := 0) rfl rfl) rfl (by omega) (by omega) ?_; intro o2 G hG)
      | (refine wpL_is rfl rfl rfl rfl rfl rfl (by decide) hm (TreeL.cons (tree_pcs l) (TreeL.cons (tree_I _) (TreeL.cons (tree_I _) TreeL.nil))) ?_; rintro _ rfl)
      | refine wpL_v rfl rfl (by decide) (OpV_cmp rfl rfl rfl (congrArg some (decide_eq_true (by omega)))) ?_
      | refine wpL_v rfl rfl (by decide) (OpV_cmp rfl rfl rfl (congrArg some (decide_eq_false (by omega)))) ?_
      | refine wpL_v rfl rfl (by decide) (OpV_cmp rfl rfl rfl (congrArg some (ndec_t (by omega)))) ?_
      | refine wpL_v rfl rfl (by decide) (OpV_cmp rfl rfl rfl (congrArg some (ndec_f (by omega)))) ?_
      | refine wpL_v rfl rfl (by decide) (OpV_move rfl rfl) ?_
      | refine wpL_v rfl rfl (by decide) (OpV_assign rfl rfl) ?_
      | refine wpL_v rfl rfl (by decide) (OpV_cmp rfl rfl rfl rfl) ?_
      | refine wpL_v rfl rfl (by decide) (OpV_add rfl rfl rfl (by omega)) ?_
      | refine wpL_v rfl rfl (by decide) (OpV_sub rfl rfl rfl (by omega)) ?_
      | refine wpL_v rfl rfl (by decide) (OpV_len rfl rfl rfl) ?_
      | refine wpL_v rfl rfl (by decide) (OpV_nilCheck rfl rfl rfl) ?_
      | refine wpL_v rfl rfl (by decide) (OpV_fieldAddr rfl rfl rfl rfl) ?_
      | refine wpL_v rfl rfl (by decide) (OpV_load rfl rfl rfl) ?_
      | refine wpL_v rfl rfl (by decide) (OpV_not rfl rfl) ?_
      | refine wpL_v rfl rfl (by decide) (OpV_extract rfl rfl rfl) ?_
      | refine wpL_v rfl rfl (by decide) (OpV_pick_t rfl rfl (by first | rfl | exact decide_eq_true (by omega)) rfl) ?_
      | refine wpL_v rfl rfl (by decide) (OpV_pick_f rfl rfl (by first | rfl | exact decide_eq_false (by omega)) rfl) ?_
      | refine wpL_v rfl rfl (by decide) (OpV_build rfl rfl rfl rfl) ?_
      | refine wpL_v rfl rfl (by decide) (OpV_max rfl rfl rfl) ?_
      | refine wpL_v rfl rfl (by decide) (OpV_min rfl rfl rfl) ?_
      | refine wpL_v rfl rfl (by decide) (OpV_nilptr rfl rfl rfl) ?_
      | refine wpL_v rfl rfl (by decide) (OpV_beq rfl rfl rfl) ?_
      | refine wpL_v rfl rfl (by decide) (OpV_bne rfl rfl rfl) ?_
      | refine wpL_v rfl rfl (by decide) (OpV_makeFunc rfl rfl) ?_
      | refine wpL_loadH 0 hG rfl rfl (by decide) rfl rfl rfl rfl ?_
      | refine wpL_loadH 1 hG rfl rfl (by decide) rfl rfl rfl rfl ?_
      | refine wpL_loadH 2 hG rfl rfl (by decide) rfl rfl rfl rfl ?_
      | refine wpL_loadH 3 hG rfl rfl (by decide) rfl rfl rfl rfl ?_
      | refine wpL_loadH 4 hG rfl rfl (by decide) rfl rfl rfl rfl ?_
      | refine wpL_loadH 5 hG rfl rfl (by decide) rfl rfl rfl rfl ?_
      | (refine wpL_storeH 0 hG rfl rfl rfl rfl rfl rfl rfl rfl rfl rfl rfl ?_; intro G hG)
      | (refine wpL_storeH 1 hG rfl rfl rfl rfl rfl rfl rfl rfl rfl rfl rfl ?_; intro G hG)
      | (refine wpL_storeH 2 hG rfl rfl rfl rfl rfl rfl rfl rfl rfl rfl rfl ?_; intro G hG)
      | (refine wpL_storeH 3 hG rfl rfl rfl rfl rfl rfl rfl rfl rfl rfl rfl ?_; intro G hG)
      | (refine wpL_storeH 4 hG rfl rfl rfl rfl rfl rfl rfl rfl rfl rfl rfl ?_; intro G hG)
      | (refine wpL_storeH 5 hG rfl rfl rfl rfl rfl rfl rfl rfl rfl rfl rfl ?_; intro G hG)
      | (refine wpL_allocH hG rfl rfl (by decide) rfl rfl ?_; intro id G hG)
      | (refine wpL_boxH hG rfl rfl (by decide) rfl rfl rfl ?_; intro id G hG)
      | (refine wpL_sliceH hG rfl rfl (by decide) rfl rfl rfl rfl rfl rfl rfl rfl ?_; intro id G hG)
      | refine wpL_gt rfl rfl rfl rfl rfl (by decide) (by first | rfl | exact decide_eq_true (by omega) | exact decide_eq_false (by omega) | exact ndec_t (by omega) | exact ndec_f (by omega)) ?_
      | refine wpL_gf rfl rfl rfl rfl rfl (by decide) (by first | rfl | exact decide_eq_true (by omega) | exact decide_eq_false (by omega) | exact ndec_t (by omega) | exact ndec_f (by omega)) ?_
      | refine wpA_ct rfl (by first | rfl | exact decide_eq_true (by omega) | exact ndec_t (by omega)) ?_
      | refine wpA_cf rfl (by first | rfl | exact decide_eq_false (by omega) | exact ndec_f (by omega)) ?_
      | refine wpA_skip ?_
      | refine wpA_exit ?_
      | refine wpA_ret ?_
      | refine x_then_exit ?_
      | refine x_then_ret ?_
      | refine x_then_normal ?_
      | refine x_block_ret ?_
      | refine x_block_normal ?_
      | refine x_block_exit ?_
      | refine x_block_other rfl ?_
      | refine wpL_v rfl rfl (by decide) (OpV_pick_t rfl rfl (ndec_t (by omega)) rfl) ?_
      | refine wpL_v rfl rfl (by decide) (OpV_pick_f rfl rfl (ndec_f (by omega)) rfl) ?_)
    refine ⟨(pre ++ [(k : Int)], fillF l k height, fuel, o2), by dsimp only; omega, ?_, by simp only [List.length_append, List.length_cons, List.length_nil]; omega, by dsimp only; omega, by rw [q3]; simp, by dsimp only; omega, ?_⟩
    · simp only [List.length_append, List.length_cons, List.length_nil]
      exact .cons rfl (.cons rfl (.cons rfl (.cons rfl (.nil _))))
    · simp only [List.map_append, List.map_cons, List.map_nil]
      exact hG.pick [1] (by decide) rfl
  · have hb : brk l height fuel k = [] := by cases fuel <;> simp [brk, hk]
    rw [hb, List.map_nil, List.append_nil] at q3
    repeat (first
      | refine wpL_end ?_
      | refine wpL_nil ?_
      | refine wpA_seq ?_
      | refine wpA_region ?_
      | refine wpA_block ?_
      | refine wpL_v rfl rfl (by decide) (OpV_cmp rfl rfl rfl (congrArg some (decide_eq_true (by omega)))) ?_
      | refine wpL_v rfl rfl (by decide) (OpV_cmp rfl rfl rfl (congrArg some (decide_eq_false (by omega)))) ?_
      | refine wpL_v rfl rfl (by decide) (OpV_cmp rfl rfl rfl (congrArg some (ndec_t (by omega)))) ?_
      | refine wpL_v rfl rfl (by decide) (OpV_cmp rfl rfl rfl (congrArg some (ndec_f (by omega)))) ?_
      | refine wpL_v rfl rfl (by decide) (OpV_move rfl rfl) ?_
      | refine wpL_v rfl rfl (by decide) (OpV_assign rfl rfl) ?_
      | refine wpL_v rfl rfl (by decide) (OpV_cmp rfl rfl rfl rfl) ?_
      | refine wpL_v rfl rfl (by decide) (OpV_add rfl rfl rfl (by omega)) ?_
      | refine wpL_v rfl rfl (by decide) (OpV_sub rfl rfl rfl (by omega)) ?_
      | refine wpL_v rfl rfl (by decide) (OpV_len rfl rfl rfl) ?_
      | refine wpL_v rfl rfl (by decide) (OpV_nilCheck rfl rfl rfl) ?_
      | refine wpL_v rfl rfl (by decide) (OpV_fieldAddr rfl rfl rfl rfl) ?_
      | refine wpL_v rfl rfl (by decide) (OpV_load rfl rfl rfl) ?_
      | refine wpL_v rfl rfl (by decide) (OpV_not rfl rfl) ?_
      | refine wpL_v rfl rfl (by decide) (OpV_extract rfl rfl rfl) ?_
      | refine wpL_v rfl rfl (by decide) (OpV_pick_t rfl rfl (by first | rfl | exact decide_eq_true (by omega)) rfl) ?_
      | refine wpL_v rfl rfl (by decide) (OpV_pick_f rfl rfl (by first | rfl | exact decide_eq_false (by omega)) rfl) ?_
      | refine wpL_v rfl rfl (by decide) (OpV_build rfl rfl rfl rfl) ?_
      | refine wpL_v rfl rfl (by decide) (OpV_max rfl rfl rfl) ?_
      | refine wpL_v rfl rfl (by decide) (OpV_min rfl rfl rfl) ?_
      | refine wpL_v rfl rfl (by decide) (OpV_nilptr rfl rfl rfl) ?_
      | refine wpL_v rfl rfl (by decide) (OpV_beq rfl rfl rfl) ?_
      | refine wpL_v rfl rfl (by decide) (OpV_bne rfl rfl rfl) ?_
      | refine wpL_v rfl rfl (by decide) (OpV_makeFunc rfl rfl) ?_
      | refine wpL_loadH 0 hG rfl rfl (by decide) rfl rfl rfl rfl ?_
      | refine wpL_loadH 1 hG rfl rfl (by decide) rfl rfl rfl rfl ?_
      | refine wpL_loadH 2 hG rfl rfl (by decide) rfl rfl rfl rfl ?_
      | refine wpL_loadH 3 hG rfl rfl (by decide) rfl rfl rfl rfl ?_
      | refine wpL_loadH 4 hG rfl rfl (by decide) rfl rfl rfl rfl ?_
      | refine wpL_loadH 5 hG rfl rfl (by decide) rfl rfl rfl rfl ?_
      | (refine wpL_storeH 0 hG rfl rfl rfl rfl rfl rfl rfl rfl rfl rfl rfl ?_; intro G hG)
      | (refine wpL_storeH 1 hG rfl rfl rfl rfl rfl rfl rfl rfl rfl rfl rfl ?_; intro G hG)
      | (refine wpL_storeH 2 hG rfl rfl rfl rfl rfl rfl rfl rfl rfl rfl rfl ?_; intro G hG)
      | (refine wpL_storeH 3 hG rfl rfl rfl rfl rfl rfl rfl rfl rfl rfl rfl ?_; intro G hG)
      | (refine wpL_storeH 4 hG rfl rfl rfl rfl rfl rfl rfl rfl rfl rfl rfl ?_; intro G hG)
      | (refine wpL_storeH 5 hG rfl rfl rfl rfl rfl rfl rfl rfl rfl rfl rfl ?_; intro G hG)
      | (refine wpL_allocH hG rfl rfl (by decide) rfl rfl ?_; intro id G hG)
      | (refine wpL_boxH hG rfl rfl (by decide) rfl rfl rfl ?_; intro id G hG)
      | (refine wpL_sliceH hG rfl rfl (by decide) rfl rfl rfl rfl rfl rfl rfl rfl ?_; intro id G hG)
      | refine wpL_gt rfl rfl rfl rfl rfl (by decide) (by first | rfl | exact decide_eq_true (by omega) | exact decide_eq_false (by omega) | exact ndec_t (by omega) | exact ndec_f (by omega)) ?_
      | refine wpL_gf rfl rfl rfl rfl rfl (by decide) (by first | rfl | exact decide_eq_true (by omega) | exact decide_eq_false (by omega) | exact ndec_t (by omega) | exact ndec_f (by omega)) ?_
      | refine wpA_ct rfl (by first | rfl | exact decide_eq_true (by omega) | exact ndec_t (by omega)) ?_
      | refine wpA_cf rfl (by first | rfl | exact decide_eq_false (by omega) | exact ndec_f (by omega)) ?_
      | refine wpA_skip ?_
      | refine wpA_exit ?_
      | refine wpA_ret ?_
      | refine x_then_exit ?_
      | refine x_then_ret ?_
      | refine x_then_normal ?_
      | refine x_block_ret ?_
      | refine x_block_normal ?_
      | refine x_block_exit ?_
      | refine x_block_other rfl ?_
      | refine wpL_v rfl rfl (by decide) (OpV_pick_t rfl rfl (ndec_t (by omega)) rfl) ?_
      | refine wpL_v rfl rfl (by decide) (OpV_pick_f rfl rfl (ndec_f (by omega)) rfl) ?_)
    rw [q3]
    refine postI_1 rfl rfl (.own hG (k := 0) rfl (by simp)) ?_ ?_
    · exact tree_intsP pre
    · simp only [intsP]

theorem same_iso (l : List Int) (hl : l.length ≤ 1000000) : Iso Try.prog 20 [intsP l, intsP l] (fun p => p = B true) := by
  have hG := has_nil
  refine Iso_enter Try.func20 rfl rfl rfl ?_
  repeat (first
    | refine wpL_end ?_
    | refine wpL_nil ?_
    | refine wpA_seq ?_
    | refine wpA_region ?_
    | refine wpA_block ?_
    | refine wpL_v rfl rfl (by decide) (OpV_cmp rfl rfl rfl (congrArg some (decide_eq_true (by omega)))) ?_
    | refine wpL_v rfl rfl (by decide) (OpV_cmp rfl rfl rfl (congrArg some (decide_eq_false (by omega)))) ?_
    | refine wpL_v rfl rfl (by decide) (OpV_cmp rfl rfl rfl (congrArg some (ndec_t (by omega)))) ?_
    | refine wpL_v rfl rfl (by decide) (OpV_cmp rfl rfl rfl (congrArg some (ndec_f (by omega)))) ?_
    | refine wpL_v rfl rfl (by decide) (OpV_move rfl rfl) ?_
    | refine wpL_v rfl rfl (by decide) (OpV_assign rfl rfl) ?_
    | refine wpL_v rfl rfl (by decide) (OpV_cmp rfl rfl rfl rfl) ?_
    | refine wpL_v rfl rfl (by decide) (OpV_add rfl rfl rfl (by omega)) ?_
    | refine wpL_v rfl rfl (by decide) (OpV_sub rfl rfl rfl (by omega)) ?_
    | refine wpL_v rfl rfl (by decide) (OpV_len rfl rfl rfl) ?_
    | refine wpL_v rfl rfl (by decide) (OpV_nilCheck rfl rfl rfl) ?_
    | refine wpL_v rfl rfl (by decide) (OpV_fieldAddr rfl rfl rfl rfl) ?_
    | refine wpL_v rfl rfl (by decide) (OpV_load rfl rfl rfl) ?_
    | refine wpL_v rfl rfl (by decide) (OpV_not rfl rfl) ?_
    | refine wpL_v rfl rfl (by decide) (OpV_extract rfl rfl rfl) ?_
    | refine wpL_v rfl rfl (by decide) (OpV_pick_t rfl rfl (by first | rfl | exact decide_eq_true (by omega)) rfl) ?_
    | refine wpL_v rfl rfl (by decide) (OpV_pick_f rfl rfl (by first | rfl | exact decide_eq_false (by omega)) rfl) ?_
    | refine wpL_v rfl rfl (by decide) (OpV_build rfl rfl rfl rfl) ?_
    | refine wpL_v rfl rfl (by decide) (OpV_max rfl rfl rfl) ?_
    | refine wpL_v rfl rfl (by decide) (OpV_min rfl rfl rfl) ?_
    | refine wpL_v rfl rfl (by decide) (OpV_nilptr rfl rfl rfl) ?_
    | refine wpL_v rfl rfl (by decide) (OpV_beq rfl rfl rfl) ?_
    | refine wpL_v rfl rfl (by decide) (OpV_bne rfl rfl rfl) ?_
    | refine wpL_v rfl rfl (by decide) (OpV_makeFunc rfl rfl) ?_
    | refine wpL_loadH 0 hG rfl rfl (by decide) rfl rfl rfl rfl ?_
    | refine wpL_loadH 1 hG rfl rfl (by decide) rfl rfl rfl rfl ?_
    | refine wpL_loadH 2 hG rfl rfl (by decide) rfl rfl rfl rfl ?_
    | refine wpL_loadH 3 hG rfl rfl (by decide) rfl rfl rfl rfl ?_
    | refine wpL_loadH 4 hG rfl rfl (by decide) rfl rfl rfl rfl ?_
    | refine wpL_loadH 5 hG rfl rfl (by decide) rfl rfl rfl rfl ?_
    | (refine wpL_storeH 0 hG rfl rfl rfl rfl rfl rfl rfl rfl rfl rfl rfl ?_; intro G hG)
    | (refine wpL_storeH 1 hG rfl rfl rfl rfl rfl rfl rfl rfl rfl rfl rfl ?_; intro G hG)
    | (refine wpL_storeH 2 hG rfl rfl rfl rfl rfl rfl rfl rfl rfl rfl rfl ?_; intro G hG)
    | (refine wpL_storeH 3 hG rfl rfl rfl rfl rfl rfl rfl rfl rfl rfl rfl ?_; intro G hG)
    | (refine wpL_storeH 4 hG rfl rfl rfl rfl rfl rfl rfl rfl rfl rfl rfl ?_; intro G hG)
    | (refine wpL_storeH 5 hG rfl rfl rfl rfl rfl rfl rfl rfl rfl rfl rfl ?_; intro G hG)
    | (refine wpL_allocH hG rfl rfl (by decide) rfl rfl ?_; intro id G hG)
    | (refine wpL_boxH hG rfl rfl (by decide) rfl rfl rfl ?_; intro id G hG)
    | (refine wpL_sliceH hG rfl rfl (by decide) rfl rfl rfl rfl rfl rfl rfl rfl ?_; intro id G hG)
    | refine wpL_gt rfl rfl rfl rfl rfl (by decide) (by first | rfl | exact decide_eq_true (by omega) | exact decide_eq_false (by omega) | exact ndec_t (by omega) | exact ndec_f (by omega)) ?_
    | refine wpL_gf rfl rfl rfl rfl rfl (by decide) (by first | rfl | exact decide_eq_true (by omega) | exact decide_eq_false (by omega) | exact ndec_t (by omega) | exact ndec_f (by omega)) ?_
    | refine wpA_ct rfl (by first | rfl | exact decide_eq_true (by omega) | exact ndec_t (by omega)) ?_
    | refine wpA_cf rfl (by first | rfl | exact decide_eq_false (by omega) | exact ndec_f (by omega)) ?_
    | refine wpA_skip ?_
    | refine wpA_exit ?_
    | refine wpA_ret ?_
    | refine x_then_exit ?_
    | refine x_then_ret ?_
    | refine x_then_normal ?_
    | refine x_block_ret ?_
    | refine x_block_normal ?_
    | refine x_block_exit ?_
    | refine x_block_other rfl ?_
    | refine wpL_v rfl rfl (by decide) (OpV_pick_t rfl rfl (ndec_t (by omega)) rfl) ?_
    | refine wpL_v rfl rfl (by decide) (OpV_pick_f rfl rfl (ndec_f (by omega)) rfl) ?_)
  refine wpA_loopS (S := Nat) (fun i => [(0, intsP l), (1, intsP l), (5, I i)]) (fun i G => i ≤ l.length) (fun i => l.length - i) 0
    (.cons rfl (.cons rfl (.cons rfl (.nil _)))) (by omega) ?_
  rintro i G hi
  have hG := Has.nil G
  by_cases hil : i < l.length
  · obtain ⟨x, hx⟩ : ∃ x, l[i]? = some x := ⟨_, List.getElem?_eq_getElem hil⟩
    repeat (first
      | refine wpL_end ?_
      | refine wpL_nil ?_
      | refine wpA_seq ?_
      | refine wpA_region ?_
      | refine wpA_block ?_
      | refine wpL_v rfl rfl (by decide) (OpV_cmp rfl rfl rfl (congrArg some (decide_eq_true (by omega)))) ?_
      | refine wpL_v rfl rfl (by decide) (OpV_cmp rfl rfl rfl (congrArg some (decide_eq_false (by omega)))) ?_
      | refine wpL_v rfl rfl (by decide) (OpV_cmp rfl rfl rfl (congrArg some (ndec_t (by omega)))) ?_
      | refine wpL_v rfl rfl (by decide) (OpV_cmp rfl rfl rfl (congrArg some (ndec_f (by omega)))) ?_
      | refine wpL_v rfl rfl (by decide) (OpV_move rfl rfl) ?_
      | refine wpL_v rfl rfl (by decide) (OpV_assign rfl rfl) ?_
      | refine wpL_v rfl rfl (by decide) (OpV_cmp rfl rfl rfl rfl) ?_
      | refine wpL_v rfl rfl (by decide) (OpV_add rfl rfl rfl (by omega)) ?_
      | refine wpL_v rfl rfl (by decide) (OpV_sub rfl rfl rfl (by omega)) ?_
      | refine wpL_v rfl rfl (by decide) (OpV_len rfl rfl rfl) ?_
      | refine wpL_v rfl rfl (by decide) (OpV_nilCheck rfl rfl rfl) ?_
      | refine wpL_v rfl rfl (by decide) (OpV_fieldAddr rfl rfl rfl rfl) ?_
      | refine wpL_v rfl rfl (by decide) (OpV_load rfl rfl rfl) ?_
      | refine wpL_v rfl rfl (by decide) (OpV_not rfl rfl) ?_
      | refine wpL_v rfl rfl (by decide) (OpV_extract rfl rfl rfl) ?_
      | refine wpL_v rfl rfl (by decide) (OpV_pick_t rfl rfl (by first | rfl | exact decide_eq_true (by omega)) rfl) ?_
      | refine wpL_v rfl rfl (by decide) (OpV_pick_f rfl rfl (by first | rfl | exact decide_eq_false (by omega)) rfl) ?_
      | refine wpL_v rfl rfl (by decide) (OpV_build rfl rfl rfl rfl) ?_
      | refine wpL_v rfl rfl (by decide) (OpV_max rfl rfl rfl) ?_
      | refine wpL_v rfl rfl (by decide) (OpV_min rfl rfl rfl) ?_
      | refine wpL_v rfl rfl (by decide) (OpV_nilptr rfl rfl rfl) ?_
      | refine wpL_v rfl rfl (by decide) (OpV_beq rfl rfl rfl) ?_
      | refine wpL_v rfl rfl (by decide) (OpV_bne rfl rfl rfl) ?_
      | refine wpL_v rfl rfl (by decide) (OpV_makeFunc rfl rfl) ?_
      | refine wpL_loadH 0 hG rfl rfl (by decide) rfl rfl rfl rfl ?_
      | refine wpL_loadH 1 hG rfl rfl (by decide) rfl rfl rfl rfl ?_
      | refine wpL_loadH 2 hG rfl rfl (by decide) rfl rfl rfl rfl ?_
      | refine wpL_loadH 3 hG rfl rfl (by decide) rfl rfl rfl rfl ?_
      | refine wpL_loadH 4 hG rfl rfl (by decide) rfl rfl rfl rfl ?_
      | refine wpL_loadH 5 hG rfl rfl (by decide) rfl rfl rfl rfl ?_
      | (refine wpL_storeH 0 hG rfl rfl rfl rfl rfl rfl rfl rfl rfl rfl rfl ?_; intro G hG)
      | (refine wpL_storeH 1 hG rfl rfl rfl rfl rfl rfl rfl rfl rfl rfl rfl ?_; intro G hG)
      | (refine wpL_storeH 2 hG rfl rfl rfl rfl rfl rfl rfl rfl rfl rfl rfl ?_; intro G hG)
      | (refine wpL_storeH 3 hG rfl rfl rfl rfl rfl rfl rfl rfl rfl rfl rfl ?_; intro G hG)
      | (refine wpL_storeH 4 hG rfl rfl rfl rfl rfl rfl rfl rfl rfl rfl rfl ?_; intro G hG)
      | (refine wpL_storeH 5 hG rfl rfl rfl rfl rfl rfl rfl rfl rfl rfl rfl ?_; intro G hG)
      | (refine wpL_allocH hG rfl rfl (by decide) rfl rfl ?_; intro id G hG)
      | (refine wpL_boxH hG rfl rfl (by decide) rfl rfl rfl ?_; intro id G hG)
      | (refine wpL_sliceH hG rfl rfl (by decide) rfl rfl rfl rfl rfl rfl rfl rfl ?_; intro id G hG)
      | refine wpL_gt rfl rfl rfl rfl rfl (by decide) (by first | rfl | exact decide_eq_true (by omega) | exact decide_eq_false (by omega) | exact ndec_t (by omega) | exact ndec_f (by omega)) ?_
      | refine wpL_gf rfl rfl rfl rfl rfl (by decide) (by first | rfl | exact decide_eq_true (by omega) | exact decide_eq_false (by omega) | exact ndec_t (by omega) | exact ndec_f (by omega)) ?_
      | refine wpA_ct rfl (by first | rfl | exact decide_eq_true (by omega) | exact ndec_t (by omega)) ?_
      | refine wpA_cf rfl (by first | rfl | exact decide_eq_false (by omega) | exact ndec_f (by omega)) ?_
      | refine wpA_skip ?_
      | refine wpA_exit ?_
      | refine wpA_ret ?_
      | refine x_then_exit ?_
      | refine x_then_ret ?_
      | refine x_then_normal ?_
      | refine x_block_ret ?_
      | refine x_block_normal ?_
      | refine x_block_exit ?_
      | refine x_block_other rfl ?_
      | refine wpL_v rfl rfl (by decide) (OpV_pick_t rfl rfl (ndec_t (by omega)) rfl) ?_
      | refine wpL_v rfl rfl (by decide) (OpV_pick_f rfl rfl (ndec_f (by omega)) rfl) ?_)
    refine wpA_yq mixed (by decide +kernel) ?_
    repeat (first
      | refine Y_q rfl rfl rfl (by decide) (OpV_index_tr rfl rfl rfl (by omega) (int_spot hx)) ?_
      | refine Y_q rfl rfl rfl (by decide) (OpV_cmp rfl rfl rfl (congrArg some (decide_eq_true (by omega)))) ?_
      | refine Y_q rfl rfl rfl (by decide) (OpV_cmp rfl rfl rfl (congrArg some (decide_eq_false (by omega)))) ?_
      | refine Y_q rfl rfl rfl (by decide) (OpV_cmp rfl rfl rfl (congrArg some (ndec_t (by omega)))) ?_
      | refine Y_q rfl rfl rfl (by decide) (OpV_cmp rfl rfl rfl (congrArg some (ndec_f (by omega)))) ?_
      | refine Y_q rfl rfl rfl (by decide) (OpV_move rfl rfl) ?_
      | refine Y_q rfl rfl rfl (by decide) (OpV_assign rfl rfl) ?_
      | refine Y_q rfl rfl rfl (by decide) (OpV_cmp rfl rfl rfl rfl) ?_
      | refine Y_q rfl rfl rfl (by decide) (OpV_add rfl rfl rfl (by omega)) ?_
      | refine Y_q rfl rfl rfl (by decide) (OpV_sub rfl rfl rfl (by omega)) ?_
      | refine Y_q rfl rfl rfl (by decide) (OpV_len rfl rfl rfl) ?_
      | refine Y_q rfl rfl rfl (by decide) (OpV_nilCheck rfl rfl rfl) ?_
      | refine Y_q rfl rfl rfl (by decide) (OpV_fieldAddr rfl rfl rfl rfl) ?_
      | refine Y_q rfl rfl rfl (by decide) (OpV_load rfl rfl rfl) ?_
      | refine Y_q rfl rfl rfl (by decide) (OpV_not rfl rfl) ?_
      | refine Y_q rfl rfl rfl (by decide) (OpV_extract rfl rfl rfl) ?_
      | refine Y_q rfl rfl rfl (by decide) (OpV_build rfl rfl rfl rfl) ?_
      | refine Y_q rfl rfl rfl (by decide) (OpV_max rfl rfl rfl) ?_
      | refine Y_q rfl rfl rfl (by decide) (OpV_min rfl rfl rfl) ?_
      | refine Y_q rfl rfl rfl (by decide) (OpV_nilptr rfl rfl rfl) ?_
      | refine Y_q rfl rfl rfl (by decide) (OpV_beq rfl rfl rfl) ?_
      | refine Y_q rfl rfl rfl (by decide) (OpV_bne rfl rfl rfl) ?_
      | refine Y_q rfl rfl rfl (by decide) (OpV_pick_t rfl rfl (by first | rfl | exact decide_eq_true (by omega) | exact ndec_t (by omega)) rfl) ?_
      | refine Y_q rfl rfl rfl (by decide) (OpV_pick_f rfl rfl (by first | rfl | exact decide_eq_false (by omega) | exact ndec_f (by omega)) rfl) ?_
      | refine Y_gq (OpV_cmp rfl rfl rfl (congrArg some (decide_eq_true (by omega)))) rfl (by decide) rfl rfl rfl rfl (by decide) ?_
      | refine Y_gq (OpV_cmp rfl rfl rfl (congrArg some (decide_eq_false (by omega)))) rfl (by decide) rfl rfl rfl rfl (by decide) ?_
      | refine Y_gq (OpV_cmp rfl rfl rfl (congrArg some (ndec_t (by omega)))) rfl (by decide) rfl rfl rfl rfl (by decide) ?_
      | refine Y_gq (OpV_cmp rfl rfl rfl (congrArg some (ndec_f (by omega)))) rfl (by decide) rfl rfl rfl rfl (by decide) ?_
      | refine Y_gq (OpV_move rfl rfl) rfl (by decide) rfl rfl rfl rfl (by decide) ?_
      | refine Y_gq (OpV_assign rfl rfl) rfl (by decide) rfl rfl rfl rfl (by decide) ?_
      | refine Y_gq (OpV_cmp rfl rfl rfl rfl) rfl (by decide) rfl rfl rfl rfl (by decide) ?_
      | refine Y_gq (OpV_add rfl rfl rfl (by omega)) rfl (by decide) rfl rfl rfl rfl (by decide) ?_
      | refine Y_gq (OpV_sub rfl rfl rfl (by omega)) rfl (by decide) rfl rfl rfl rfl (by decide) ?_
      | refine Y_gq (OpV_len rfl rfl rfl) rfl (by decide) rfl rfl rfl rfl (by decide) ?_
      | refine Y_gq (OpV_nilCheck rfl rfl rfl) rfl (by decide) rfl rfl rfl rfl (by decide) ?_
      | refine Y_gq (OpV_fieldAddr rfl rfl rfl rfl) rfl (by decide) rfl rfl rfl rfl (by decide) ?_
      | refine Y_gq (OpV_load rfl rfl rfl) rfl (by decide) rfl rfl rfl rfl (by decide) ?_
      | refine Y_gq (OpV_not rfl rfl) rfl (by decide) rfl rfl rfl rfl (by decide) ?_
      | refine Y_gq (OpV_extract rfl rfl rfl) rfl (by decide) rfl rfl rfl rfl (by decide) ?_
      | refine Y_gq (OpV_build rfl rfl rfl rfl) rfl (by decide) rfl rfl rfl rfl (by decide) ?_
      | refine Y_gq (OpV_max rfl rfl rfl) rfl (by decide) rfl rfl rfl rfl (by decide) ?_
      | refine Y_gq (OpV_min rfl rfl rfl) rfl (by decide) rfl rfl rfl rfl (by decide) ?_
      | refine Y_gq (OpV_nilptr rfl rfl rfl) rfl (by decide) rfl rfl rfl rfl (by decide) ?_
      | refine Y_gq (OpV_beq rfl rfl rfl) rfl (by decide) rfl rfl rfl rfl (by decide) ?_
      | refine Y_gq (OpV_bne rfl rfl rfl) rfl (by decide) rfl rfl rfl rfl (by decide) ?_
      | refine Y_gq (OpV_pick_t rfl rfl (by first | rfl | exact decide_eq_true (by omega) | exact ndec_t (by omega)) rfl) rfl (by decide) rfl rfl rfl rfl (by decide) ?_
      | refine Y_gq (OpV_pick_f rfl rfl (by first | rfl | exact decide_eq_false (by omega) | exact ndec_f (by omega)) rfl) rfl (by decide) rfl rfl rfl rfl (by decide) ?_
      | refine Y_gn rfl (by decide) rfl rfl rfl rfl rfl (by decide) ?_
      | refine Y_end ?_)
    repeat (first
      | refine wpL_end ?_
      | refine wpL_nil ?_
      | refine wpA_seq ?_
      | refine wpA_region ?_
      | refine wpA_block ?_
      | refine wpL_v rfl rfl (by decide) (OpV_cmp rfl rfl rfl (congrArg some (decide_eq_true (by omega)))) ?_
      | refine wpL_v rfl rfl (by decide) (OpV_cmp rfl rfl rfl (congrArg some (decide_eq_false (by omega)))) ?_
      | refine wpL_v rfl rfl (by decide) (OpV_cmp rfl rfl rfl (congrArg some (ndec_t (by omega)))) ?_
      | refine wpL_v rfl rfl (by decide) (OpV_cmp rfl rfl rfl (congrArg some (ndec_f (by omega)))) ?_
      | refine wpL_v rfl rfl (by decide) (OpV_move rfl rfl) ?_
      | refine wpL_v rfl rfl (by decide) (OpV_assign rfl rfl) ?_
      | refine wpL_v rfl rfl (by decide) (OpV_cmp rfl rfl rfl rfl) ?_
      | refine wpL_v rfl rfl (by decide) (OpV_add rfl rfl rfl (by omega)) ?_
      | refine wpL_v rfl rfl (by decide) (OpV_sub rfl rfl rfl (by omega)) ?_
      | refine wpL_v rfl rfl (by decide) (OpV_len rfl rfl rfl) ?_
      | refine wpL_v rfl rfl (by decide) (OpV_nilCheck rfl rfl rfl) ?_
      | refine wpL_v rfl rfl (by decide) (OpV_fieldAddr rfl rfl rfl rfl) ?_
      | refine wpL_v rfl rfl (by decide) (OpV_load rfl rfl rfl) ?_
      | refine wpL_v rfl rfl (by decide) (OpV_not rfl rfl) ?_
      | refine wpL_v rfl rfl (by decide) (OpV_extract rfl rfl rfl) ?_
      | refine wpL_v rfl rfl (by decide) (OpV_pick_t rfl rfl (by first | rfl | exact decide_eq_true (by omega)) rfl) ?_
      | refine wpL_v rfl rfl (by decide) (OpV_pick_f rfl rfl (by first | rfl | exact decide_eq_false (by omega)) rfl) ?_
      | refine wpL_v rfl rfl (by decide) (OpV_build rfl rfl rfl rfl) ?_
      | refine wpL_v rfl rfl (by decide) (OpV_max rfl rfl rfl) ?_
      | refine wpL_v rfl rfl (by decide) (OpV_min rfl rfl rfl) ?_
      | refine wpL_v rfl rfl (by decide) (OpV_nilptr rfl rfl rfl) ?_
      | refine wpL_v rfl rfl (by decide) (OpV_beq rfl rfl rfl) ?_
      | refine wpL_v rfl rfl (by decide) (OpV_bne rfl rfl rfl) ?_
      | refine wpL_v rfl rfl (by decide) (OpV_makeFunc rfl rfl) ?_
      | refine wpL_loadH 0 hG rfl rfl (by decide) rfl rfl rfl rfl ?_
      | refine wpL_loadH 1 hG rfl rfl (by decide) rfl rfl rfl rfl ?_
      | refine wpL_loadH 2 hG rfl rfl (by decide) rfl rfl rfl rfl ?_
      | refine wpL_loadH 3 hG rfl rfl (by decide) rfl rfl rfl rfl ?_
      | refine wpL_loadH 4 hG rfl rfl (by decide) rfl rfl rfl rfl ?_
      | refine wpL_loadH 5 hG rfl rfl (by decide) rfl rfl rfl rfl ?_
      | (refine wpL_storeH 0 hG rfl rfl rfl rfl rfl rfl rfl rfl rfl rfl rfl ?_; intro G hG)
      | (refine wpL_storeH 1 hG rfl rfl rfl rfl rfl rfl rfl rfl rfl rfl rfl ?_; intro G hG)
      | (refine wpL_storeH 2 hG rfl rfl rfl rfl rfl rfl rfl rfl rfl rfl rfl ?_; intro G hG)
      | (refine wpL_storeH 3 hG rfl rfl rfl rfl rfl rfl rfl rfl rfl rfl rfl ?_; intro G hG)
      | (refine wpL_storeH 4 hG rfl rfl rfl rfl rfl rfl rfl rfl rfl rfl rfl ?_; intro G hG)
      | (refine wpL_storeH 5 hG rfl rfl rfl rfl rfl rfl rfl rfl rfl rfl rfl ?_; intro G hG)
      | (refine wpL_allocH hG rfl rfl (by decide) rfl rfl ?_; intro id G hG)
      | (refine wpL_boxH hG rfl rfl (by decide) rfl rfl rfl ?_; intro id G hG)
      | (refine wpL_sliceH hG rfl rfl (by decide) rfl rfl rfl rfl rfl rfl rfl rfl ?_; intro id G hG)
      | refine wpL_gt rfl rfl rfl rfl rfl (by decide) (by first | rfl | exact decide_eq_true (by omega) | exact decide_eq_false (by omega) | exact ndec_t (by omega) | exact ndec_f (by omega)) ?_
      | refine wpL_gf rfl rfl rfl rfl rfl (by decide) (by first | rfl | exact decide_eq_true (by omega) | exact decide_eq_false (by omega) | exact ndec_t (by omega) | exact ndec_f (by omega)) ?_
      | refine wpA_ct rfl (by first | rfl | exact decide_eq_true (by omega) | exact ndec_t (by omega)) ?_
      | refine wpA_cf rfl (by first | rfl | exact decide_eq_false (by omega) | exact ndec_f (by omega)) ?_
      | refine wpA_skip ?_
      | refine wpA_exit ?_
      | refine wpA_ret ?_
      | refine x_then_exit ?_
      | refine x_then_ret ?_
      | refine x_then_normal ?_
      | refine x_block_ret ?_
      | refine x_block_normal ?_
      | refine x_block_exit ?_
      | refine x_block_other rfl ?_
      | refine wpL_v rfl rfl (by decide) (OpV_pick_t rfl rfl (ndec_t (by omega)) rfl) ?_
      | refine wpL_v rfl rfl (by decide) (OpV_pick_f rfl rfl (ndec_f (by omega)) rfl) ?_)
    exact ⟨i + 1, by omega, .cons rfl (.cons rfl (.cons rfl (.nil _))), by omega⟩
  · repeat (first
      | refine wpL_end ?_
      | refine wpL_nil ?_
      | refine wpA_seq ?_
      | refine wpA_region ?_
      | refine wpA_block ?_
      | refine wpL_v rfl rfl (by decide) (OpV_cmp rfl rfl rfl (congrArg some (decide_eq_true (by omega)))) ?_
      | refine wpL_v rfl rfl (by decide) (OpV_cmp rfl rfl rfl (congrArg some (decide_eq_false (by omega)))) ?_
      | refine wpL_v rfl rfl (by decide) (OpV_cmp rfl rfl rfl (congrArg some (ndec_t (by omega)))) ?_
      | refine wpL_v rfl rfl (by decide) (OpV_cmp rfl rfl rfl (congrArg some (ndec_f (by omega)))) ?_
      | refine wpL_v rfl rfl (by decide) (OpV_move rfl rfl) ?_
      | refine wpL_v rfl rfl (by decide) (OpV_assign rfl rfl) ?_
      | refine wpL_v rfl rfl (by decide) (OpV_cmp rfl rfl rfl rfl) ?_
      | refine wpL_v rfl rfl (by decide) (OpV_add rfl rfl rfl (by omega)) ?_
      | refine wpL_v rfl rfl (by decide) (OpV_sub rfl rfl rfl (by omega)) ?_
      | refine wpL_v rfl rfl (by decide) (OpV_len rfl rfl rfl) ?_
      | refine wpL_v rfl rfl (by decide) (OpV_nilCheck rfl rfl rfl) ?_
      | refine wpL_v rfl rfl (by decide) (OpV_fieldAddr rfl rfl rfl rfl) ?_
      | refine wpL_v rfl rfl (by decide) (OpV_load rfl rfl rfl) ?_
      | refine wpL_v rfl rfl (by decide) (OpV_not rfl rfl) ?_
      | refine wpL_v rfl rfl (by decide) (OpV_extract rfl rfl rfl) ?_
      | refine wpL_v rfl rfl (by decide) (OpV_pick_t rfl rfl (by first | rfl | exact decide_eq_true (by omega)) rfl) ?_
      | refine wpL_v rfl rfl (by decide) (OpV_pick_f rfl rfl (by first | rfl | exact decide_eq_false (by omega)) rfl) ?_
      | refine wpL_v rfl rfl (by decide) (OpV_build rfl rfl rfl rfl) ?_
      | refine wpL_v rfl rfl (by decide) (OpV_max rfl rfl rfl) ?_
      | refine wpL_v rfl rfl (by decide) (OpV_min rfl rfl rfl) ?_
      | refine wpL_v rfl rfl (by decide) (OpV_nilptr rfl rfl rfl) ?_
      | refine wpL_v rfl rfl (by decide) (OpV_beq rfl rfl rfl) ?_
      | refine wpL_v rfl rfl (by decide) (OpV_bne rfl rfl rfl) ?_
      | refine wpL_v rfl rfl (by decide) (OpV_makeFunc rfl rfl) ?_
      | refine wpL_loadH 0 hG rfl rfl (by decide) rfl rfl rfl rfl ?_
      | refine wpL_loadH 1 hG rfl rfl (by decide) rfl rfl rfl rfl ?_
      | refine wpL_loadH 2 hG rfl rfl (by decide) rfl rfl rfl rfl ?_
      | refine wpL_loadH 3 hG rfl rfl (by decide) rfl rfl rfl rfl ?_
      | refine wpL_loadH 4 hG rfl rfl (by decide) rfl rfl rfl rfl ?_
      | refine wpL_loadH 5 hG rfl rfl (by decide) rfl rfl rfl rfl ?_
      | (refine wpL_storeH 0 hG rfl rfl rfl rfl rfl rfl rfl rfl rfl rfl rfl ?_; intro G hG)
      | (refine wpL_storeH 1 hG rfl rfl rfl rfl rfl rfl rfl rfl rfl rfl rfl ?_; intro G hG)
      | (refine wpL_storeH 2 hG rfl rfl rfl rfl rfl rfl rfl rfl rfl rfl rfl ?_; intro G hG)
      | (refine wpL_storeH 3 hG rfl rfl rfl rfl rfl rfl rfl rfl rfl rfl rfl ?_; intro G hG)
      | (refine wpL_storeH 4 hG rfl rfl rfl rfl rfl rfl rfl rfl rfl rfl rfl ?_; intro G hG)
      | (refine wpL_storeH 5 hG rfl rfl rfl rfl rfl rfl rfl rfl rfl rfl rfl ?_; intro G hG)
      | (refine wpL_allocH hG rfl rfl (by decide) rfl rfl ?_; intro id G hG)
      | (refine wpL_boxH hG rfl rfl (by decide) rfl rfl rfl ?_; intro id G hG)
      | (refine wpL_sliceH hG rfl rfl (by decide) rfl rfl rfl rfl rfl rfl rfl rfl ?_; intro id G hG)
      | refine wpL_gt rfl rfl rfl rfl rfl (by decide) (by first | rfl | exact decide_eq_true (by omega) | exact decide_eq_false (by omega) | exact ndec_t (by omega) | exact ndec_f (by omega)) ?_
      | refine wpL_gf rfl rfl rfl rfl rfl (by decide) (by first | rfl | exact decide_eq_true (by omega) | exact decide_eq_false (by omega) | exact ndec_t (by omega) | exact ndec_f (by omega)) ?_
      | refine wpA_ct rfl (by first | rfl | exact decide_eq_true (by omega) | exact ndec_t (by omega)) ?_
      | refine wpA_cf rfl (by first | rfl | exact decide_eq_false (by omega) | exact ndec_f (by omega)) ?_
      | refine wpA_skip ?_
      | refine wpA_exit ?_
      | refine wpA_ret ?_
      | refine x_then_exit ?_
      | refine x_then_ret ?_
      | refine x_then_normal ?_
      | refine x_block_ret ?_
      | refine x_block_normal ?_
      | refine x_block_exit ?_
      | refine x_block_other rfl ?_
      | refine wpL_v rfl rfl (by decide) (OpV_pick_t rfl rfl (ndec_t (by omega)) rfl) ?_
      | refine wpL_v rfl rfl (by decide) (OpV_pick_f rfl rfl (ndec_f (by omega)) rfl) ?_)
    exact postI_1 rfl rfl (.refl _) (.v _) rfl
end Go.Proofs.Ytpkeceifnmmhcaa
