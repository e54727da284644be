/- The walk of known. -/
import Derived.Test.YtpkeceifnmmhcaaPgM
namespace Go.Proofs.Ytpkeceifnmmhcaa
open Go.RowKit Go.Th
set_option linter.unusedVariables false
set_option maxRecDepth 20000

set_option maxHeartbeats 4000000 in
theorem known_iso : Iso Try.prog 14 [] (fun p => p = B true) := by
  have hG := has_nil
  refine Iso_enter Try.func14 rfl rfl rfl ?_
  refine wpA_seq ?_
  repeat (first
    | refine wpL_end ?_
    | refine wpL_nil ?_
    | refine wpA_seq ?_
    | refine wpA_region ?_
    | refine wpA_block ?_
    | refine wpL_v rfl rfl (by decide) (OpV_move rfl rfl) ?_
    | refine wpL_v rfl rfl (by decide) (OpV_assign rfl rfl) ?_
    | refine wpL_v rfl rfl (by decide) (OpV_cmp rfl rfl rfl rfl) ?_
    | refine wpL_v rfl rfl (by decide) (OpV_add rfl rfl rfl (by omega)) ?_
    | refine wpL_v rfl rfl (by decide) (OpV_sub rfl rfl rfl (by omega)) ?_
    | refine wpL_v rfl rfl (by decide) (OpV_len rfl rfl rfl) ?_
    | refine wpL_v rfl rfl (by decide) (OpV_nilCheck rfl rfl rfl) ?_
    | refine wpL_v rfl rfl (by decide) (OpV_fieldAddr rfl rfl rfl rfl) ?_
    | refine wpL_v rfl rfl (by decide) (OpV_load rfl rfl rfl) ?_
    | refine wpL_v rfl rfl (by decide) (OpV_not rfl rfl) ?_
    | refine wpL_v rfl rfl (by decide) (OpV_extract rfl rfl rfl) ?_
    | refine wpL_v rfl rfl (by decide) (OpV_pick_t rfl rfl (by first | rfl | exact decide_eq_true (by omega)) rfl) ?_
    | refine wpL_v rfl rfl (by decide) (OpV_pick_f rfl rfl (by first | rfl | exact decide_eq_false (by omega)) rfl) ?_
    | refine wpL_v rfl rfl (by decide) (OpV_build rfl rfl rfl rfl) ?_
    | refine wpL_v rfl rfl (by decide) (OpV_max rfl rfl rfl) ?_
    | refine wpL_v rfl rfl (by decide) (OpV_min rfl rfl rfl) ?_
    | refine wpL_v rfl rfl (by decide) (OpV_nilptr rfl rfl rfl) ?_
    | refine wpL_v rfl rfl (by decide) (OpV_beq rfl rfl rfl) ?_
    | refine wpL_v rfl rfl (by decide) (OpV_bne rfl rfl rfl) ?_
    | refine wpL_v rfl rfl (by decide) (OpV_makeFunc rfl rfl) ?_
    | refine wpL_loadH 0 hG rfl rfl (by decide) rfl rfl rfl rfl ?_
    | refine wpL_loadH 1 hG rfl rfl (by decide) rfl rfl rfl rfl ?_
    | refine wpL_loadH 2 hG rfl rfl (by decide) rfl rfl rfl rfl ?_
    | refine wpL_loadH 3 hG rfl rfl (by decide) rfl rfl rfl rfl ?_
    | refine wpL_loadH 4 hG rfl rfl (by decide) rfl rfl rfl rfl ?_
    | refine wpL_loadH 5 hG rfl rfl (by decide) rfl rfl rfl rfl ?_
    | (refine wpL_storeH 0 hG rfl rfl rfl rfl rfl rfl rfl rfl rfl rfl rfl ?_; intro G hG)
    | (refine wpL_storeH 1 hG rfl rfl rfl rfl rfl rfl rfl rfl rfl rfl rfl ?_; intro G hG)
    | (refine wpL_storeH 2 hG rfl rfl rfl rfl rfl rfl rfl rfl rfl rfl rfl ?_; intro G hG)
    | (refine wpL_storeH 3 hG rfl rfl rfl rfl rfl rfl rfl rfl rfl rfl rfl ?_; intro G hG)
    | (refine wpL_storeH 4 hG rfl rfl rfl rfl rfl rfl rfl rfl rfl rfl rfl ?_; intro G hG)
    | (refine wpL_storeH 5 hG rfl rfl rfl rfl rfl rfl rfl rfl rfl rfl rfl ?_; intro G hG)
    | (refine wpL_allocH hG rfl rfl (by decide) rfl rfl ?_; intro id G hG)
    | (refine wpL_boxH hG rfl rfl (by decide) rfl rfl rfl ?_; intro id G hG)
    | (refine wpL_sliceH hG rfl rfl (by decide) rfl rfl rfl rfl rfl rfl rfl rfl ?_; intro id G hG)
    | refine wpL_gt rfl rfl rfl rfl rfl (by decide) (by first | rfl | exact decide_eq_true (by omega) | exact decide_eq_false (by omega) | exact ndec_t (by omega) | exact ndec_f (by omega)) ?_
    | refine wpL_gf rfl rfl rfl rfl rfl (by decide) (by first | rfl | exact decide_eq_true (by omega) | exact decide_eq_false (by omega) | exact ndec_t (by omega) | exact ndec_f (by omega)) ?_
    | refine wpA_ct rfl (by first | rfl | exact decide_eq_true (by omega) | exact ndec_t (by omega)) ?_
    | refine wpA_cf rfl (by first | rfl | exact decide_eq_false (by omega) | exact ndec_f (by omega)) ?_
    | refine wpA_skip ?_
    | refine wpA_exit ?_
    | refine wpA_ret ?_
    | refine x_then_exit ?_
    | refine x_then_ret ?_
    | refine x_then_normal ?_
    | refine x_block_ret ?_
    | refine x_block_normal ?_
    | refine x_block_exit ?_
    | refine x_block_other rfl ?_
    | refine wpL_v rfl rfl (by decide) (OpV_pick_t rfl rfl (ndec_t (by omega)) rfl) ?_
    | refine wpL_v rfl rfl (by decide) (OpV_pick_f rfl rfl (ndec_f (by omega)) rfl) ?_)
  refine wpA_ghostH 1 43 12 hG rfl ?_
  intro o0 G hG
  refine wpA_loopS (S := Nat × Nat) (fun x => [(1, .sl x.2 0 x.1 12), (2, I x.1)])
    (fun x G => x.1 ≤ 5 ∧ Has G [(x.2, Blk.mk ((kl x.1).flatMap encNil) 43 true)]) (fun x => 5 - x.1) (0, o0)
    (.cons rfl (.cons rfl (.nil _))) ⟨by omega, hG⟩ ?_
  rintro ⟨k, o⟩ G ⟨hk, hG⟩
  dsimp only at hk hG ⊢
  have c1 : ((kl k).flatMap encNil).length = k * 12 := by rw [flat_len (f := encNil) (k := 12) (fun _ => rfl), kl_len]
  by_cases hk5 : k < 5
  · have d1 : (kl (k + 1)).flatMap encNil = (kl k).flatMap encNil ++ encNil (kp k) := by rw [kl_succ]; simp
    rcases (show k = 0 ∨ k = 1 ∨ k = 2 ∨ k = 3 ∨ k = 4 from by omega) with rfl | rfl | rfl | rfl | rfl
    all_goals
      repeat (first
        | refine wpL_end ?_
        | refine wpL_nil ?_
        | refine wpA_seq ?_
        | refine wpA_region ?_
        | refine wpA_block ?_
        | (refine wpL_appendH 1 hG rfl rfl (by decide) rfl rfl rfl rfl rfl rfl c1 rfl (hG.cellsOf (k := 0) rfl rfl) rfl (by omega) (by omega) ?_; intro o2 G hG)
        | refine wpL_v rfl rfl (by decide) (OpV_move rfl rfl) ?_
        | refine wpL_v rfl rfl (by decide) (OpV_assign rfl rfl) ?_
        | refine wpL_v rfl rfl (by decide) (OpV_cmp rfl rfl rfl rfl) ?_
        | refine wpL_v rfl rfl (by decide) (OpV_add rfl rfl rfl (by omega)) ?_
        | refine wpL_v rfl rfl (by decide) (OpV_sub rfl rfl rfl (by omega)) ?_
        | refine wpL_v rfl rfl (by decide) (OpV_len rfl rfl rfl) ?_
        | refine wpL_v rfl rfl (by decide) (OpV_nilCheck rfl rfl rfl) ?_
        | refine wpL_v rfl rfl (by decide) (OpV_fieldAddr rfl rfl rfl rfl) ?_
        | refine wpL_v rfl rfl (by decide) (OpV_load rfl rfl rfl) ?_
        | refine wpL_v rfl rfl (by decide) (OpV_not rfl rfl) ?_
        | refine wpL_v rfl rfl (by decide) (OpV_extract rfl rfl rfl) ?_
        | refine wpL_v rfl rfl (by decide) (OpV_pick_t rfl rfl (by first | rfl | exact decide_eq_true (by omega)) rfl) ?_
        | refine wpL_v rfl rfl (by decide) (OpV_pick_f rfl rfl (by first | rfl | exact decide_eq_false (by omega)) rfl) ?_
        | refine wpL_v rfl rfl (by decide) (OpV_build rfl rfl rfl rfl) ?_
        | refine wpL_v rfl rfl (by decide) (OpV_max rfl rfl rfl) ?_
        | refine wpL_v rfl rfl (by decide) (OpV_min rfl rfl rfl) ?_
        | refine wpL_v rfl rfl (by decide) (OpV_nilptr rfl rfl rfl) ?_
        | refine wpL_v rfl rfl (by decide) (OpV_beq rfl rfl rfl) ?_
        | refine wpL_v rfl rfl (by decide) (OpV_bne rfl rfl rfl) ?_
        | refine wpL_v rfl rfl (by decide) (OpV_makeFunc rfl rfl) ?_
        | refine wpL_loadH 0 hG rfl rfl (by decide) rfl rfl rfl rfl ?_
        | refine wpL_loadH 1 hG rfl rfl (by decide) rfl rfl rfl rfl ?_
        | refine wpL_loadH 2 hG rfl rfl (by decide) rfl rfl rfl rfl ?_
        | refine wpL_loadH 3 hG rfl rfl (by decide) rfl rfl rfl rfl ?_
        | refine wpL_loadH 4 hG rfl rfl (by decide) rfl rfl rfl rfl ?_
        | refine wpL_loadH 5 hG rfl rfl (by decide) rfl rfl rfl rfl ?_
        | (refine wpL_storeH 0 hG rfl rfl rfl rfl rfl rfl rfl rfl rfl rfl rfl ?_; intro G hG)
        | (refine wpL_storeH 1 hG rfl rfl rfl rfl rfl rfl rfl rfl rfl rfl rfl ?_; intro G hG)
        | (refine wpL_storeH 2 hG rfl rfl rfl rfl rfl rfl rfl rfl rfl rfl rfl ?_; intro G hG)
        | (refine wpL_storeH 3 hG rfl rfl rfl rfl rfl rfl rfl rfl rfl rfl rfl ?_; intro G hG)
        | (refine wpL_storeH 4 hG rfl rfl rfl rfl rfl rfl rfl rfl rfl rfl rfl ?_; intro G hG)
        | (refine wpL_storeH 5 hG rfl rfl rfl rfl rfl rfl rfl rfl rfl rfl rfl ?_; intro G hG)
        | (refine wpL_allocH hG rfl rfl (by decide) rfl rfl ?_; intro id G hG)
        | (refine wpL_boxH hG rfl rfl (by decide) rfl rfl rfl ?_; intro id G hG)
        | (refine wpL_sliceH hG rfl rfl (by decide) rfl rfl rfl rfl rfl rfl rfl rfl ?_; intro id G hG)
        | refine wpL_gt rfl rfl rfl rfl rfl (by decide) (by first | rfl | exact decide_eq_true (by omega) | exact decide_eq_false (by omega) | exact ndec_t (by omega) | exact ndec_f (by omega)) ?_
        | refine wpL_gf rfl rfl rfl rfl rfl (by decide) (by first | rfl | exact decide_eq_true (by omega) | exact decide_eq_false (by omega) | exact ndec_t (by omega) | exact ndec_f (by omega)) ?_
        | refine wpA_ct rfl (by first | rfl | exact decide_eq_true (by omega) | exact ndec_t (by omega)) ?_
        | refine wpA_cf rfl (by first | rfl | exact decide_eq_false (by omega) | exact ndec_f (by omega)) ?_
        | refine wpA_skip ?_
        | refine wpA_exit ?_
        | refine wpA_ret ?_
        | refine x_then_exit ?_
        | refine x_then_ret ?_
        | refine x_then_normal ?_
        | refine x_block_ret ?_
        | refine x_block_normal ?_
        | refine x_block_exit ?_
        | refine x_block_other rfl ?_
        | refine wpL_v rfl rfl (by decide) (OpV_pick_t rfl rfl (ndec_t (by omega)) rfl) ?_
        | refine wpL_v rfl rfl (by decide) (OpV_pick_f rfl rfl (ndec_f (by omega)) rfl) ?_)
      refine ⟨(_, o2), ?_, .cons rfl (.cons rfl (.nil _)), ?_, ?_⟩
      · dsimp only; omega
      · dsimp only; omega
      · dsimp only
        rw [d1]
        exact hG.pick [1] (by decide) rfl
  · have hk' : k = 5 := by omega
    subst hk'
    refine wpA_altC 0 hG rfl (wk_nil _ (kl_feet 5)) ?_
    intro G hG
    have c2 : ((kl 5).flatMap encPiece).length = 5 * 12 := by rw [flat_len encPiece_len, kl_len]
    refine wpA_freeze 1 rfl (hG.get 0 _ _ rfl) (takeN_all c2) ?_
    have hG := hG.forget
    have hb := Breaks_ok (kl 5) 1200 kl_ok (by omega)
    rw [kl_breaks] at hb
    repeat (first
      | refine wpL_end ?_
      | refine wpL_nil ?_
      | refine wpA_seq ?_
      | refine wpA_region ?_
      | refine wpA_block ?_
      | (refine wpL_is rfl rfl rfl rfl rfl rfl (by decide) hb (TreeL.cons (tree_pcs (kl 5)) (TreeL.cons (tree_I 1200) TreeL.nil)) ?_; rintro _ rfl)
      | refine wpL_v rfl rfl (by decide) (OpV_move rfl rfl) ?_
      | refine wpL_v rfl rfl (by decide) (OpV_assign rfl rfl) ?_
      | refine wpL_v rfl rfl (by decide) (OpV_cmp rfl rfl rfl rfl) ?_
      | refine wpL_v rfl rfl (by decide) (OpV_add rfl rfl rfl (by omega)) ?_
      | refine wpL_v rfl rfl (by decide) (OpV_sub rfl rfl rfl (by omega)) ?_
      | refine wpL_v rfl rfl (by decide) (OpV_len rfl rfl rfl) ?_
      | refine wpL_v rfl rfl (by decide) (OpV_nilCheck rfl rfl rfl) ?_
      | refine wpL_v rfl rfl (by decide) (OpV_fieldAddr rfl rfl rfl rfl) ?_
      | refine wpL_v rfl rfl (by decide) (OpV_load rfl rfl rfl) ?_
      | refine wpL_v rfl rfl (by decide) (OpV_not rfl rfl) ?_
      | refine wpL_v rfl rfl (by decide) (OpV_extract rfl rfl rfl) ?_
      | refine wpL_v rfl rfl (by decide) (OpV_pick_t rfl rfl (by first | rfl | exact decide_eq_true (by omega)) rfl) ?_
      | refine wpL_v rfl rfl (by decide) (OpV_pick_f rfl rfl (by first | rfl | exact decide_eq_false (by omega)) rfl) ?_
      | refine wpL_v rfl rfl (by decide) (OpV_build rfl rfl rfl rfl) ?_
      | refine wpL_v rfl rfl (by decide) (OpV_max rfl rfl rfl) ?_
      | refine wpL_v rfl rfl (by decide) (OpV_min rfl rfl rfl) ?_
      | refine wpL_v rfl rfl (by decide) (OpV_nilptr rfl rfl rfl) ?_
      | refine wpL_v rfl rfl (by decide) (OpV_beq rfl rfl rfl) ?_
      | refine wpL_v rfl rfl (by decide) (OpV_bne rfl rfl rfl) ?_
      | refine wpL_v rfl rfl (by decide) (OpV_makeFunc rfl rfl) ?_
      | refine wpL_loadH 0 hG rfl rfl (by decide) rfl rfl rfl rfl ?_
      | refine wpL_loadH 1 hG rfl rfl (by decide) rfl rfl rfl rfl ?_
      | refine wpL_loadH 2 hG rfl rfl (by decide) rfl rfl rfl rfl ?_
      | refine wpL_loadH 3 hG rfl rfl (by decide) rfl rfl rfl rfl ?_
      | refine wpL_loadH 4 hG rfl rfl (by decide) rfl rfl rfl rfl ?_
      | refine wpL_loadH 5 hG rfl rfl (by decide) rfl rfl rfl rfl ?_
      | (refine wpL_storeH 0 hG rfl rfl rfl rfl rfl rfl rfl rfl rfl rfl rfl ?_; intro G hG)
      | (refine wpL_storeH 1 hG rfl rfl rfl rfl rfl rfl rfl rfl rfl rfl rfl ?_; intro G hG)
      | (refine wpL_storeH 2 hG rfl rfl rfl rfl rfl rfl rfl rfl rfl rfl rfl ?_; intro G hG)
      | (refine wpL_storeH 3 hG rfl rfl rfl rfl rfl rfl rfl rfl rfl rfl rfl ?_; intro G hG)
      | (refine wpL_storeH 4 hG rfl rfl rfl rfl rfl rfl rfl rfl rfl rfl rfl ?_; intro G hG)
      | (refine wpL_storeH 5 hG rfl rfl rfl rfl rfl rfl rfl rfl rfl rfl rfl ?_; intro G hG)
      | (refine wpL_allocH hG rfl rfl (by decide) rfl rfl ?_; intro id G hG)
      | (refine wpL_boxH hG rfl rfl (by decide) rfl rfl rfl ?_; intro id G hG)
      | (refine wpL_sliceH hG rfl rfl (by decide) rfl rfl rfl rfl rfl rfl rfl rfl ?_; intro id G hG)
      | refine wpL_gt rfl rfl rfl rfl rfl (by decide) (by first | rfl | exact decide_eq_true (by omega) | exact decide_eq_false (by omega) | exact ndec_t (by omega) | exact ndec_f (by omega)) ?_
      | refine wpL_gf rfl rfl rfl rfl rfl (by decide) (by first | rfl | exact decide_eq_true (by omega) | exact decide_eq_false (by omega) | exact ndec_t (by omega) | exact ndec_f (by omega)) ?_
      | refine wpA_ct rfl (by first | rfl | exact decide_eq_true (by omega) | exact ndec_t (by omega)) ?_
      | refine wpA_cf rfl (by first | rfl | exact decide_eq_false (by omega) | exact ndec_f (by omega)) ?_
      | refine wpA_skip ?_
      | refine wpA_exit ?_
      | refine wpA_ret ?_
      | refine x_then_exit ?_
      | refine x_then_ret ?_
      | refine x_then_normal ?_
      | refine x_block_ret ?_
      | refine x_block_normal ?_
      | refine x_block_exit ?_
      | refine x_block_other rfl ?_
      | refine wpL_v rfl rfl (by decide) (OpV_pick_t rfl rfl (ndec_t (by omega)) rfl) ?_
      | refine wpL_v rfl rfl (by decide) (OpV_pick_f rfl rfl (ndec_f (by omega)) rfl) ?_)
    refine wpL_altC 0 hG rfl (wk_nil rowsL (fun p hp => by simp only [rowsL, List.mem_cons, List.not_mem_nil, or_false] at hp; rcases hp with rfl | rfl | rfl | rfl | rfl <;> rfl)) ?_
    intro G hG
    refine wpL_freeze 35 rfl (hG.get 0 _ _ rfl) (takeN_all (n := 60) rfl) ?_
    have hG := hG.forget
    have hp := Place_main rowsL 3 2 100 1300 rows_ok (by omega) (by decide) (by omega) (by omega) (by omega)
    rw [rows_place] at hp
    refine wpL_is rfl rfl rfl rfl rfl rfl (by decide) hp (TreeL.cons (tree_pcs rowsL) (TreeL.cons (tree_I _) (TreeL.cons (tree_I _) (TreeL.cons (tree_I _) (TreeL.cons (tree_I _) TreeL.nil))))) ?_
    rintro _ rfl
    repeat (first
      | refine wpL_end ?_
      | refine wpL_nil ?_
      | refine wpA_seq ?_
      | refine wpA_region ?_
      | refine wpA_block ?_
      | refine wpL_v rfl rfl (by decide) (OpV_index_tr rfl rfl rfl (by decide) rfl) ?_
      | refine wpL_v rfl rfl (by decide) (OpV_move rfl rfl) ?_
      | refine wpL_v rfl rfl (by decide) (OpV_assign rfl rfl) ?_
      | refine wpL_v rfl rfl (by decide) (OpV_cmp rfl rfl rfl rfl) ?_
      | refine wpL_v rfl rfl (by decide) (OpV_add rfl rfl rfl (by omega)) ?_
      | refine wpL_v rfl rfl (by decide) (OpV_sub rfl rfl rfl (by omega)) ?_
      | refine wpL_v rfl rfl (by decide) (OpV_len rfl rfl rfl) ?_
      | refine wpL_v rfl rfl (by decide) (OpV_nilCheck rfl rfl rfl) ?_
      | refine wpL_v rfl rfl (by decide) (OpV_fieldAddr rfl rfl rfl rfl) ?_
      | refine wpL_v rfl rfl (by decide) (OpV_load rfl rfl rfl) ?_
      | refine wpL_v rfl rfl (by decide) (OpV_not rfl rfl) ?_
      | refine wpL_v rfl rfl (by decide) (OpV_extract rfl rfl rfl) ?_
      | refine wpL_v rfl rfl (by decide) (OpV_pick_t rfl rfl (by first | rfl | exact decide_eq_true (by omega)) rfl) ?_
      | refine wpL_v rfl rfl (by decide) (OpV_pick_f rfl rfl (by first | rfl | exact decide_eq_false (by omega)) rfl) ?_
      | refine wpL_v rfl rfl (by decide) (OpV_build rfl rfl rfl rfl) ?_
      | refine wpL_v rfl rfl (by decide) (OpV_max rfl rfl rfl) ?_
      | refine wpL_v rfl rfl (by decide) (OpV_min rfl rfl rfl) ?_
      | refine wpL_v rfl rfl (by decide) (OpV_nilptr rfl rfl rfl) ?_
      | refine wpL_v rfl rfl (by decide) (OpV_beq rfl rfl rfl) ?_
      | refine wpL_v rfl rfl (by decide) (OpV_bne rfl rfl rfl) ?_
      | refine wpL_v rfl rfl (by decide) (OpV_makeFunc rfl rfl) ?_
      | refine wpL_loadH 0 hG rfl rfl (by decide) rfl rfl rfl rfl ?_
      | refine wpL_loadH 1 hG rfl rfl (by decide) rfl rfl rfl rfl ?_
      | refine wpL_loadH 2 hG rfl rfl (by decide) rfl rfl rfl rfl ?_
      | refine wpL_loadH 3 hG rfl rfl (by decide) rfl rfl rfl rfl ?_
      | refine wpL_loadH 4 hG rfl rfl (by decide) rfl rfl rfl rfl ?_
      | refine wpL_loadH 5 hG rfl rfl (by decide) rfl rfl rfl rfl ?_
      | (refine wpL_storeH 0 hG rfl rfl rfl rfl rfl rfl rfl rfl rfl rfl rfl ?_; intro G hG)
      | (refine wpL_storeH 1 hG rfl rfl rfl rfl rfl rfl rfl rfl rfl rfl rfl ?_; intro G hG)
      | (refine wpL_storeH 2 hG rfl rfl rfl rfl rfl rfl rfl rfl rfl rfl rfl ?_; intro G hG)
      | (refine wpL_storeH 3 hG rfl rfl rfl rfl rfl rfl rfl rfl rfl rfl rfl ?_; intro G hG)
      | (refine wpL_storeH 4 hG rfl rfl rfl rfl rfl rfl rfl rfl rfl rfl rfl ?_; intro G hG)
      | (refine wpL_storeH 5 hG rfl rfl rfl rfl rfl rfl rfl rfl rfl rfl rfl ?_; intro G hG)
      | (refine wpL_allocH hG rfl rfl (by decide) rfl rfl ?_; intro id G hG)
      | (refine wpL_boxH hG rfl rfl (by decide) rfl rfl rfl ?_; intro id G hG)
      | (refine wpL_sliceH hG rfl rfl (by decide) rfl rfl rfl rfl rfl rfl rfl rfl ?_; intro id G hG)
      | refine wpL_gt rfl rfl rfl rfl rfl (by decide) (by first | rfl | exact decide_eq_true (by omega) | exact decide_eq_false (by omega) | exact ndec_t (by omega) | exact ndec_f (by omega)) ?_
      | refine wpL_gf rfl rfl rfl rfl rfl (by decide) (by first | rfl | exact decide_eq_true (by omega) | exact decide_eq_false (by omega) | exact ndec_t (by omega) | exact ndec_f (by omega)) ?_
      | refine wpA_ct rfl (by first | rfl | exact decide_eq_true (by omega) | exact ndec_t (by omega)) ?_
      | refine wpA_cf rfl (by first | rfl | exact decide_eq_false (by omega) | exact ndec_f (by omega)) ?_
      | refine wpA_skip ?_
      | refine wpA_exit ?_
      | refine wpA_ret ?_
      | refine x_then_exit ?_
      | refine x_then_ret ?_
      | refine x_then_normal ?_
      | refine x_block_ret ?_
      | refine x_block_normal ?_
      | refine x_block_exit ?_
      | refine x_block_other rfl ?_
      | refine wpL_v rfl rfl (by decide) (OpV_pick_t rfl rfl (ndec_t (by omega)) rfl) ?_
      | refine wpL_v rfl rfl (by decide) (OpV_pick_f rfl rfl (ndec_f (by omega)) rfl) ?_)
    skip
    exact postI_1 rfl rfl (.refl _) (.v _) rfl
end Go.Proofs.Ytpkeceifnmmhcaa
