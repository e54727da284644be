/- The walk of Rebreak. -/
import Derived.Test.YtnenmpeejjeopaaGreatDoorRlL
namespace Go.Proofs.YtnenmpeejjeopaaGreatDoor
open Go.RowKit Go.Th
set_option linter.unusedVariables false
set_option maxRecDepth 20000

set_option maxHeartbeats 4000000 in
theorem Rebreak_err (old new : List Piece) (L : List Int) (height : Int) (hh : height < 1) : Iso Tryz.prog 20 [pcs old, intsP L, pcs new, I height] (fun p => p = .tup [.v (.slice none 0 0), I 0, I 32]) := by
  have hG := has_nil
  have hB := Breaks_err old height hh
  refine Iso_enter Tryz.func20 rfl rfl rfl ?_
  repeat (first | refine wpL_end ?_ | refine wpL_nil ?_ | refine wpA_seq ?_ | refine wpA_region ?_ | refine wpA_block ?_ | (refine wpL_is rfl rfl rfl rfl rfl rfl (by decide) hB (TreeL.cons (tree_pcs old) (TreeL.cons (tree_I _) TreeL.nil)) ?_; rintro _ rfl) | refine wpL_v rfl rfl (by decide) (OpV_cmp rfl rfl rfl (congrArg some (decide_eq_true (by omega)))) ?_ | refine wpL_v rfl rfl (by decide) (OpV_cmp rfl rfl rfl (congrArg some (decide_eq_false (by omega)))) ?_ | refine wpL_v rfl rfl (by decide) (OpV_cmp rfl rfl rfl (congrArg some (ndec_t (by omega)))) ?_ | refine wpL_v rfl rfl (by decide) (OpV_cmp rfl rfl rfl (congrArg some (ndec_f (by omega)))) ?_ | refine wpL_v rfl rfl (by decide) (OpV_move rfl rfl) ?_ | refine wpL_v rfl rfl (by decide) (OpV_assign rfl rfl) ?_ | refine wpL_v rfl rfl (by decide) (OpV_cmp rfl rfl rfl rfl) ?_ | refine wpL_v rfl rfl (by decide) (OpV_not rfl rfl) ?_ | refine wpL_v rfl rfl (by decide) (OpV_extract rfl rfl rfl) ?_ | refine wpL_v rfl rfl (by decide) (OpV_nilptr rfl rfl rfl) ?_ | refine wpL_v rfl rfl (by decide) (OpV_beq rfl rfl rfl) ?_ | refine wpL_v rfl rfl (by decide) (OpV_bne rfl rfl rfl) ?_ | refine wpA_ct rfl (by first | rfl | exact decide_eq_true (by omega) | exact ndec_t (by omega)) ?_ | refine wpA_cf rfl (by first | rfl | exact decide_eq_false (by omega) | exact ndec_f (by omega)) ?_ | refine wpA_skip ?_ | refine wpA_exit ?_ | refine wpA_ret ?_ | refine x_then_exit ?_ | refine x_then_ret ?_ | refine x_then_normal ?_ | refine x_block_ret ?_ | refine x_block_normal ?_ | refine x_block_exit ?_ | refine x_block_other rfl ?_)
  exact postI_3 rfl rfl rfl rfl (.refl _) (.refl _) (.refl _) (.v _) (.v _) (.v _) rfl

set_option maxHeartbeats 4000000 in
theorem Rebreak_arg (old new : List Piece) (L : List Int) (height : Int) (hl : allOk old) (hL : L.length ≤ 1000000) (hh : 1 ≤ height) (hne : breaksL old height ≠ L) : Iso Tryz.prog 20 [pcs old, intsP L, pcs new, I height] (fun p => p = .tup [.v (.slice none 0 0), I 0, I 1]) := by
  have hG := has_nil
  have hl0 := hl.1
  have hB := Breaks_ok old height hl hh
  have bl := bL_len old height
  have bn := bN_len old height
  have hE := eqInts_iso (breaksL old height) L (by omega) hL
  rw [decide_eq_false hne] at hE
  refine Iso_enter Tryz.func20 rfl rfl rfl ?_
  repeat (first | refine wpL_end ?_ | refine wpL_nil ?_ | refine wpA_seq ?_ | refine wpA_region ?_ | refine wpA_block ?_ | (refine wpL_is rfl rfl rfl rfl rfl rfl (by decide) hB (TreeL.cons (tree_pcs old) (TreeL.cons (tree_I _) TreeL.nil)) ?_; rintro _ rfl) | (refine wpL_is rfl rfl rfl rfl rfl rfl (by decide) hE (TreeL.cons (tree_intsP _) (TreeL.cons (tree_intsP _) TreeL.nil)) ?_; rintro _ rfl) | refine wpL_v rfl rfl (by decide) (OpV_cmp rfl rfl rfl (congrArg some (decide_eq_true (by omega)))) ?_ | refine wpL_v rfl rfl (by decide) (OpV_cmp rfl rfl rfl (congrArg some (decide_eq_false (by omega)))) ?_ | refine wpL_v rfl rfl (by decide) (OpV_cmp rfl rfl rfl (congrArg some (ndec_t (by omega)))) ?_ | refine wpL_v rfl rfl (by decide) (OpV_cmp rfl rfl rfl (congrArg some (ndec_f (by omega)))) ?_ | refine wpL_v rfl rfl (by decide) (OpV_move rfl rfl) ?_ | refine wpL_v rfl rfl (by decide) (OpV_assign rfl rfl) ?_ | refine wpL_v rfl rfl (by decide) (OpV_cmp rfl rfl rfl rfl) ?_ | refine wpL_v rfl rfl (by decide) (OpV_not rfl rfl) ?_ | refine wpL_v rfl rfl (by decide) (OpV_extract rfl rfl rfl) ?_ | refine wpL_v rfl rfl (by decide) (OpV_nilptr rfl rfl rfl) ?_ | refine wpL_v rfl rfl (by decide) (OpV_beq rfl rfl rfl) ?_ | refine wpL_v rfl rfl (by decide) (OpV_bne rfl rfl rfl) ?_ | refine wpA_ct rfl (by first | rfl | exact decide_eq_true (by omega) | exact ndec_t (by omega)) ?_ | refine wpA_cf rfl (by first | rfl | exact decide_eq_false (by omega) | exact ndec_f (by omega)) ?_ | refine wpA_skip ?_ | refine wpA_exit ?_ | refine wpA_ret ?_ | refine x_then_exit ?_ | refine x_then_ret ?_ | refine x_then_normal ?_ | refine x_block_ret ?_ | refine x_block_normal ?_ | refine x_block_exit ?_ | refine x_block_other rfl ?_)
  exact postI_3 rfl rfl rfl rfl (.refl _) (.refl _) (.refl _) (.v _) (.v _) (.v _) rfl

set_option maxHeartbeats 4000000 in
theorem Rebreak_ok (old new : List Piece) (height : Int) (hl : allOk old) (hm : allOk new) (hh : 1 ≤ height) : Iso Tryz.prog 20 [pcs old, intsP (breaksL old height), pcs new, I height] (fun p => p = .tup [intsP (rebF old new height).1, I (rebF old new height).2, I 0]) := by
  have hG := has_nil
  have hl0 := hl.1
  have hB := Breaks_ok old height hl hh
  have bl := bL_len old height
  have bn := bN_len old height
  have hE := eqInts_iso (breaksL old height) (breaksL old height) (by omega) (by omega)
  rw [decide_eq_true rfl] at hE
  have hR := rebreak_iso old new height hl hm hh
  refine Iso_enter Tryz.func20 rfl rfl rfl ?_
  repeat (first | refine wpL_end ?_ | refine wpL_nil ?_ | refine wpA_seq ?_ | refine wpA_region ?_ | refine wpA_block ?_ | (refine wpL_is rfl rfl rfl rfl rfl rfl (by decide) hB (TreeL.cons (tree_pcs old) (TreeL.cons (tree_I _) TreeL.nil)) ?_; rintro _ rfl) | (refine wpL_is rfl rfl rfl rfl rfl rfl (by decide) hE (TreeL.cons (tree_intsP _) (TreeL.cons (tree_intsP _) TreeL.nil)) ?_; rintro _ rfl) | (refine wpL_is rfl rfl rfl rfl rfl rfl (by decide) hR (TreeL.cons (tree_pcs old) (TreeL.cons (tree_intsP _) (TreeL.cons (tree_pcs new) (TreeL.cons (tree_I _) TreeL.nil)))) ?_; rintro _ rfl) | refine wpL_v rfl rfl (by decide) (OpV_cmp rfl rfl rfl (congrArg some (decide_eq_true (by omega)))) ?_ | refine wpL_v rfl rfl (by decide) (OpV_cmp rfl rfl rfl (congrArg some (decide_eq_false (by omega)))) ?_ | refine wpL_v rfl rfl (by decide) (OpV_cmp rfl rfl rfl (congrArg some (ndec_t (by omega)))) ?_ | refine wpL_v rfl rfl (by decide) (OpV_cmp rfl rfl rfl (congrArg some (ndec_f (by omega)))) ?_ | refine wpL_v rfl rfl (by decide) (OpV_move rfl rfl) ?_ | refine wpL_v rfl rfl (by decide) (OpV_assign rfl rfl) ?_ | refine wpL_v rfl rfl (by decide) (OpV_cmp rfl rfl rfl rfl) ?_ | refine wpL_v rfl rfl (by decide) (OpV_not rfl rfl) ?_ | refine wpL_v rfl rfl (by decide) (OpV_extract rfl rfl rfl) ?_ | refine wpL_v rfl rfl (by decide) (OpV_nilptr rfl rfl rfl) ?_ | refine wpL_v rfl rfl (by decide) (OpV_beq rfl rfl rfl) ?_ | refine wpL_v rfl rfl (by decide) (OpV_bne rfl rfl rfl) ?_ | refine wpA_ct rfl (by first | rfl | exact decide_eq_true (by omega) | exact ndec_t (by omega)) ?_ | refine wpA_cf rfl (by first | rfl | exact decide_eq_false (by omega) | exact ndec_f (by omega)) ?_ | refine wpA_skip ?_ | refine wpA_exit ?_ | refine wpA_ret ?_ | refine x_then_exit ?_ | refine x_then_ret ?_ | refine x_then_normal ?_ | refine x_block_ret ?_ | refine x_block_normal ?_ | refine x_block_exit ?_ | refine x_block_other rfl ?_)
  exact postI_3 rfl rfl rfl rfl (.refl _) (.refl _) (.refl _) (tree_intsP _) (.v _) (.v _) rfl
end Go.Proofs.YtnenmpeejjeopaaGreatDoor
