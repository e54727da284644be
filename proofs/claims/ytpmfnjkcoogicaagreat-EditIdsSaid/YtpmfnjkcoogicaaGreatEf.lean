/- Equality of heads. -/
import Derived.Test.YtpmfnjkcoogicaaGreatEq
namespace Go.Proofs.YtpmfnjkcoogicaaGreat
open Go.RowKit Go.Th
set_option linter.unusedVariables false
set_option maxRecDepth 20000

set_option maxHeartbeats 8000000 in
theorem eqHead_iso (x y : Head) : Iso Tryz.prog 28 [.agg (encHead x), .agg (encHead y)] (fun p => p = B (eqv x y)) := by
  have hG := has_nil
  refine Iso_enter Tryz.func28 rfl rfl rfl ?_
  repeat (first | refine wpL_end ?_ | refine wpA_seq ?_ | refine wpA_region ?_ | (refine wpL_is rfl rfl rfl rfl rfl rfl (by decide) (eqPrp_iso _ _) (TreeL.cons (tree_propsP _) (TreeL.cons (tree_propsP _) TreeL.nil)) ?_; rintro _ rfl) | refine wpL_v rfl rfl (by decide) (OpV_move rfl rfl) ?_ | refine wpL_v rfl rfl (by decide) (OpV_assign rfl rfl) ?_ | refine wpL_v rfl rfl (by decide) (OpV_fieldAddr rfl rfl rfl rfl) ?_ | refine wpL_loadH 0 hG rfl rfl (by decide) rfl rfl rfl rfl ?_ | refine wpL_loadH 1 hG rfl rfl (by decide) rfl rfl rfl rfl ?_ | (refine wpL_boxH hG rfl rfl (by decide) rfl rfl rfl ?_; intro id G hG))
  generalize hb0 : eqv x.props y.props = b0
  repeat (first | refine wpL_gk (fun hb => by subst hb; exact Iso.K rfl rfl rfl rfl (eqDl_iso _ _) (TreeL.cons (tree_delsP _) (TreeL.cons (tree_delsP _) TreeL.nil))) rfl rfl rfl rfl rfl (by decide) ?_ | refine wpL_gk (fun hb => by subst hb; exact Iso.K rfl rfl rfl rfl (eqLyr_iso _ _) (TreeL.cons (tree_lyrsP _) (TreeL.cons (tree_lyrsP _) TreeL.nil))) rfl rfl rfl rfl rfl (by decide) ?_ | refine wpL_gv (fun hb => by subst hb; exact OpV_fieldAddr rfl rfl rfl rfl) rfl rfl rfl rfl rfl (by decide) ?_ | refine wpL_gv (fun hb => by subst hb; exact OpV_cmp rfl rfl rfl rfl) rfl rfl rfl rfl rfl (by decide) ?_ | refine wpL_gv (fun hb => by subst hb; exact OpV_load_at rfl rfl (hG.get 0 _ _ rfl) rfl) rfl rfl rfl rfl rfl (by decide) ?_ | refine wpL_gv (fun hb => by subst hb; exact OpV_load_at rfl rfl (hG.get 1 _ _ rfl) rfl) rfl rfl rfl rfl rfl (by decide) ?_ | (refine wpL_vb rfl rfl (by decide) (OpV_and rfl rfl (fun hb => by subst hb; rfl) rfl) ?_; intro bv hbv) | refine wpL_v rfl rfl (by decide) (OpV_move rfl rfl) ?_ | refine wpL_v rfl rfl (by decide) (OpV_assign rfl rfl) ?_)
  repeat (first | refine wpL_end ?_ | refine wpA_ret ?_)
  subst_vars
  refine postI_1 rfl rfl (.refl _) (.v _) ?_
  rw [eqv_Head]; simp only [eqv_int]; rfl
end Go.Proofs.YtpmfnjkcoogicaaGreat
