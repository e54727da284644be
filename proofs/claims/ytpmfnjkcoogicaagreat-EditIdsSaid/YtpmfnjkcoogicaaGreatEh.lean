/- Equality of documents and edits. -/
import Derived.Test.YtpmfnjkcoogicaaGreatEg
import Derived.Test.YtpmfnjkcoogicaaGreatFl
namespace Go.Proofs.YtpmfnjkcoogicaaGreat
open Go.RowKit Go.Th
set_option linter.unusedVariables false
set_option maxRecDepth 20000

def nilS : PV := .v (.slice none 0 0)
def setsB : Blk := ⟨[nilS, nilS, nilS, nilS], 30, true⟩

set_option maxHeartbeats 16000000 in
theorem eqDoc_iso (x y : Doc) : Iso Tryz.prog 10 [.agg (encDoc x), .agg (encDoc y)] (fun p => p = B (eqv x y)) := by
  have hG := has_nil
  refine Iso_enter Tryz.func10 rfl rfl rfl ?_
  have h1 := eqHead_iso x.fin y.fin
  have t1 : ∀ c ∈ [PV.agg (encHead x.fin), PV.agg (encHead y.fin)], Tree c := TreeL.cons (Tree.agg (trees_head _)) (TreeL.cons (Tree.agg (trees_head _)) TreeL.nil)
  have h2 := eqLstsF_iso x.sets.lists y.sets.lists (fun _ a b _ _ => eqLst_iso a b)
  repeat (first | refine wpL_end ?_ | refine wpA_seq ?_ | refine wpA_region ?_ | refine wpL_v rfl rfl (by decide) (OpV_assign rfl rfl) ?_ | (refine wpL_boxH hG rfl rfl (by decide) rfl rfl rfl ?_; intro id G hG))
  refine wpA_yF2 4 5 setsB setsB hG mixed rfl (by decide +kernel) (N := 2) (by decide +kernel) fun g1 g2 G hG => ?_
  have hG1 := hG.set (k := 1) rfl ⟨encSets x.sets, 30, true⟩
  have hG2 := hG1.set (k := 0) rfl ⟨encSets y.sets, 30, true⟩
  refine ⟨[G.set g1 (some ⟨encSets x.sets, 30, true⟩), (G.set g1 (some ⟨encSets x.sets, 30, true⟩)).set g2 (some ⟨encSets y.sets, 30, true⟩)], _, rfl, ?_⟩
  refine F_v rfl rfl rfl rfl (by decide) (fun _ => OpV_fieldAddr rfl rfl rfl rfl) ?_
  refine F_r1 0 rfl (by decide +kernel) (by decide +kernel) rfl rfl rfl rfl (by decide) (OpV_load_at rfl rfl (hG.get 3 _ _ rfl) rfl) ?_
  refine F_v rfl rfl rfl rfl (by decide) (fun _ => OpV_fieldAddr rfl rfl rfl rfl) ?_
  refine F_r2 0 rfl (by decide +kernel) (by decide +kernel) rfl rfl rfl rfl rfl (by decide) (OpV_load_at rfl rfl (hG.get 2 _ _ rfl) rfl) (OpV_load_at rfl rfl (hG1.get 2 _ _ rfl) rfl) ?_
  refine F_f1 0 rfl rfl (by decide +kernel) (by decide +kernel) rfl rfl rfl (by decide) (OpF_alloc rfl rfl) (hG.get 1 _ _ rfl) ?_
  refine F_f1 0 rfl rfl (by decide +kernel) (by decide +kernel) rfl rfl rfl (by decide) (OpF_alloc rfl rfl) (hG.get 0 _ _ rfl) ?_
  refine F_s 0 rfl (by decide +kernel) rfl rfl rfl rfl (OpS_store_at rfl rfl rfl (hG.get 1 _ _ rfl) rfl rfl rfl rfl rfl) rfl ?_
  refine F_s 1 rfl (by decide +kernel) rfl rfl rfl rfl (OpS_store_at rfl rfl rfl (hG1.get 0 _ _ rfl) rfl rfl rfl rfl rfl) rfl ?_
  refine F_end ?_
  have hG := hG2
  clear hG1 hG2
  repeat (first | refine wpL_end ?_ | refine wpA_seq ?_ | refine wpA_region ?_ | (refine wpL_is rfl rfl rfl rfl rfl rfl (by decide) (eqItems_iso _ _) (TreeL.cons (tree_itemsP _) (TreeL.cons (tree_itemsP _) TreeL.nil)) ?_; rintro _ rfl) | refine wpL_v rfl rfl (by decide) (OpV_move rfl rfl) ?_ | refine wpL_v rfl rfl (by decide) (OpV_assign rfl rfl) ?_ | refine wpL_v rfl rfl (by decide) (OpV_fieldAddr rfl rfl rfl rfl) ?_ | refine wpL_loadH 2 hG rfl rfl (by decide) rfl rfl rfl rfl ?_ | refine wpL_loadH 3 hG rfl rfl (by decide) rfl rfl rfl rfl ?_)
  generalize hb0 : eqv x.flow y.flow = b0
  repeat (first | refine wpL_gk (fun hb => by subst hb; exact Iso.K rfl rfl rfl rfl h1 t1) rfl rfl rfl rfl rfl (by decide) ?_ | refine wpL_gk (fun hb => by subst hb; exact Iso.K rfl rfl rfl rfl (eqRev_iso _ _) (TreeL.cons (tree_revsP _) (TreeL.cons (tree_revsP _) TreeL.nil))) rfl rfl rfl rfl rfl (by decide) ?_ | refine wpL_gk (fun hb => by subst hb; exact Iso.K rfl rfl rfl rfl (eqStyles_iso _ _) (TreeL.cons (tree_stylesP _) (TreeL.cons (tree_stylesP _) TreeL.nil))) rfl rfl rfl rfl rfl (by decide) ?_ | refine wpL_gk (fun hb => by subst hb; exact Iso.K rfl rfl rfl rfl h2 (TreeL.cons (tree_listsP _) (TreeL.cons (tree_listsP _) (TreeL.cons (Tree.fn trees_nil) TreeL.nil)))) rfl rfl rfl rfl rfl (by decide) ?_ | refine wpL_gk (fun hb => by subst hb; exact Iso.K rfl rfl rfl rfl (eqComment_iso _ _) (TreeL.cons (tree_commentsP _) (TreeL.cons (tree_commentsP _) TreeL.nil))) rfl rfl rfl rfl rfl (by decide) ?_ | refine wpL_gk (fun hb => by subst hb; exact Iso.K rfl rfl rfl rfl (eqVar_iso _ _) (TreeL.cons (tree_varsP _) (TreeL.cons (tree_varsP _) TreeL.nil))) rfl rfl rfl rfl rfl (by decide) ?_ | refine wpL_gv (fun hb => by subst hb; exact OpV_fieldAddr rfl rfl rfl rfl) rfl rfl rfl rfl rfl (by decide) ?_ | refine wpL_gv (fun hb => by subst hb; exact OpV_move rfl rfl) rfl rfl rfl rfl rfl (by decide) ?_ | refine wpL_gv (fun hb => by subst hb; exact OpV_load_at rfl rfl (hG.get 0 _ _ rfl) rfl) rfl rfl rfl rfl rfl (by decide) ?_ | refine wpL_gv (fun hb => by subst hb; exact OpV_load_at rfl rfl (hG.get 1 _ _ rfl) rfl) rfl rfl rfl rfl rfl (by decide) ?_ | refine wpL_gv (fun hb => by subst hb; exact OpV_load_at rfl rfl (hG.get 2 _ _ rfl) rfl) rfl rfl rfl rfl rfl (by decide) ?_ | refine wpL_gv (fun hb => by subst hb; exact OpV_load_at rfl rfl (hG.get 3 _ _ rfl) rfl) rfl rfl rfl rfl rfl (by decide) ?_ | (refine wpL_vb rfl rfl (by decide) (OpV_and rfl rfl (fun hb => by subst hb; rfl) rfl) ?_; intro bv hbv) | refine wpL_v rfl rfl (by decide) (OpV_move rfl rfl) ?_ | refine wpL_v rfl rfl (by decide) (OpV_assign rfl rfl) ?_)
  repeat (first | refine wpL_end ?_ | refine wpA_ret ?_)
  subst_vars
  refine postI_1 rfl rfl (.refl _) (.v _) ?_
  rw [eqv_Doc]; rfl
end Go.Proofs.YtpmfnjkcoogicaaGreat
