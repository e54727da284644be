/- Equality of settings and edits. -/
import Derived.Test.YtpmfnjkcoogicaaGreatEh
namespace Go.Proofs.YtpmfnjkcoogicaaGreat
open Go.RowKit Go.Th
set_option linter.unusedVariables false
set_option maxRecDepth 20000

def head0 : Head := ⟨[], 0, 0, [], []⟩
def docS (s : Sets) : Doc := ⟨[], head0, [], s⟩
def encS0 (s : Sets) : List PV := [nilS, nilS, I 0, I 0, nilS, nilS, nilS, stylesP s.styles, listsP s.lists, commentsP s.comments, varsP s.vars]
theorem wk_docS (s : Sets) : Wk (.agg (encS0 s)) (.agg (encDoc (docS s))) :=
  .agg (.cons (.nil 11) (.cons (.nil 2) (.cons (.refl _) (.cons (.refl _) (.cons (.nil 2) (.cons (.nil 4) (.cons (.nil 3) (.refl _))))))))
theorem eqDocS_iso (s t : Sets) : Iso Tryz.prog 10 [.agg (encS0 s), .agg (encS0 t)] (fun p => p = B (eqv s t)) := by
  have h := Iso_wk (eqDoc_iso (docS s) (docS t)) (.cons (wk_docS s) (.cons (wk_docS t) .nil))
  refine h.mono fun p hp => ?_
  rw [hp, eqv_Doc, eqv_Sets]
  simp [docS, eqv_self]
theorem trees_S0 (s : Sets) : ∀ c ∈ encS0 s, Tree c :=
  trees_cons (Tree.v _) (trees_cons (Tree.v _) (trees_cons (Tree.v _) (trees_cons (Tree.v _) (trees_cons (Tree.v _) (trees_cons (Tree.v _) (trees_cons (Tree.v _) (trees_cons (tree_stylesP _) (trees_cons (tree_listsP _) (trees_cons (tree_commentsP _) (trees_cons (tree_varsP _) trees_nil))))))))))
theorem trees_sets (s : Sets) : ∀ c ∈ encSets s, Tree c := trees_cons (tree_stylesP _) (trees_cons (tree_listsP _) (trees_cons (tree_commentsP _) (trees_cons (tree_varsP _) trees_nil)))

theorem eqSets_iso (s t : Sets) : Iso Tryz.prog 38 [.agg (encSets s), .agg (encSets t)] (fun p => p = B (eqv s t)) := by
  have hG := has_nil
  refine Iso_enter Tryz.func38 rfl rfl rfl ?_
  repeat (first | refine wpL_end ?_ | refine wpA_seq ?_ | refine wpA_region ?_ | (refine wpL_is rfl rfl rfl rfl rfl rfl (by decide) (eqDocS_iso s t) (TreeL.cons (Tree.agg (trees_S0 s)) (TreeL.cons (Tree.agg (trees_S0 t)) TreeL.nil)) ?_; rintro _ rfl) | refine wpL_v rfl rfl (by decide) (OpV_assign rfl rfl) ?_ | refine wpL_v rfl rfl (by decide) (OpV_build rfl rfl rfl rfl) ?_ | refine wpL_loadH 0 hG rfl rfl (by decide) rfl rfl rfl rfl ?_ | refine wpL_loadH 1 hG rfl rfl (by decide) rfl rfl rfl rfl ?_ | (refine wpL_boxH hG rfl rfl (by decide) rfl rfl rfl ?_; intro id G hG) | refine wpA_ret ?_)
  exact postI_1 rfl rfl (.refl _) (.v _) rfl

set_option maxHeartbeats 16000000 in
theorem eqEdit_iso (x y : Edit) : Iso Tryz.prog 11 [.agg (encEdit x), .agg (encEdit y)] (fun p => p = B (eqv x y)) := by
  have hG := has_nil
  have h1 := eqSets_iso x.sets y.sets
  have t1 : ∀ c ∈ [PV.agg (encSets x.sets), PV.agg (encSets y.sets)], Tree c := TreeL.cons (Tree.agg (trees_sets _)) (TreeL.cons (Tree.agg (trees_sets _)) TreeL.nil)
  have h2 := eqRowsF_iso x.rows y.rows (fun _ a b _ _ => eqRow_all a b)
  have h3 := eqCellsF_iso x.cells y.cells (fun _ a b _ _ => eqCell_all a b)
  refine Iso_enter Tryz.func11 rfl rfl rfl ?_
  repeat (first | refine wpL_end ?_ | refine wpA_seq ?_ | refine wpA_region ?_ | refine wpL_v rfl rfl (by decide) (OpV_move rfl rfl) ?_ | refine wpL_v rfl rfl (by decide) (OpV_assign rfl rfl) ?_ | refine wpL_v rfl rfl (by decide) (OpV_cmp rfl rfl rfl rfl) ?_ | refine wpL_v rfl rfl (by decide) (OpV_fieldAddr rfl rfl rfl rfl) ?_ | refine wpL_loadH 0 hG rfl rfl (by decide) rfl rfl rfl rfl ?_ | refine wpL_loadH 1 hG rfl rfl (by decide) rfl rfl rfl rfl ?_ | (refine wpL_boxH hG rfl rfl (by decide) rfl rfl rfl ?_; intro id G hG))
  generalize hb0 : decide (x.kind = y.kind) = b0
  repeat (first | refine wpL_gk (fun hb => by subst hb; exact Iso.K rfl rfl rfl rfl (eqItems_iso _ _) (TreeL.cons (tree_itemsP _) (TreeL.cons (tree_itemsP _) TreeL.nil))) rfl rfl rfl rfl rfl (by decide) ?_ | refine wpL_gk (fun hb => by subst hb; exact Iso.K rfl rfl rfl rfl h2 (TreeL.cons (tree_rowsP _) (TreeL.cons (tree_rowsP _) (TreeL.cons (Tree.fn trees_nil) TreeL.nil)))) rfl rfl rfl rfl rfl (by decide) ?_ | refine wpL_gk (fun hb => by subst hb; exact Iso.K rfl rfl rfl rfl h3 (TreeL.cons (tree_cellsP _) (TreeL.cons (tree_cellsP _) (TreeL.cons (Tree.fn trees_nil) TreeL.nil)))) rfl rfl rfl rfl rfl (by decide) ?_ | refine wpL_gk (fun hb => by subst hb; exact Iso.K rfl rfl rfl rfl h1 t1) rfl rfl rfl rfl rfl (by decide) ?_ | refine wpL_gv (fun hb => by subst hb; exact OpV_fieldAddr rfl rfl rfl rfl) rfl rfl rfl rfl rfl (by decide) ?_ | refine wpL_gv (fun hb => by subst hb; exact OpV_cmp rfl rfl rfl rfl) rfl rfl rfl rfl rfl (by decide) ?_ | refine wpL_gv (fun hb => by subst hb; exact OpV_beq rfl rfl rfl) rfl rfl rfl rfl rfl (by decide) ?_ | refine wpL_gv (fun hb => by subst hb; exact OpV_load_at rfl rfl (hG.get 0 _ _ rfl) rfl) rfl rfl rfl rfl rfl (by decide) ?_ | refine wpL_gv (fun hb => by subst hb; exact OpV_load_at rfl rfl (hG.get 1 _ _ rfl) rfl) rfl rfl rfl rfl rfl (by decide) ?_ | (refine wpL_vb rfl rfl (by decide) (OpV_and rfl rfl (fun hb => by subst hb; rfl) rfl) ?_; intro bv hbv) | refine wpL_v rfl rfl (by decide) (OpV_move rfl rfl) ?_ | refine wpL_v rfl rfl (by decide) (OpV_assign rfl rfl) ?_)
  repeat (first | refine wpL_end ?_ | refine wpA_ret ?_)
  subst_vars
  refine postI_1 rfl rfl (.refl _) (.v _) ?_
  rw [eqv_Edit]; simp only [eqv_int, eqv_bool]; rfl
end Go.Proofs.YtpmfnjkcoogicaaGreat
