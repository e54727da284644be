/- Clone of an edit. -/
import Derived.Test.YtpmfnjkcoogicaaGreatFd
import Derived.Test.YtpmfnjkcoogicaaGreatIh
namespace Go.Proofs.YtpmfnjkcoogicaaGreat
open Go.RowKit Go.Th
set_option linter.unusedVariables false
set_option maxRecDepth 20000

set_option maxHeartbeats 16000000 in
theorem docClone_iso (s : Sets) (hs : SmS s) : Iso Tryz.prog 46 [.agg (encDoc (docS s))] (fun p => p = .agg (encDoc (docS s))) := by
  have c41 := clone41_iso [] (by simp [costIs])
  have c63 := cloneHead_iso head0 (HBd.of (by simp [costH, head0]))
  have c66 := clone66_iso [] (by simp)
  have c67 := cloneSets_iso s hs
  have hG := has_nil
  refine Iso_enter Tryz.func46 rfl rfl rfl ?_
  repeat (first | refine wpL_end ?_ | refine wpL_nil ?_ | refine wpA_seq ?_ | refine wpA_region ?_ | refine wpA_block ?_ | refine wpL_v rfl rfl (by decide) (OpV_fieldAddr rfl rfl rfl rfl) ?_ | refine wpL_v rfl rfl (by decide) (OpV_load rfl rfl rfl) ?_ | refine wpL_v rfl rfl (by decide) (OpV_build rfl rfl rfl rfl) ?_ | refine wpL_loadH 0 hG rfl rfl (by decide) rfl rfl rfl rfl ?_ | refine wpL_loadH 1 hG rfl rfl (by decide) rfl rfl rfl rfl ?_ | refine wpL_loadH 2 hG rfl rfl (by decide) rfl rfl rfl rfl ?_ | refine wpL_loadH 3 hG rfl rfl (by decide) rfl rfl rfl rfl ?_ | refine wpL_loadH 4 hG rfl rfl (by decide) rfl rfl rfl rfl ?_ | refine wpL_loadH 5 hG rfl rfl (by decide) rfl rfl rfl rfl ?_ | (refine wpL_storeH 0 hG rfl rfl rfl rfl rfl rfl rfl rfl rfl rfl rfl ?_; intro G hG) | (refine wpL_storeH 1 hG rfl rfl rfl rfl rfl rfl rfl rfl rfl rfl rfl ?_; intro G hG) | (refine wpL_storeH 2 hG rfl rfl rfl rfl rfl rfl rfl rfl rfl rfl rfl ?_; intro G hG) | (refine wpL_storeH 3 hG rfl rfl rfl rfl rfl rfl rfl rfl rfl rfl rfl ?_; intro G hG) | (refine wpL_storeH 4 hG rfl rfl rfl rfl rfl rfl rfl rfl rfl rfl rfl ?_; intro G hG) | (refine wpL_storeH 5 hG rfl rfl rfl rfl rfl rfl rfl rfl rfl rfl rfl ?_; intro G hG) | (refine wpL_allocH hG rfl rfl (by decide) rfl rfl ?_; intro id G hG) | (refine wpL_boxH hG rfl rfl (by decide) rfl rfl rfl ?_; intro id G hG) | refine wpA_ct rfl (by first | rfl | exact decide_eq_true (by omega) | exact ndec_t (by omega)) ?_ | refine wpA_cf rfl (by first | rfl | exact decide_eq_false (by omega) | exact ndec_f (by omega)) ?_ | refine wpA_skip ?_ | refine wpA_exit ?_ | refine wpA_ret ?_ | refine x_then_exit ?_ | refine x_then_ret ?_ | refine x_then_normal ?_ | refine x_block_ret ?_ | refine x_block_normal ?_ | refine x_block_exit ?_ | refine x_block_other rfl ?_)
  rename_i ib _ _
  have hG : Has G [(id, ⟨_, 51, true⟩), (ib, ⟨encDoc (docS s), 51, true⟩)] := hG
  obtain ⟨H1, e1⟩ : ∃ X, X = G.set id (some ⟨encDoc (docS s), 51, true⟩) := ⟨_, rfl⟩
  have hG1 := hG.set (k := 0) rfl ⟨encDoc (docS s), 51, true⟩
  rw [← e1] at hG1
  refine wpA_yL [H1] H1 mixed (by decide +kernel) (N := 1) (by decide +kernel) rfl ?_
  repeat (first | refine Y_r 0 (by decide +kernel) (by decide +kernel) rfl rfl rfl rfl (by decide) (OpV_load_at rfl rfl (hG.get 1 _ _ rfl) rfl) ?_ | refine Y_k rfl rfl rfl (by decide) (fun _ => Iso.K rfl rfl rfl rfl c41 (TreeL.cons (tree_itemsP _) TreeL.nil)) ?_ | refine Y_k rfl rfl rfl (by decide) (fun _ => Iso.K rfl rfl rfl rfl c63 (TreeL.cons (Tree.agg (trees_head _)) TreeL.nil)) ?_ | refine Y_k rfl rfl rfl (by decide) (fun _ => Iso.K rfl rfl rfl rfl c66 (TreeL.cons (tree_revsP _) TreeL.nil)) ?_ | refine Y_k rfl rfl rfl (by decide) (fun _ => Iso.K rfl rfl rfl rfl c67 (TreeL.cons (Tree.agg (trees_sets _)) TreeL.nil)) ?_ | refine Y_s 0 (by decide +kernel) rfl rfl rfl rfl (OpS_store_at rfl rfl rfl (hG.get 0 _ _ rfl) rfl rfl rfl rfl rfl) e1 ?_ | refine Y_v rfl rfl rfl (by decide) (fun _ => OpV_fieldAddr rfl rfl rfl rfl) ?_ | refine Y_v rfl rfl rfl (by decide) (fun _ => OpV_load rfl rfl rfl) ?_ | refine Y_v rfl rfl rfl (by decide) (fun _ => OpV_build rfl rfl rfl rfl) ?_ | refine Y_end ?_)
  have hG := hG1
  repeat (first | refine wpL_end ?_ | refine wpL_nil ?_ | refine wpA_seq ?_ | refine wpA_region ?_ | refine wpA_block ?_ | refine wpL_v rfl rfl (by decide) (OpV_fieldAddr rfl rfl rfl rfl) ?_ | refine wpL_v rfl rfl (by decide) (OpV_load rfl rfl rfl) ?_ | refine wpL_v rfl rfl (by decide) (OpV_build rfl rfl rfl rfl) ?_ | refine wpL_loadH 0 hG rfl rfl (by decide) rfl rfl rfl rfl ?_ | refine wpL_loadH 1 hG rfl rfl (by decide) rfl rfl rfl rfl ?_ | refine wpL_loadH 2 hG rfl rfl (by decide) rfl rfl rfl rfl ?_ | refine wpL_loadH 3 hG rfl rfl (by decide) rfl rfl rfl rfl ?_ | refine wpL_loadH 4 hG rfl rfl (by decide) rfl rfl rfl rfl ?_ | refine wpL_loadH 5 hG rfl rfl (by decide) rfl rfl rfl rfl ?_ | (refine wpL_storeH 0 hG rfl rfl rfl rfl rfl rfl rfl rfl rfl rfl rfl ?_; intro G hG) | (refine wpL_storeH 1 hG rfl rfl rfl rfl rfl rfl rfl rfl rfl rfl rfl ?_; intro G hG) | (refine wpL_storeH 2 hG rfl rfl rfl rfl rfl rfl rfl rfl rfl rfl rfl ?_; intro G hG) | (refine wpL_storeH 3 hG rfl rfl rfl rfl rfl rfl rfl rfl rfl rfl rfl ?_; intro G hG) | (refine wpL_storeH 4 hG rfl rfl rfl rfl rfl rfl rfl rfl rfl rfl rfl ?_; intro G hG) | (refine wpL_storeH 5 hG rfl rfl rfl rfl rfl rfl rfl rfl rfl rfl rfl ?_; intro G hG) | (refine wpL_allocH hG rfl rfl (by decide) rfl rfl ?_; intro id G hG) | (refine wpL_boxH hG rfl rfl (by decide) rfl rfl rfl ?_; intro id G hG) | refine wpA_ct rfl (by first | rfl | exact decide_eq_true (by omega) | exact ndec_t (by omega)) ?_ | refine wpA_cf rfl (by first | rfl | exact decide_eq_false (by omega) | exact ndec_f (by omega)) ?_ | refine wpA_skip ?_ | refine wpA_exit ?_ | refine wpA_ret ?_ | refine x_then_exit ?_ | refine x_then_ret ?_ | refine x_then_normal ?_ | refine x_block_ret ?_ | refine x_block_normal ?_ | refine x_block_exit ?_ | refine x_block_other rfl ?_)
  exact postI_c rfl rfl (loadA_at (hG.get 0 _ _ rfl)) (.refl _) (Tree.agg (trees_cons (tree_itemsP _) (trees_cons (tree_propsP _) (trees_cons (tree_I _) (trees_cons (tree_I _) (trees_cons (tree_delsP _) (trees_cons (tree_lyrsP _) (trees_cons (tree_revsP _) (trees_sets s))))))))) rfl
theorem docClone0_iso (s : Sets) (hs : SmS s) : Iso Tryz.prog 46 [.agg (encS0 s)] (fun p => p = .agg (encDoc (docS s))) := Iso_wk (docClone_iso s hs) (.cons (wk_docS s) .nil)

/-- An edit whose items and cells are slices of our own. -/
def ownE (e : Edit) (oi oc : Nat) : List PV := [I e.kind, I e.flow, I e.at_, I e.count, I e.sub, I e.to, I e.toAt, I e.fresh, I e.key, I e.value, B e.clear, .sl oi 0 e.items.length 11, rowsP e.rows, .sl oc 0 e.cells.length 7, stylesP e.sets.styles, listsP e.sets.lists, commentsP e.sets.comments, varsP e.sets.vars]
def ownE1 (e : Edit) (oi : Nat) : List PV := [I e.kind, I e.flow, I e.at_, I e.count, I e.sub, I e.to, I e.toAt, I e.fresh, I e.key, I e.value, B e.clear, .sl oi 0 e.items.length 11, rowsP e.rows, cellsP e.cells, stylesP e.sets.styles, listsP e.sets.lists, commentsP e.sets.comments, varsP e.sets.vars]

set_option maxHeartbeats 16000000 in
theorem cloneEdit (e : Edit) (h : SmE e) (H : Heap) (L : List (Nat × Blk)) (hG : Has H L) : AC Tryz.prog 15 [.agg (encEdit e)] H (fun p G => ∃ oi oc, p = .agg (ownE e oi oc) ∧ Has G ((oc, ⟨e.cells.flatMap encCell, 59, true⟩) :: (oi, ⟨e.items.flatMap encItem, 45, true⟩) :: L)) := by
  obtain ⟨hc1, hc2⟩ := costE e h
  have c41 := clone41 e.items hc1
  have c42 := clone42_iso e.rows (by omega)
  have c44 := clone44 e.cells (by omega)
  have c46 := docClone0_iso e.sets h.sets
  have ti := trees_flat trees_item e.items
  have tc := trees_flat trees_cell e.cells
  refine AC_enter Tryz.func15 rfl rfl rfl ?_
  repeat (first | refine wpL_end ?_ | refine wpL_nil ?_ | refine wpA_seq ?_ | refine wpA_region ?_ | refine wpA_block ?_ | refine wpL_v rfl rfl (by decide) (OpV_fieldAddr rfl rfl rfl rfl) ?_ | refine wpL_v rfl rfl (by decide) (OpV_load rfl rfl rfl) ?_ | refine wpL_v rfl rfl (by decide) (OpV_build rfl rfl rfl rfl) ?_ | refine wpL_loadH 0 hG rfl rfl (by decide) rfl rfl rfl rfl ?_ | refine wpL_loadH 1 hG rfl rfl (by decide) rfl rfl rfl rfl ?_ | refine wpL_loadH 2 hG rfl rfl (by decide) rfl rfl rfl rfl ?_ | refine wpL_loadH 3 hG rfl rfl (by decide) rfl rfl rfl rfl ?_ | refine wpL_loadH 4 hG rfl rfl (by decide) rfl rfl rfl rfl ?_ | refine wpL_loadH 5 hG rfl rfl (by decide) rfl rfl rfl rfl ?_ | (refine wpL_storeH 0 hG rfl rfl rfl rfl rfl rfl rfl rfl rfl rfl rfl ?_; intro G hG) | (refine wpL_storeH 1 hG rfl rfl rfl rfl rfl rfl rfl rfl rfl rfl rfl ?_; intro G hG) | (refine wpL_storeH 2 hG rfl rfl rfl rfl rfl rfl rfl rfl rfl rfl rfl ?_; intro G hG) | (refine wpL_storeH 3 hG rfl rfl rfl rfl rfl rfl rfl rfl rfl rfl rfl ?_; intro G hG) | (refine wpL_storeH 4 hG rfl rfl rfl rfl rfl rfl rfl rfl rfl rfl rfl ?_; intro G hG) | (refine wpL_storeH 5 hG rfl rfl rfl rfl rfl rfl rfl rfl rfl rfl rfl ?_; intro G hG) | (refine wpL_allocH hG rfl rfl (by decide) rfl rfl ?_; intro id G hG) | (refine wpL_boxH hG rfl rfl (by decide) rfl rfl rfl ?_; intro id G hG) | refine wpA_ct rfl (by first | rfl | exact decide_eq_true (by omega) | exact ndec_t (by omega)) ?_ | refine wpA_cf rfl (by first | rfl | exact decide_eq_false (by omega) | exact ndec_f (by omega)) ?_ | refine wpA_skip ?_ | refine wpA_exit ?_ | refine wpA_ret ?_ | refine x_then_exit ?_ | refine x_then_ret ?_ | refine x_then_normal ?_ | refine x_block_ret ?_ | refine x_block_normal ?_ | refine x_block_exit ?_ | refine x_block_other rfl ?_)
  rename_i ib _ _
  have hG : Has G ((id, ⟨_, 32, true⟩) :: (ib, ⟨encEdit e, 32, true⟩) :: L) := hG
  obtain ⟨H1, e1⟩ : ∃ X, X = G ++ [some (Blk.mk (e.items.flatMap encItem) 45 true)] := ⟨_, rfl⟩
  have hG1 := hG.new (Blk.mk (e.items.flatMap encItem) 45 true)
  rw [← e1] at hG1
  obtain ⟨H2, e2⟩ : ∃ X, X = H1 ++ [some (Blk.mk (e.cells.flatMap encCell) 59 true)] := ⟨_, rfl⟩
  have hG2 := hG1.new (Blk.mk (e.cells.flatMap encCell) 59 true)
  rw [← e2] at hG2
  obtain ⟨H3, e3⟩ : ∃ X, X = H2.set ib (some (Blk.mk (ownE1 e G.length) 32 true)) := ⟨_, rfl⟩
  have hG3 := hG2.set (k := 3) rfl (Blk.mk (ownE1 e G.length) 32 true)
  rw [← e3] at hG3
  obtain ⟨H4, e4⟩ : ∃ X, X = H3.set ib (some (Blk.mk (ownE1 e G.length) 32 true)) := ⟨_, rfl⟩
  have hG4 := hG3.set (k := 3) rfl (Blk.mk (ownE1 e G.length) 32 true)
  rw [← e4] at hG4
  obtain ⟨H5, e5⟩ : ∃ X, X = H4.set ib (some (Blk.mk (ownE e G.length H1.length) 32 true)) := ⟨_, rfl⟩
  have hG5 := hG4.set (k := 3) rfl (Blk.mk (ownE e G.length H1.length) 32 true)
  rw [← e5] at hG5
  have hb : ∀ k, k ≤ 1 → (hsL [G, H1, H2, H3, H4, H5] k)[ib]? = some (some ⟨encEdit e, 32, true⟩) := fun k hk => by
    match k, hk with
    | 0, _ => exact hG.get 1 _ _ rfl
    | 1, _ => exact hG1.get 2 _ _ rfl
  refine wpA_yC [2, 8] [H1, H2, H3, H4, H5] H5 mixed (by decide +kernel) (N := 5) (by decide +kernel) rfl ?_
  repeat (first | refine F_r 0 0 rfl (by decide +kernel) (by decide +kernel) rfl rfl rfl (by decide) (fun k ha hz => OpV_load_at rfl rfl (hb k (by omega)) rfl) ?_ | refine F_r 0 1 rfl (by decide +kernel) (by decide +kernel) rfl rfl rfl (by decide) (fun k ha hz => OpV_load_at rfl rfl (hb k (by omega)) rfl) ?_ | refine F_c 0 rfl (by decide +kernel) rfl rfl rfl rfl (by decide) (AC.K rfl rfl rfl rfl (own_AC c41 (TreeL.cons (tree_itemsP _) TreeL.nil) ti G)) e1 ?_ | refine F_c 1 rfl (by decide +kernel) rfl rfl rfl rfl (by decide) (AC.K rfl rfl rfl rfl (own_AC c44 (TreeL.cons (tree_cellsP _) (TreeL.cons (Tree.fn trees_nil) TreeL.nil)) tc H1)) e2 ?_ | refine F_k rfl rfl rfl rfl (by decide) (fun _ => Iso.K rfl rfl rfl rfl c42 (TreeL.cons (tree_rowsP _) (TreeL.cons (Tree.fn trees_nil) TreeL.nil))) ?_ | refine F_s 2 rfl (by decide +kernel) rfl rfl rfl rfl (OpS_store_at rfl rfl rfl (hG2.get 3 _ _ rfl) rfl rfl rfl rfl rfl) e3 ?_ | refine F_s 3 rfl (by decide +kernel) rfl rfl rfl rfl (OpS_store_at rfl rfl rfl (hG3.get 3 _ _ rfl) rfl rfl rfl rfl rfl) e4 ?_ | refine F_s 4 rfl (by decide +kernel) rfl rfl rfl rfl (OpS_store_at rfl rfl rfl (hG4.get 3 _ _ rfl) rfl rfl rfl rfl rfl) e5 ?_ | refine F_v rfl rfl rfl rfl (by decide) (fun _ => OpV_fieldAddr rfl rfl rfl rfl) ?_ | refine F_v rfl rfl rfl rfl (by decide) (fun _ => OpV_load rfl rfl rfl) ?_ | refine F_v rfl rfl rfl rfl (by decide) (fun _ => OpV_build rfl rfl rfl rfl) ?_ | refine F_end ?_)
  have hG : Has H5 ((H1.length, ⟨e.cells.flatMap encCell, 59, true⟩) :: (G.length, ⟨e.items.flatMap encItem, 45, true⟩) :: (id, ⟨_, 32, true⟩) :: (ib, ⟨ownE e G.length H1.length, 32, true⟩) :: L) := hG5
  clear hG1 hG2 hG3 hG4 hG5 e1 e2 e3 e4 e5 hb ti tc c41 c42 c44
  generalize H1.length = oc at hG ⊢
  generalize G.length = oi at hG ⊢
  repeat (first | refine wpL_end ?_ | refine wpL_nil ?_ | refine wpA_seq ?_ | refine wpA_region ?_ | refine wpA_block ?_ | (refine wpL_is rfl rfl rfl rfl rfl rfl (by decide) c46 (TreeL.cons (Tree.agg (trees_S0 e.sets)) TreeL.nil) ?_; rintro _ rfl) | refine wpL_v rfl rfl (by decide) (OpV_field 30 rfl rfl rfl rfl rfl rfl) ?_ | refine wpL_v rfl rfl (by decide) (OpV_fieldAddr rfl rfl rfl rfl) ?_ | refine wpL_v rfl rfl (by decide) (OpV_load rfl rfl rfl) ?_ | refine wpL_v rfl rfl (by decide) (OpV_build rfl rfl rfl rfl) ?_ | refine wpL_loadH 0 hG rfl rfl (by decide) rfl rfl rfl rfl ?_ | refine wpL_loadH 1 hG rfl rfl (by decide) rfl rfl rfl rfl ?_ | refine wpL_loadH 2 hG rfl rfl (by decide) rfl rfl rfl rfl ?_ | refine wpL_loadH 3 hG rfl rfl (by decide) rfl rfl rfl rfl ?_ | refine wpL_loadH 4 hG rfl rfl (by decide) rfl rfl rfl rfl ?_ | refine wpL_loadH 5 hG rfl rfl (by decide) rfl rfl rfl rfl ?_ | (refine wpL_storeH 0 hG rfl rfl rfl rfl rfl rfl rfl rfl rfl rfl rfl ?_; intro G hG) | (refine wpL_storeH 1 hG rfl rfl rfl rfl rfl rfl rfl rfl rfl rfl rfl ?_; intro G hG) | (refine wpL_storeH 2 hG rfl rfl rfl rfl rfl rfl rfl rfl rfl rfl rfl ?_; intro G hG) | (refine wpL_storeH 3 hG rfl rfl rfl rfl rfl rfl rfl rfl rfl rfl rfl ?_; intro G hG) | (refine wpL_storeH 4 hG rfl rfl rfl rfl rfl rfl rfl rfl rfl rfl rfl ?_; intro G hG) | (refine wpL_storeH 5 hG rfl rfl rfl rfl rfl rfl rfl rfl rfl rfl rfl ?_; intro G hG) | (refine wpL_allocH hG rfl rfl (by decide) rfl rfl ?_; intro id G hG) | (refine wpL_boxH hG rfl rfl (by decide) rfl rfl rfl ?_; intro id G hG) | refine wpA_ct rfl (by first | rfl | exact decide_eq_true (by omega) | exact ndec_t (by omega)) ?_ | refine wpA_cf rfl (by first | rfl | exact decide_eq_false (by omega) | exact ndec_f (by omega)) ?_ | refine wpA_skip ?_ | refine wpA_exit ?_ | refine wpA_ret ?_ | refine x_then_exit ?_ | refine x_then_ret ?_ | refine x_then_normal ?_ | refine x_block_ret ?_ | refine x_block_normal ?_ | refine x_block_exit ?_ | refine x_block_other rfl ?_)
  exact postA_c rfl rfl (loadA_at (hG.get 2 _ _ rfl)) ⟨oi, oc, rfl, hG.drop2⟩
end Go.Proofs.YtpmfnjkcoogicaaGreat
