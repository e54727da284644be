/- Clone of cells, rows and items: the same data. -/
import Derived.Test.YtpmfnjkcoogicaaGreatCj
namespace Go.Proofs.YtpmfnjkcoogicaaGreat
open Go.RowKit Go.Th
set_option linter.unusedVariables false
set_option maxRecDepth 20000

/-- What clones a list of items gives the list again. -/
abbrev ClI (l : List Item) : Prop := costIs l ≤ 300 → Iso Tryz.prog 41 [itemsP l] (fun p => p = itemsP l)

set_option maxHeartbeats 16000000 in
theorem cloneCell_iso (x : Cell) (hc : costC x ≤ 300) (hI : ∀ i h f, x = .mk i h f → ClI f) : Iso Tryz.prog 45 [.agg (encCell x)] (fun p => p = .agg (encCell x)) := by
  obtain ⟨d, h, f⟩ := x
  rw [costC] at hc
  have hf := hI d h f rfl (by omega)
  have hh := cloneHead_iso h (HBd.of (by omega))
  clear hI
  rw [encCell_mk]
  have hG := has_nil
  refine Iso_enter Tryz.func45 rfl rfl rfl ?_
  repeat (first | refine wpL_end ?_ | refine wpL_nil ?_ | refine wpA_seq ?_ | refine wpA_region ?_ | refine wpA_block ?_ | refine wpL_v rfl rfl (by decide) (OpV_fieldAddr rfl rfl rfl rfl) ?_ | refine wpL_v rfl rfl (by decide) (OpV_load rfl rfl rfl) ?_ | refine wpL_v rfl rfl (by decide) (OpV_build rfl rfl rfl rfl) ?_ | refine wpL_loadH 0 hG rfl rfl (by decide) rfl rfl rfl rfl ?_ | refine wpL_loadH 1 hG rfl rfl (by decide) rfl rfl rfl rfl ?_ | refine wpL_loadH 2 hG rfl rfl (by decide) rfl rfl rfl rfl ?_ | refine wpL_loadH 3 hG rfl rfl (by decide) rfl rfl rfl rfl ?_ | refine wpL_loadH 4 hG rfl rfl (by decide) rfl rfl rfl rfl ?_ | refine wpL_loadH 5 hG rfl rfl (by decide) rfl rfl rfl rfl ?_ | (refine wpL_storeH 0 hG rfl rfl rfl rfl rfl rfl rfl rfl rfl rfl rfl ?_; intro G hG) | (refine wpL_storeH 1 hG rfl rfl rfl rfl rfl rfl rfl rfl rfl rfl rfl ?_; intro G hG) | (refine wpL_storeH 2 hG rfl rfl rfl rfl rfl rfl rfl rfl rfl rfl rfl ?_; intro G hG) | (refine wpL_storeH 3 hG rfl rfl rfl rfl rfl rfl rfl rfl rfl rfl rfl ?_; intro G hG) | (refine wpL_storeH 4 hG rfl rfl rfl rfl rfl rfl rfl rfl rfl rfl rfl ?_; intro G hG) | (refine wpL_storeH 5 hG rfl rfl rfl rfl rfl rfl rfl rfl rfl rfl rfl ?_; intro G hG) | (refine wpL_allocH hG rfl rfl (by decide) rfl rfl ?_; intro id G hG) | (refine wpL_boxH hG rfl rfl (by decide) rfl rfl rfl ?_; intro id G hG) | refine wpA_ct rfl (by first | rfl | exact decide_eq_true (by omega) | exact ndec_t (by omega)) ?_ | refine wpA_cf rfl (by first | rfl | exact decide_eq_false (by omega) | exact ndec_f (by omega)) ?_ | refine wpA_skip ?_ | refine wpA_exit ?_ | refine wpA_ret ?_ | refine x_then_exit ?_ | refine x_then_ret ?_ | refine x_then_normal ?_ | refine x_block_ret ?_ | refine x_block_normal ?_ | refine x_block_exit ?_ | refine x_block_other rfl ?_)
  rename_i ib _ _
  have hG : Has G [(id, ⟨_, 59, true⟩), (ib, ⟨[I d, propsP h.props, I h.ins, I h.move, delsP h.dels, lyrsP h.lyrs, itemsP f], 59, true⟩)] := hG
  obtain ⟨H1, e1⟩ : ∃ X, X = G.set id (some ⟨[I d, propsP h.props, I h.ins, I h.move, delsP h.dels, lyrsP h.lyrs, itemsP f], 59, true⟩) := ⟨_, rfl⟩
  have hG1 := hG.set (k := 0) rfl ⟨[I d, propsP h.props, I h.ins, I h.move, delsP h.dels, lyrsP h.lyrs, itemsP f], 59, true⟩
  rw [← e1] at hG1
  refine wpA_yL [H1] H1 mixed (by decide +kernel) (N := 1) (by decide +kernel) rfl ?_
  repeat (first | refine Y_r 0 (by decide +kernel) (by decide +kernel) rfl rfl rfl rfl (by decide) (OpV_load_at rfl rfl (hG.get 1 _ _ rfl) rfl) ?_ | refine Y_k rfl rfl rfl (by decide) (fun _ => Iso.K rfl rfl rfl rfl hh (TreeL.cons (Tree.agg (trees_head _)) TreeL.nil)) ?_ | refine Y_k rfl rfl rfl (by decide) (fun _ => Iso.K rfl rfl rfl rfl hf (TreeL.cons (tree_itemsP _) TreeL.nil)) ?_ | refine Y_s 0 (by decide +kernel) rfl rfl rfl rfl (OpS_store_at rfl rfl rfl (hG.get 0 _ _ rfl) rfl rfl rfl rfl rfl) e1 ?_ | refine Y_v rfl rfl rfl (by decide) (fun _ => OpV_fieldAddr rfl rfl rfl rfl) ?_ | refine Y_v rfl rfl rfl (by decide) (fun _ => OpV_load rfl rfl rfl) ?_ | refine Y_v rfl rfl rfl (by decide) (fun _ => OpV_build rfl rfl rfl rfl) ?_ | refine Y_end ?_)
  have hG := hG1
  repeat (first | refine wpL_end ?_ | refine wpL_nil ?_ | refine wpA_seq ?_ | refine wpA_region ?_ | refine wpA_block ?_ | refine wpL_v rfl rfl (by decide) (OpV_fieldAddr rfl rfl rfl rfl) ?_ | refine wpL_v rfl rfl (by decide) (OpV_load rfl rfl rfl) ?_ | refine wpL_v rfl rfl (by decide) (OpV_build rfl rfl rfl rfl) ?_ | refine wpL_loadH 0 hG rfl rfl (by decide) rfl rfl rfl rfl ?_ | refine wpL_loadH 1 hG rfl rfl (by decide) rfl rfl rfl rfl ?_ | refine wpL_loadH 2 hG rfl rfl (by decide) rfl rfl rfl rfl ?_ | refine wpL_loadH 3 hG rfl rfl (by decide) rfl rfl rfl rfl ?_ | refine wpL_loadH 4 hG rfl rfl (by decide) rfl rfl rfl rfl ?_ | refine wpL_loadH 5 hG rfl rfl (by decide) rfl rfl rfl rfl ?_ | (refine wpL_storeH 0 hG rfl rfl rfl rfl rfl rfl rfl rfl rfl rfl rfl ?_; intro G hG) | (refine wpL_storeH 1 hG rfl rfl rfl rfl rfl rfl rfl rfl rfl rfl rfl ?_; intro G hG) | (refine wpL_storeH 2 hG rfl rfl rfl rfl rfl rfl rfl rfl rfl rfl rfl ?_; intro G hG) | (refine wpL_storeH 3 hG rfl rfl rfl rfl rfl rfl rfl rfl rfl rfl rfl ?_; intro G hG) | (refine wpL_storeH 4 hG rfl rfl rfl rfl rfl rfl rfl rfl rfl rfl rfl ?_; intro G hG) | (refine wpL_storeH 5 hG rfl rfl rfl rfl rfl rfl rfl rfl rfl rfl rfl ?_; intro G hG) | (refine wpL_allocH hG rfl rfl (by decide) rfl rfl ?_; intro id G hG) | (refine wpL_boxH hG rfl rfl (by decide) rfl rfl rfl ?_; intro id G hG) | refine wpA_ct rfl (by first | rfl | exact decide_eq_true (by omega) | exact ndec_t (by omega)) ?_ | refine wpA_cf rfl (by first | rfl | exact decide_eq_false (by omega) | exact ndec_f (by omega)) ?_ | refine wpA_skip ?_ | refine wpA_exit ?_ | refine wpA_ret ?_ | refine x_then_exit ?_ | refine x_then_ret ?_ | refine x_then_normal ?_ | refine x_block_ret ?_ | refine x_block_normal ?_ | refine x_block_exit ?_ | refine x_block_other rfl ?_)
  exact postI_c rfl rfl (loadA_at (hG.get 0 _ _ rfl)) (.refl _) (Tree.agg (by rw [← encCell_mk]; exact trees_cell _)) rfl

set_option maxHeartbeats 16000000 in
theorem cloneRow_iso (x : Row) (hc : costR x ≤ 300) (hI : ∀ h cs, x = .mk h cs → ∀ y ∈ cs, ∀ i hh f, y = .mk i hh f → ClI f) : Iso Tryz.prog 43 [.agg (encRow x)] (fun p => p = .agg (encRow x)) := by
  obtain ⟨h, cs⟩ := x
  rw [costR] at hc
  have hl := costCs_len cs
  have hf : Iso Tryz.prog 65 [cellsP cs, .fn (.func 45) []] (fun p => p = cellsP cs) :=
    Iso_of_AC (each65 45 cs (by omega) fun y hy => cloneCell_iso y (by have := costCs_mem hy; omega) (hI h cs rfl y hy)) fun p H h => OwnR.conv (fun x _ => trees_cell x) (flat_len encCell_len cs) h
  have hh := cloneHead_iso h (HBd.of (by omega))
  clear hI
  rw [encRow_mk]
  have hG := has_nil
  refine Iso_enter Tryz.func43 rfl rfl rfl ?_
  repeat (first | refine wpL_end ?_ | refine wpL_nil ?_ | refine wpA_seq ?_ | refine wpA_region ?_ | refine wpA_block ?_ | refine wpL_v rfl rfl (by decide) (OpV_fieldAddr rfl rfl rfl rfl) ?_ | refine wpL_v rfl rfl (by decide) (OpV_load rfl rfl rfl) ?_ | refine wpL_v rfl rfl (by decide) (OpV_build rfl rfl rfl rfl) ?_ | refine wpL_loadH 0 hG rfl rfl (by decide) rfl rfl rfl rfl ?_ | refine wpL_loadH 1 hG rfl rfl (by decide) rfl rfl rfl rfl ?_ | refine wpL_loadH 2 hG rfl rfl (by decide) rfl rfl rfl rfl ?_ | refine wpL_loadH 3 hG rfl rfl (by decide) rfl rfl rfl rfl ?_ | refine wpL_loadH 4 hG rfl rfl (by decide) rfl rfl rfl rfl ?_ | refine wpL_loadH 5 hG rfl rfl (by decide) rfl rfl rfl rfl ?_ | (refine wpL_storeH 0 hG rfl rfl rfl rfl rfl rfl rfl rfl rfl rfl rfl ?_; intro G hG) | (refine wpL_storeH 1 hG rfl rfl rfl rfl rfl rfl rfl rfl rfl rfl rfl ?_; intro G hG) | (refine wpL_storeH 2 hG rfl rfl rfl rfl rfl rfl rfl rfl rfl rfl rfl ?_; intro G hG) | (refine wpL_storeH 3 hG rfl rfl rfl rfl rfl rfl rfl rfl rfl rfl rfl ?_; intro G hG) | (refine wpL_storeH 4 hG rfl rfl rfl rfl rfl rfl rfl rfl rfl rfl rfl ?_; intro G hG) | (refine wpL_storeH 5 hG rfl rfl rfl rfl rfl rfl rfl rfl rfl rfl rfl ?_; intro G hG) | (refine wpL_allocH hG rfl rfl (by decide) rfl rfl ?_; intro id G hG) | (refine wpL_boxH hG rfl rfl (by decide) rfl rfl rfl ?_; intro id G hG) | refine wpA_ct rfl (by first | rfl | exact decide_eq_true (by omega) | exact ndec_t (by omega)) ?_ | refine wpA_cf rfl (by first | rfl | exact decide_eq_false (by omega) | exact ndec_f (by omega)) ?_ | refine wpA_skip ?_ | refine wpA_exit ?_ | refine wpA_ret ?_ | refine x_then_exit ?_ | refine x_then_ret ?_ | refine x_then_normal ?_ | refine x_block_ret ?_ | refine x_block_normal ?_ | refine x_block_exit ?_ | refine x_block_other rfl ?_)
  rename_i ib _ _
  have hG : Has G [(id, ⟨_, 43, true⟩), (ib, ⟨[propsP h.props, I h.ins, I h.move, delsP h.dels, lyrsP h.lyrs, cellsP cs], 43, true⟩)] := hG
  obtain ⟨H1, e1⟩ : ∃ X, X = G.set id (some ⟨[propsP h.props, I h.ins, I h.move, delsP h.dels, lyrsP h.lyrs, cellsP cs], 43, true⟩) := ⟨_, rfl⟩
  have hG1 := hG.set (k := 0) rfl ⟨[propsP h.props, I h.ins, I h.move, delsP h.dels, lyrsP h.lyrs, cellsP cs], 43, true⟩
  rw [← e1] at hG1
  refine wpA_yL [H1] H1 mixed (by decide +kernel) (N := 1) (by decide +kernel) rfl ?_
  repeat (first | refine Y_r 0 (by decide +kernel) (by decide +kernel) rfl rfl rfl rfl (by decide) (OpV_load_at rfl rfl (hG.get 1 _ _ rfl) rfl) ?_ | refine Y_k rfl rfl rfl (by decide) (fun _ => Iso.K rfl rfl rfl rfl hh (TreeL.cons (Tree.agg (trees_head _)) TreeL.nil)) ?_ | refine Y_k rfl rfl rfl (by decide) (fun _ => Iso.K rfl rfl rfl rfl hf (TreeL.cons (tree_cellsP _) (TreeL.cons (Tree.fn trees_nil) TreeL.nil))) ?_ | refine Y_s 0 (by decide +kernel) rfl rfl rfl rfl (OpS_store_at rfl rfl rfl (hG.get 0 _ _ rfl) rfl rfl rfl rfl rfl) e1 ?_ | refine Y_v rfl rfl rfl (by decide) (fun _ => OpV_fieldAddr rfl rfl rfl rfl) ?_ | refine Y_v rfl rfl rfl (by decide) (fun _ => OpV_load rfl rfl rfl) ?_ | refine Y_v rfl rfl rfl (by decide) (fun _ => OpV_build rfl rfl rfl rfl) ?_ | refine Y_end ?_)
  have hG := hG1
  repeat (first | refine wpL_end ?_ | refine wpL_nil ?_ | refine wpA_seq ?_ | refine wpA_region ?_ | refine wpA_block ?_ | refine wpL_v rfl rfl (by decide) (OpV_fieldAddr rfl rfl rfl rfl) ?_ | refine wpL_v rfl rfl (by decide) (OpV_load rfl rfl rfl) ?_ | refine wpL_v rfl rfl (by decide) (OpV_build rfl rfl rfl rfl) ?_ | refine wpL_loadH 0 hG rfl rfl (by decide) rfl rfl rfl rfl ?_ | refine wpL_loadH 1 hG rfl rfl (by decide) rfl rfl rfl rfl ?_ | refine wpL_loadH 2 hG rfl rfl (by decide) rfl rfl rfl rfl ?_ | refine wpL_loadH 3 hG rfl rfl (by decide) rfl rfl rfl rfl ?_ | refine wpL_loadH 4 hG rfl rfl (by decide) rfl rfl rfl rfl ?_ | refine wpL_loadH 5 hG rfl rfl (by decide) rfl rfl rfl rfl ?_ | (refine wpL_storeH 0 hG rfl rfl rfl rfl rfl rfl rfl rfl rfl rfl rfl ?_; intro G hG) | (refine wpL_storeH 1 hG rfl rfl rfl rfl rfl rfl rfl rfl rfl rfl rfl ?_; intro G hG) | (refine wpL_storeH 2 hG rfl rfl rfl rfl rfl rfl rfl rfl rfl rfl rfl ?_; intro G hG) | (refine wpL_storeH 3 hG rfl rfl rfl rfl rfl rfl rfl rfl rfl rfl rfl ?_; intro G hG) | (refine wpL_storeH 4 hG rfl rfl rfl rfl rfl rfl rfl rfl rfl rfl rfl ?_; intro G hG) | (refine wpL_storeH 5 hG rfl rfl rfl rfl rfl rfl rfl rfl rfl rfl rfl ?_; intro G hG) | (refine wpL_allocH hG rfl rfl (by decide) rfl rfl ?_; intro id G hG) | (refine wpL_boxH hG rfl rfl (by decide) rfl rfl rfl ?_; intro id G hG) | refine wpA_ct rfl (by first | rfl | exact decide_eq_true (by omega) | exact ndec_t (by omega)) ?_ | refine wpA_cf rfl (by first | rfl | exact decide_eq_false (by omega) | exact ndec_f (by omega)) ?_ | refine wpA_skip ?_ | refine wpA_exit ?_ | refine wpA_ret ?_ | refine x_then_exit ?_ | refine x_then_ret ?_ | refine x_then_normal ?_ | refine x_block_ret ?_ | refine x_block_normal ?_ | refine x_block_exit ?_ | refine x_block_other rfl ?_)
  exact postI_c rfl rfl (loadA_at (hG.get 0 _ _ rfl)) (.refl _) (Tree.agg (by rw [← encRow_mk]; exact trees_row _)) rfl

set_option maxHeartbeats 16000000 in
theorem cloneItem_iso (x : Item) (hc : costI x ≤ 300) (hI : ∀ k c i t h f r, x = .mk k c i t h f r → ClI f ∧ ∀ y ∈ r, ∀ h cs, y = .mk h cs → ∀ y ∈ cs, ∀ i hh f, y = .mk i hh f → ClI f) : Iso Tryz.prog 62 [.agg (encItem x)] (fun p => p = .agg (encItem x)) := by
  obtain ⟨k, c, i, t, h, f, r⟩ := x
  rw [costI] at hc
  have hl := costRs_len r
  obtain ⟨hI1, hI2⟩ := hI k c i t h f r rfl
  have hf := hI1 (by omega)
  have hr : Iso Tryz.prog 64 [rowsP r, .fn (.func 43) []] (fun p => p = rowsP r) :=
    Iso_of_AC (each64 43 r (by omega) fun y hy => cloneRow_iso y (by have := costRs_mem hy; omega) (hI2 y hy)) fun p H h => OwnR.conv (fun x _ => trees_row x) (flat_len encRow_len r) h
  have hh := cloneHead_iso h (HBd.of (by omega))
  clear hI hI1 hI2
  rw [encItem_mk]
  have hG := has_nil
  refine Iso_enter Tryz.func62 rfl rfl rfl ?_
  repeat (first | refine wpL_end ?_ | refine wpL_nil ?_ | refine wpA_seq ?_ | refine wpA_region ?_ | refine wpA_block ?_ | refine wpL_v rfl rfl (by decide) (OpV_fieldAddr rfl rfl rfl rfl) ?_ | refine wpL_v rfl rfl (by decide) (OpV_load rfl rfl rfl) ?_ | refine wpL_loadH 0 hG rfl rfl (by decide) rfl rfl rfl rfl ?_ | refine wpL_loadH 1 hG rfl rfl (by decide) rfl rfl rfl rfl ?_ | refine wpL_loadH 2 hG rfl rfl (by decide) rfl rfl rfl rfl ?_ | refine wpL_loadH 3 hG rfl rfl (by decide) rfl rfl rfl rfl ?_ | refine wpL_loadH 4 hG rfl rfl (by decide) rfl rfl rfl rfl ?_ | refine wpL_loadH 5 hG rfl rfl (by decide) rfl rfl rfl rfl ?_ | (refine wpL_storeH 0 hG rfl rfl rfl rfl rfl rfl rfl rfl rfl rfl rfl ?_; intro G hG) | (refine wpL_storeH 1 hG rfl rfl rfl rfl rfl rfl rfl rfl rfl rfl rfl ?_; intro G hG) | (refine wpL_storeH 2 hG rfl rfl rfl rfl rfl rfl rfl rfl rfl rfl rfl ?_; intro G hG) | (refine wpL_storeH 3 hG rfl rfl rfl rfl rfl rfl rfl rfl rfl rfl rfl ?_; intro G hG) | (refine wpL_storeH 4 hG rfl rfl rfl rfl rfl rfl rfl rfl rfl rfl rfl ?_; intro G hG) | (refine wpL_storeH 5 hG rfl rfl rfl rfl rfl rfl rfl rfl rfl rfl rfl ?_; intro G hG) | (refine wpL_allocH hG rfl rfl (by decide) rfl rfl ?_; intro id G hG) | (refine wpL_boxH hG rfl rfl (by decide) rfl rfl rfl ?_; intro id G hG) | refine wpA_ct rfl (by first | rfl | exact decide_eq_true (by omega) | exact ndec_t (by omega)) ?_ | refine wpA_cf rfl (by first | rfl | exact decide_eq_false (by omega) | exact ndec_f (by omega)) ?_ | refine wpA_skip ?_ | refine wpA_exit ?_ | refine wpA_ret ?_ | refine x_then_exit ?_ | refine x_then_ret ?_ | refine x_then_normal ?_ | refine x_block_ret ?_ | refine x_block_normal ?_ | refine x_block_exit ?_ | refine x_block_other rfl ?_)
  rename_i ib _ _
  have hG : Has G [(id, ⟨_, 45, true⟩), (ib, ⟨[I k, I c, I i, S t, propsP h.props, I h.ins, I h.move, delsP h.dels, lyrsP h.lyrs, itemsP f, rowsP r], 45, true⟩)] := hG
  obtain ⟨H1, e1⟩ : ∃ X, X = G.set ib (some ⟨[I k, I c, I i, S t, propsP h.props, I h.ins, I h.move, delsP h.dels, lyrsP h.lyrs, itemsP f, rowsP r], 45, true⟩) := ⟨_, rfl⟩
  have hG1 := hG.set (k := 1) rfl ⟨[I k, I c, I i, S t, propsP h.props, I h.ins, I h.move, delsP h.dels, lyrsP h.lyrs, itemsP f, rowsP r], 45, true⟩
  rw [← e1] at hG1
  obtain ⟨H2, e2⟩ : ∃ X, X = H1.set ib (some ⟨[I k, I c, I i, S t, propsP h.props, I h.ins, I h.move, delsP h.dels, lyrsP h.lyrs, itemsP f, rowsP r], 45, true⟩) := ⟨_, rfl⟩
  have hG2 := hG1.set (k := 1) rfl ⟨[I k, I c, I i, S t, propsP h.props, I h.ins, I h.move, delsP h.dels, lyrsP h.lyrs, itemsP f, rowsP r], 45, true⟩
  rw [← e2] at hG2
  obtain ⟨H3, e3⟩ : ∃ X, X = H2.set ib (some ⟨[I k, I c, I i, S t, propsP h.props, I h.ins, I h.move, delsP h.dels, lyrsP h.lyrs, itemsP f, rowsP r], 45, true⟩) := ⟨_, rfl⟩
  have hG3 := hG2.set (k := 1) rfl ⟨[I k, I c, I i, S t, propsP h.props, I h.ins, I h.move, delsP h.dels, lyrsP h.lyrs, itemsP f, rowsP r], 45, true⟩
  rw [← e3] at hG3
  refine wpA_yL [H1, H2, H3] H3 mixed (by decide +kernel) (N := 3) (by decide +kernel) rfl ?_
  repeat (first | refine Y_r 0 (by decide +kernel) (by decide +kernel) rfl rfl rfl rfl (by decide) (OpV_load_at rfl rfl (hG.get 1 _ _ rfl) rfl) ?_ | refine Y_k rfl rfl rfl (by decide) (fun _ => Iso.K rfl rfl rfl rfl hh (TreeL.cons (Tree.agg (trees_head _)) TreeL.nil)) ?_ | refine Y_k rfl rfl rfl (by decide) (fun _ => Iso.K rfl rfl rfl rfl hf (TreeL.cons (tree_itemsP _) TreeL.nil)) ?_ | refine Y_k rfl rfl rfl (by decide) (fun _ => Iso.K rfl rfl rfl rfl hr (TreeL.cons (tree_rowsP _) (TreeL.cons (Tree.fn trees_nil) TreeL.nil))) ?_ | refine Y_s 0 (by decide +kernel) rfl rfl rfl rfl (OpS_store_at rfl rfl rfl (hG.get 1 _ _ rfl) rfl rfl rfl rfl rfl) e1 ?_ | refine Y_s 1 (by decide +kernel) rfl rfl rfl rfl (OpS_store_at rfl rfl rfl (hG1.get 1 _ _ rfl) rfl rfl rfl rfl rfl) e2 ?_ | refine Y_s 2 (by decide +kernel) rfl rfl rfl rfl (OpS_store_at rfl rfl rfl (hG2.get 1 _ _ rfl) rfl rfl rfl rfl rfl) e3 ?_ | refine Y_v rfl rfl rfl (by decide) (fun _ => OpV_fieldAddr rfl rfl rfl rfl) ?_ | refine Y_v rfl rfl rfl (by decide) (fun _ => OpV_load rfl rfl rfl) ?_ | refine Y_end ?_)
  have hG := hG3
  repeat (first | refine wpL_end ?_ | refine wpL_nil ?_ | refine wpA_seq ?_ | refine wpA_region ?_ | refine wpA_block ?_ | refine wpL_v rfl rfl (by decide) (OpV_fieldAddr rfl rfl rfl rfl) ?_ | refine wpL_v rfl rfl (by decide) (OpV_load rfl rfl rfl) ?_ | refine wpL_loadH 0 hG rfl rfl (by decide) rfl rfl rfl rfl ?_ | refine wpL_loadH 1 hG rfl rfl (by decide) rfl rfl rfl rfl ?_ | refine wpL_loadH 2 hG rfl rfl (by decide) rfl rfl rfl rfl ?_ | refine wpL_loadH 3 hG rfl rfl (by decide) rfl rfl rfl rfl ?_ | refine wpL_loadH 4 hG rfl rfl (by decide) rfl rfl rfl rfl ?_ | refine wpL_loadH 5 hG rfl rfl (by decide) rfl rfl rfl rfl ?_ | (refine wpL_storeH 0 hG rfl rfl rfl rfl rfl rfl rfl rfl rfl rfl rfl ?_; intro G hG) | (refine wpL_storeH 1 hG rfl rfl rfl rfl rfl rfl rfl rfl rfl rfl rfl ?_; intro G hG) | (refine wpL_storeH 2 hG rfl rfl rfl rfl rfl rfl rfl rfl rfl rfl rfl ?_; intro G hG) | (refine wpL_storeH 3 hG rfl rfl rfl rfl rfl rfl rfl rfl rfl rfl rfl ?_; intro G hG) | (refine wpL_storeH 4 hG rfl rfl rfl rfl rfl rfl rfl rfl rfl rfl rfl ?_; intro G hG) | (refine wpL_storeH 5 hG rfl rfl rfl rfl rfl rfl rfl rfl rfl rfl rfl ?_; intro G hG) | (refine wpL_allocH hG rfl rfl (by decide) rfl rfl ?_; intro id G hG) | (refine wpL_boxH hG rfl rfl (by decide) rfl rfl rfl ?_; intro id G hG) | refine wpA_ct rfl (by first | rfl | exact decide_eq_true (by omega) | exact ndec_t (by omega)) ?_ | refine wpA_cf rfl (by first | rfl | exact decide_eq_false (by omega) | exact ndec_f (by omega)) ?_ | refine wpA_skip ?_ | refine wpA_exit ?_ | refine wpA_ret ?_ | refine x_then_exit ?_ | refine x_then_ret ?_ | refine x_then_normal ?_ | refine x_block_ret ?_ | refine x_block_normal ?_ | refine x_block_exit ?_ | refine x_block_other rfl ?_)
  exact postI_c rfl rfl (loadA_at (hG.get 0 _ _ rfl)) (.refl _) (Tree.agg (by rw [← encItem_mk]; exact trees_item _)) rfl

set_option maxHeartbeats 4000000 in
/-- The same list, and it is one's own. -/
theorem cloneItems_own (l : List Item) (hc : costIs l ≤ 300) (hE : ∀ x ∈ l, Iso Tryz.prog 62 [.agg (encItem x)] (fun p => p = .agg (encItem x))) : AC Tryz.prog 41 [itemsP l] [] (OwnR (l.flatMap encItem) 45 l.length 11) := by
  have hl := costIs_len l
  have h61 := each61 62 l (by omega) hE
  have hG := has_nil
  refine AC_enter Tryz.func41 rfl rfl rfl ?_
  repeat (first | refine wpL_end ?_ | refine wpL_nil ?_ | refine wpA_seq ?_ | refine wpA_region ?_ | refine wpA_block ?_ | refine wpL_v rfl rfl (by decide) (OpV_move rfl rfl) ?_ | refine wpL_v rfl rfl (by decide) (OpV_assign rfl rfl) ?_ | refine wpA_ct rfl (by first | rfl | exact decide_eq_true (by omega) | exact ndec_t (by omega)) ?_ | refine wpA_cf rfl (by first | rfl | exact decide_eq_false (by omega) | exact ndec_f (by omega)) ?_ | refine wpA_skip ?_ | refine wpA_exit ?_ | refine wpA_ret ?_ | refine x_then_exit ?_ | refine x_then_ret ?_ | refine x_then_normal ?_ | refine x_block_ret ?_ | refine x_block_normal ?_ | refine x_block_exit ?_ | refine x_block_other rfl ?_)
  refine wpL_ac rfl rfl rfl rfl rfl rfl (by decide) h61 ?_
  rintro _ G ⟨o, rfl, hB⟩
  repeat (first | refine wpL_end ?_ | refine wpL_nil ?_ | refine wpA_seq ?_ | refine wpA_region ?_ | refine wpA_block ?_ | refine wpL_v rfl rfl (by decide) (OpV_move rfl rfl) ?_ | refine wpL_v rfl rfl (by decide) (OpV_assign rfl rfl) ?_ | refine wpA_ct rfl (by first | rfl | exact decide_eq_true (by omega) | exact ndec_t (by omega)) ?_ | refine wpA_cf rfl (by first | rfl | exact decide_eq_false (by omega) | exact ndec_f (by omega)) ?_ | refine wpA_skip ?_ | refine wpA_exit ?_ | refine wpA_ret ?_ | refine x_then_exit ?_ | refine x_then_ret ?_ | refine x_then_normal ?_ | refine x_block_ret ?_ | refine x_block_normal ?_ | refine x_block_exit ?_ | refine x_block_other rfl ?_)
  exact postA_1 rfl rfl ⟨o, rfl, hB⟩

theorem cloneItems_all : ∀ (n : Nat) (l : List Item), SizeOf.sizeOf l ≤ n → costIs l ≤ 300 → ∀ x ∈ l, Iso Tryz.prog 62 [.agg (encItem x)] (fun p => p = .agg (encItem x)) := by
  intro n
  induction n with
  | zero => intro l hl; cases l <;> simp at hl <;> omega
  | succ n ih =>
    intro l hl hc x hx
    have hxl := List.sizeOf_lt_of_mem hx
    have hxc := costIs_mem hx
    have go : ∀ f : List Item, SizeOf.sizeOf f ≤ n → ClI f := fun f hf hcf =>
      Iso_of_AC (cloneItems_own f hcf (ih f hf hcf)) fun p H h => OwnR.conv (fun x _ => trees_item x) (flat_len encItem_len f) h
    refine cloneItem_iso x (by omega) ?_
    rintro k c i t h f r rfl
    simp only [Item.mk.sizeOf_spec] at hxl
    refine ⟨go f (by omega), ?_⟩
    rintro y hy hh cs rfl z hz j hz2 g rfl
    have h1 := List.sizeOf_lt_of_mem hy
    have h2 := List.sizeOf_lt_of_mem hz
    simp only [Row.mk.sizeOf_spec] at h1
    simp only [Cell.mk.sizeOf_spec] at h2
    exact go g (by omega)
theorem cloneItem_all (x : Item) (hc : costI x ≤ 300) : Iso Tryz.prog 62 [.agg (encItem x)] (fun p => p = .agg (encItem x)) :=
  cloneItems_all _ [x] (Nat.le_refl _) (by simp [costIs]; omega) x (by simp)
theorem clone41 (l : List Item) (hc : costIs l ≤ 300) : AC Tryz.prog 41 [itemsP l] [] (OwnR (l.flatMap encItem) 45 l.length 11) :=
  cloneItems_own l hc (cloneItems_all _ l (Nat.le_refl _) hc)
theorem clone41_iso (l : List Item) : ClI l := fun hc => Iso_of_AC (clone41 l hc) fun p H h => OwnR.conv (fun x _ => trees_item x) (flat_len encItem_len l) h
theorem cloneCell_all (x : Cell) (hc : costC x ≤ 300) : Iso Tryz.prog 45 [.agg (encCell x)] (fun p => p = .agg (encCell x)) := cloneCell_iso x hc fun _ _ f _ => clone41_iso f
theorem cloneRow_all (x : Row) (hc : costR x ≤ 300) : Iso Tryz.prog 43 [.agg (encRow x)] (fun p => p = .agg (encRow x)) := cloneRow_iso x hc fun _ _ _ _ _ _ _ f _ => clone41_iso f
theorem clone42_iso (l : List Row) (hc : costRs l ≤ 300) : Iso Tryz.prog 42 [rowsP l, .fn (.func 43) []] (fun p => p = rowsP l) :=
  Iso_of_AC (each42 43 l (by have := costRs_len l; omega) fun x hx => cloneRow_all x (by have := costRs_mem hx; omega)) fun p H h => OwnR.conv (fun x _ => trees_row x) (flat_len encRow_len l) h
theorem clone44 (l : List Cell) (hc : costCs l ≤ 300) : AC Tryz.prog 44 [cellsP l, .fn (.func 45) []] [] (OwnR (l.flatMap encCell) 59 l.length 7) :=
  each44 45 l (by have := costCs_len l; omega) fun x hx => cloneCell_all x (by have := costCs_mem hx; omega)
end Go.Proofs.YtpmfnjkcoogicaaGreat
