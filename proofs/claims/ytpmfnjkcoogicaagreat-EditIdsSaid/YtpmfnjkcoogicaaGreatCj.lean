/- Clone of heads, cells, rows and items: the same data. -/
import Derived.Test.YtpmfnjkcoogicaaGreatCh
namespace Go.Proofs.YtpmfnjkcoogicaaGreat
open Go.RowKit Go.Th
set_option linter.unusedVariables false
set_option maxRecDepth 20000

def HBd (h : Head) : Prop := h.props.length ≤ 1000000 ∧ h.dels.length ≤ 1000000 ∧ h.lyrs.length ≤ 1000000
theorem HBd.of {h : Head} (k : costH h ≤ 300) : HBd h := by
  unfold costH at k
  exact ⟨by omega, by omega, by omega⟩

theorem clone97_iso (l : List Prp) (hl : l.length ≤ 1000000) : Iso Tryz.prog 97 [propsP l] (fun p => p = propsP l) :=
  Iso_of_AC (clone97 l hl) fun p H h => OwnR.conv (fun x _ => trees_cons (tree_I _) (trees_cons (tree_I _) trees_nil)) (flat_len len97 l) h
theorem clone98_iso (l : List Dl) (hl : l.length ≤ 1000000) : Iso Tryz.prog 98 [delsP l] (fun p => p = delsP l) :=
  Iso_of_AC (clone98 l hl) fun p H h => OwnR.conv (fun x _ => trees_cons (tree_I _) (trees_cons (tree_I _) trees_nil)) (flat_len len98 l) h
theorem clone99_iso (l : List Lyr) (hl : l.length ≤ 1000000) : Iso Tryz.prog 99 [lyrsP l] (fun p => p = lyrsP l) :=
  Iso_of_AC (clone99 l hl) fun p H h => OwnR.conv (fun x _ => trees_cons (tree_I _) (trees_cons (tree_I _) (trees_cons (tree_I _) (trees_cons (tree_B _) trees_nil)))) (flat_len len99 l) h

set_option maxHeartbeats 16000000 in
theorem cloneHead_iso (h : Head) (hb : HBd h) : Iso Tryz.prog 63 [.agg (encHead h)] (fun p => p = .agg (encHead h)) := by
  have hG := has_nil
  have c1 := clone97_iso h.props hb.1
  have c2 := clone98_iso h.dels hb.2.1
  have c3 := clone99_iso h.lyrs hb.2.2
  refine Iso_enter Tryz.func63 rfl rfl rfl ?_
  repeat (first | refine wpL_end ?_ | refine wpL_nil ?_ | refine wpA_seq ?_ | refine wpA_region ?_ | refine wpA_block ?_ | (refine wpL_is rfl rfl rfl rfl rfl rfl (by decide) c1 (TreeL.cons (tree_propsP _) TreeL.nil) ?_; rintro _ rfl) | refine wpL_v rfl rfl (by decide) (OpV_fieldAddr rfl rfl rfl rfl) ?_ | refine wpL_v rfl rfl (by decide) (OpV_load rfl rfl rfl) ?_ | refine wpL_loadH 0 hG rfl rfl (by decide) rfl rfl rfl rfl ?_ | refine wpL_loadH 1 hG rfl rfl (by decide) rfl rfl rfl rfl ?_ | refine wpL_loadH 2 hG rfl rfl (by decide) rfl rfl rfl rfl ?_ | refine wpL_loadH 3 hG rfl rfl (by decide) rfl rfl rfl rfl ?_ | refine wpL_loadH 4 hG rfl rfl (by decide) rfl rfl rfl rfl ?_ | refine wpL_loadH 5 hG rfl rfl (by decide) rfl rfl rfl rfl ?_ | (refine wpL_storeH 0 hG rfl rfl rfl rfl rfl rfl rfl rfl rfl rfl rfl ?_; intro G hG) | (refine wpL_storeH 1 hG rfl rfl rfl rfl rfl rfl rfl rfl rfl rfl rfl ?_; intro G hG) | (refine wpL_storeH 2 hG rfl rfl rfl rfl rfl rfl rfl rfl rfl rfl rfl ?_; intro G hG) | (refine wpL_storeH 3 hG rfl rfl rfl rfl rfl rfl rfl rfl rfl rfl rfl ?_; intro G hG) | (refine wpL_storeH 4 hG rfl rfl rfl rfl rfl rfl rfl rfl rfl rfl rfl ?_; intro G hG) | (refine wpL_storeH 5 hG rfl rfl rfl rfl rfl rfl rfl rfl rfl rfl rfl ?_; intro G hG) | (refine wpL_allocH hG rfl rfl (by decide) rfl rfl ?_; intro id G hG) | (refine wpL_boxH hG rfl rfl (by decide) rfl rfl rfl ?_; intro id G hG) | refine wpA_ct rfl (by first | rfl | exact decide_eq_true (by omega) | exact ndec_t (by omega)) ?_ | refine wpA_cf rfl (by first | rfl | exact decide_eq_false (by omega) | exact ndec_f (by omega)) ?_ | refine wpA_skip ?_ | refine wpA_exit ?_ | refine wpA_ret ?_ | refine x_then_exit ?_ | refine x_then_ret ?_ | refine x_then_normal ?_ | refine x_block_ret ?_ | refine x_block_normal ?_ | refine x_block_exit ?_ | refine x_block_other rfl ?_)
  rename_i _ ib _ _ _ _
  have hG : Has G [(_, ⟨_, 41, true⟩), (ib, ⟨encHead h, 41, true⟩)] := hG
  obtain ⟨H1, e1⟩ : ∃ X, X = G.set ib (some ⟨encHead h, 41, true⟩) := ⟨_, rfl⟩
  have hG1 := hG.set (k := 1) rfl ⟨encHead h, 41, true⟩
  rw [← e1] at hG1
  obtain ⟨H2, e2⟩ : ∃ X, X = H1.set ib (some ⟨encHead h, 41, true⟩) := ⟨_, rfl⟩
  have hG2 := hG1.set (k := 1) rfl ⟨encHead h, 41, true⟩
  rw [← e2] at hG2
  refine wpA_yL [H1, H2] H2 mixed (by decide +kernel) (N := 2) (by decide +kernel) rfl ?_
  repeat (first | refine Y_r 0 (by decide +kernel) (by decide +kernel) rfl rfl rfl rfl (by decide) (OpV_load_at rfl rfl (hG.get 1 _ _ rfl) rfl) ?_ | refine Y_k rfl rfl rfl (by decide) (fun _ => Iso.K rfl rfl rfl rfl c2 (TreeL.cons (tree_delsP _) TreeL.nil)) ?_ | refine Y_k rfl rfl rfl (by decide) (fun _ => Iso.K rfl rfl rfl rfl c3 (TreeL.cons (tree_lyrsP _) TreeL.nil)) ?_ | refine Y_s 0 (by decide +kernel) rfl rfl rfl rfl (OpS_store_at rfl rfl rfl (hG.get 1 _ _ rfl) rfl rfl rfl rfl rfl) e1 ?_ | refine Y_s 1 (by decide +kernel) rfl rfl rfl rfl (OpS_store_at rfl rfl rfl (hG1.get 1 _ _ rfl) rfl rfl rfl rfl rfl) e2 ?_ | refine Y_v rfl rfl rfl (by decide) (fun _ => OpV_fieldAddr rfl rfl rfl rfl) ?_ | refine Y_v rfl rfl rfl (by decide) (fun _ => OpV_load rfl rfl rfl) ?_ | refine Y_end ?_)
  have hG := hG2
  repeat (first | refine wpL_end ?_ | refine wpL_nil ?_ | refine wpA_seq ?_ | refine wpA_region ?_ | refine wpA_block ?_ | refine wpL_v rfl rfl (by decide) (OpV_fieldAddr rfl rfl rfl rfl) ?_ | refine wpL_v rfl rfl (by decide) (OpV_load rfl rfl rfl) ?_ | refine wpL_loadH 0 hG rfl rfl (by decide) rfl rfl rfl rfl ?_ | refine wpL_loadH 1 hG rfl rfl (by decide) rfl rfl rfl rfl ?_ | refine wpL_loadH 2 hG rfl rfl (by decide) rfl rfl rfl rfl ?_ | refine wpL_loadH 3 hG rfl rfl (by decide) rfl rfl rfl rfl ?_ | refine wpL_loadH 4 hG rfl rfl (by decide) rfl rfl rfl rfl ?_ | refine wpL_loadH 5 hG rfl rfl (by decide) rfl rfl rfl rfl ?_ | (refine wpL_storeH 0 hG rfl rfl rfl rfl rfl rfl rfl rfl rfl rfl rfl ?_; intro G hG) | (refine wpL_storeH 1 hG rfl rfl rfl rfl rfl rfl rfl rfl rfl rfl rfl ?_; intro G hG) | (refine wpL_storeH 2 hG rfl rfl rfl rfl rfl rfl rfl rfl rfl rfl rfl ?_; intro G hG) | (refine wpL_storeH 3 hG rfl rfl rfl rfl rfl rfl rfl rfl rfl rfl rfl ?_; intro G hG) | (refine wpL_storeH 4 hG rfl rfl rfl rfl rfl rfl rfl rfl rfl rfl rfl ?_; intro G hG) | (refine wpL_storeH 5 hG rfl rfl rfl rfl rfl rfl rfl rfl rfl rfl rfl ?_; intro G hG) | (refine wpL_allocH hG rfl rfl (by decide) rfl rfl ?_; intro id G hG) | (refine wpL_boxH hG rfl rfl (by decide) rfl rfl rfl ?_; intro id G hG) | refine wpA_ct rfl (by first | rfl | exact decide_eq_true (by omega) | exact ndec_t (by omega)) ?_ | refine wpA_cf rfl (by first | rfl | exact decide_eq_false (by omega) | exact ndec_f (by omega)) ?_ | refine wpA_skip ?_ | refine wpA_exit ?_ | refine wpA_ret ?_ | refine x_then_exit ?_ | refine x_then_ret ?_ | refine x_then_normal ?_ | refine x_block_ret ?_ | refine x_block_normal ?_ | refine x_block_exit ?_ | refine x_block_other rfl ?_)
  exact postI_c rfl rfl (loadA_at (hG.get 0 _ _ rfl)) (.refl _) (Tree.agg (trees_head _)) rfl
end Go.Proofs.YtpmfnjkcoogicaaGreat
