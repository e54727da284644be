/- Equality of styles, lists, items, rows, cells, documents and edits. -/
import Derived.Test.YtpmfnjkcoogicaaGreatEf
namespace Go.Proofs.YtpmfnjkcoogicaaGreat
open Go.RowKit Go.Th
set_option linter.unusedVariables false
set_option maxRecDepth 20000

theorem eqProps_iso (x y : List Prp) : Iso Tryz.prog 60 [propsP x, propsP y] (fun p => p = B (eqv x y)) := by
  have hG := has_nil
  refine Iso_enter Tryz.func60 rfl rfl rfl ?_
  repeat (first | refine wpL_end ?_ | refine wpA_seq ?_ | refine wpA_region ?_ | (refine wpL_is rfl rfl rfl rfl rfl rfl (by decide) (eqPrp_iso x y) (TreeL.cons (tree_propsP _) (TreeL.cons (tree_propsP _) TreeL.nil)) ?_; rintro _ rfl) | refine wpL_v rfl rfl (by decide) (OpV_move rfl rfl) ?_ | refine wpL_v rfl rfl (by decide) (OpV_assign rfl rfl) ?_ | refine wpA_ret ?_)
  exact postI_1 rfl rfl (.refl _) (.v _) rfl

set_option maxHeartbeats 8000000 in
theorem eqStyle_iso (x y : Style) : Iso Tryz.prog 59 [.agg (encStyle x), .agg (encStyle y)] (fun p => p = B (eqv x y)) := by
  have hG := has_nil
  refine Iso_enter Tryz.func59 rfl rfl rfl ?_
  repeat (first | refine wpL_end ?_ | refine wpA_seq ?_ | refine wpA_region ?_ | refine wpL_v rfl rfl (by decide) (OpV_move rfl rfl) ?_ | refine wpL_v rfl rfl (by decide) (OpV_assign rfl rfl) ?_ | refine wpL_v rfl rfl (by decide) (OpV_cmp rfl rfl rfl rfl) ?_ | refine wpL_v rfl rfl (by decide) (OpV_fieldAddr rfl rfl rfl rfl) ?_ | refine wpL_loadH 0 hG rfl rfl (by decide) rfl rfl rfl rfl ?_ | refine wpL_loadH 1 hG rfl rfl (by decide) rfl rfl rfl rfl ?_ | (refine wpL_boxH hG rfl rfl (by decide) rfl rfl rfl ?_; intro id G hG))
  generalize hb0 : decide (x.id = y.id) = b0
  repeat (first | refine wpL_gv (fun hb => by subst hb; exact OpV_seq rfl rfl rfl) rfl rfl rfl rfl rfl (by decide) ?_ | refine wpL_gk (fun hb => by subst hb; exact Iso.K rfl rfl rfl rfl (eqProps_iso _ _) (TreeL.cons (tree_propsP _) (TreeL.cons (tree_propsP _) TreeL.nil))) rfl rfl rfl rfl rfl (by decide) ?_ | refine wpL_gv (fun hb => by subst hb; exact OpV_fieldAddr rfl rfl rfl rfl) rfl rfl rfl rfl rfl (by decide) ?_ | refine wpL_gv (fun hb => by subst hb; exact OpV_cmp rfl rfl rfl rfl) rfl rfl rfl rfl rfl (by decide) ?_ | refine wpL_gv (fun hb => by subst hb; exact OpV_load_at rfl rfl (hG.get 0 _ _ rfl) rfl) rfl rfl rfl rfl rfl (by decide) ?_ | refine wpL_gv (fun hb => by subst hb; exact OpV_load_at rfl rfl (hG.get 1 _ _ rfl) rfl) rfl rfl rfl rfl rfl (by decide) ?_ | (refine wpL_vb rfl rfl (by decide) (OpV_and rfl rfl (fun hb => by subst hb; rfl) rfl) ?_; intro bv hbv) | refine wpL_v rfl rfl (by decide) (OpV_move rfl rfl) ?_ | refine wpL_v rfl rfl (by decide) (OpV_assign rfl rfl) ?_)
  repeat (first | refine wpL_end ?_ | refine wpA_ret ?_)
  subst_vars
  refine postI_1 rfl rfl (.refl _) (.v _) ?_
  rw [eqv_Style]; simp only [eqv_int, eqv_str]; rfl

theorem style_len (x : Style) : (encStyle x).length = 6 := rfl
theorem lst_len (x : Lst) : (encLst x).length = 2 := rfl
theorem trees_style (x : Style) : ∀ c ∈ encStyle x, Tree c := trees_cons (tree_I _) (trees_cons (tree_I _) (trees_cons (tree_S _) (trees_cons (tree_I _) (trees_cons (tree_I _) (trees_cons (tree_propsP _) trees_nil)))))
theorem trees_lst (x : Lst) : ∀ c ∈ encLst x, Tree c := trees_cons (tree_I _) (trees_cons (tree_levelsP _) trees_nil)
set_option maxHeartbeats 4000000 in
theorem eqStylesF_iso (F K : List Style) (hE : ∀ (i : Nat) (x y : Style), F[i]? = some x → K[i]? = some y → Iso Tryz.prog 59 [.agg (encStyle x), .agg (encStyle y)] (fun p => p = B (eqv x y))) :
    Iso Tryz.prog 58 [rowP encStyle 6 F, rowP encStyle 6 K, .fn (.func 59) []] (fun p => p = B (eqv F K)) := by
  refine Iso_tr 0 rfl Tryz.func58 (by kernel_rfl) (by kernel_rfl) fun hF => ?_
  refine Iso_tr 1 rfl Tryz.func58 (by kernel_rfl) (by kernel_rfl) fun hG0 => ?_
  have hG := has_nil
  refine Iso_enter Tryz.func58 rfl rfl rfl ?_
  by_cases hl : F.length = K.length
  · repeat (first | refine wpL_end ?_ | refine wpA_seq ?_ | refine wpA_region ?_ | refine wpA_block ?_ | refine wpL_v rfl rfl (by decide) (OpV_cmp rfl rfl rfl (congrArg some (ndec_f (by omega)))) ?_ | refine wpL_v rfl rfl (by decide) (OpV_move rfl rfl) ?_ | refine wpL_v rfl rfl (by decide) (OpV_assign rfl rfl) ?_ | refine wpL_v rfl rfl (by decide) (OpV_len rfl rfl rfl) ?_ | refine wpA_cf rfl (by first | rfl | exact decide_eq_false (by omega) | exact ndec_f (by omega)) ?_ | refine wpA_skip ?_)
    refine wpA_loopS (S := Nat) (fun i => [(1, rowP encStyle 6 K), (2, .fn (.func 59) []), (15, rowP encStyle 6 F), (16, I F.length), (17, I i)]) (fun i _ => i ≤ F.length ∧ eqv F K = eqv (F.drop i) (K.drop i)) (fun i => F.length - i) 0
      (.cons rfl (.cons rfl (.cons rfl (.cons rfl (.cons rfl (.nil _)))))) ⟨by omega, rfl⟩ ?_
    rintro i H ⟨hi, he⟩
    have hG := Has.nil H
    by_cases hil : i < F.length
    · obtain ⟨f, hf⟩ : ∃ x, F[i]? = some x := ⟨_, List.getElem?_eq_getElem hil⟩
      obtain ⟨g, hg⟩ : ∃ x, K[i]? = some x := ⟨_, List.getElem?_eq_getElem (by omega)⟩
      rw [eqv_drop hf hg] at he
      have hE := hE i f g hf hg
      generalize hq : eqv f g = q at he hE
      repeat (first | refine wpL_end ?_ | refine wpA_seq ?_ | refine wpA_region ?_ | refine wpA_block ?_ | refine wpL_v rfl rfl (by decide) (OpV_index_tr (cells := F.flatMap encStyle) rfl rfl rfl (by omega) (by exact flat_at style_len F i f hf)) ?_ | refine wpL_v rfl rfl (by decide) (OpV_index_tr (cells := K.flatMap encStyle) rfl rfl rfl (by omega) (by exact flat_at style_len K i g hg)) ?_ | (refine wpL_is rfl rfl rfl rfl rfl rfl (by decide) hE (TreeL.cons (Tree.agg (trees_style f)) (TreeL.cons (Tree.agg (trees_style g)) TreeL.nil)) ?_; rintro _ rfl) | refine wpL_v rfl rfl (by decide) (OpV_cmp rfl rfl rfl (congrArg some (decide_eq_true (by omega)))) ?_ | refine wpL_v rfl rfl (by decide) (OpV_move rfl rfl) ?_ | refine wpL_v rfl rfl (by decide) (OpV_assign rfl rfl) ?_ | refine wpL_v rfl rfl (by decide) (OpV_load rfl rfl rfl) ?_ | refine wpL_v rfl rfl (by decide) (OpV_not rfl rfl) ?_ | refine wpL_loadH 0 hG rfl rfl (by decide) rfl rfl rfl rfl ?_ | refine wpL_loadH 1 hG rfl rfl (by decide) rfl rfl rfl rfl ?_ | (refine wpL_storeH 0 hG rfl rfl rfl rfl rfl rfl rfl rfl rfl rfl rfl ?_; intro G hG) | (refine wpL_allocH hG rfl rfl (by decide) rfl rfl ?_; intro id G hG) | refine wpA_ct rfl (by first | rfl | exact decide_eq_true (by omega) | exact ndec_t (by omega)) ?_ | refine wpA_skip ?_)
      cases q with
      | true =>
        rw [Bool.true_and] at he
        repeat (first | refine wpL_end ?_ | refine wpA_region ?_ | refine wpL_v rfl rfl (by decide) (OpV_move rfl rfl) ?_ | refine wpL_v rfl rfl (by decide) (OpV_add rfl rfl rfl (by omega)) ?_ | refine wpA_cf rfl (by first | rfl | exact decide_eq_false (by omega) | exact ndec_f (by omega)) ?_ | refine wpA_skip ?_)
        exact ⟨i + 1, by omega, .cons rfl (.cons rfl (.cons rfl (.cons rfl (.cons rfl (.nil _))))), by omega, he⟩
      | false =>
        rw [Bool.false_and] at he
        repeat (first | refine wpL_end ?_ | refine wpA_seq ?_ | refine wpA_region ?_ | refine wpL_v rfl rfl (by decide) (OpV_assign rfl rfl) ?_ | refine wpA_ct rfl (by first | rfl | exact decide_eq_true (by omega) | exact ndec_t (by omega)) ?_ | refine wpA_ret ?_ | refine x_then_ret ?_ | refine x_block_ret ?_)
        rw [he]
        exact postI_1 rfl rfl (.refl _) (.v _) rfl
    · have e : i = F.length := by omega
      rw [eqv_end e hl] at he
      subst e
      repeat (first | refine wpL_end ?_ | refine wpA_seq ?_ | refine wpA_region ?_ | refine wpL_v rfl rfl (by decide) (OpV_cmp rfl rfl rfl (congrArg some (decide_eq_false (by omega)))) ?_ | refine wpL_v rfl rfl (by decide) (OpV_assign rfl rfl) ?_ | refine wpA_cf rfl (by first | rfl | exact decide_eq_false (by omega) | exact ndec_f (by omega)) ?_ | refine wpA_exit ?_ | refine wpA_ret ?_)
      rw [he]
      exact postI_1 rfl rfl (.refl _) (.v _) rfl
  · rw [eqv_len hl]
    repeat (first | refine wpL_end ?_ | refine wpA_seq ?_ | refine wpA_region ?_ | refine wpL_v rfl rfl (by decide) (OpV_cmp rfl rfl rfl (congrArg some (ndec_t (by omega)))) ?_ | refine wpL_v rfl rfl (by decide) (OpV_move rfl rfl) ?_ | refine wpL_v rfl rfl (by decide) (OpV_assign rfl rfl) ?_ | refine wpL_v rfl rfl (by decide) (OpV_len rfl rfl rfl) ?_ | refine wpA_ct rfl (by first | rfl | exact decide_eq_true (by omega) | exact ndec_t (by omega)) ?_ | refine wpA_ret ?_ | refine x_then_ret ?_)
    exact postI_1 rfl rfl (.refl _) (.v _) rfl

theorem eqStyles_iso (x y : List Style) : Iso Tryz.prog 30 [stylesP x, stylesP y] (fun p => p = B (eqv x y)) := by
  have hG := has_nil
  refine Iso_enter Tryz.func30 rfl rfl rfl ?_
  repeat (first | refine wpL_end ?_ | refine wpA_seq ?_ | refine wpA_region ?_ | (refine wpL_is rfl rfl rfl rfl rfl rfl (by decide) (eqStylesF_iso x y (fun _ a b _ _ => eqStyle_iso a b)) (TreeL.cons (tree_stylesP _) (TreeL.cons (tree_stylesP _) (TreeL.cons (Tree.fn trees_nil) TreeL.nil))) ?_; rintro _ rfl) | refine wpL_v rfl rfl (by decide) (OpV_move rfl rfl) ?_ | refine wpL_v rfl rfl (by decide) (OpV_assign rfl rfl) ?_ | refine wpA_ret ?_)
  exact postI_1 rfl rfl (.refl _) (.v _) rfl

set_option maxHeartbeats 8000000 in
theorem eqLst_iso (x y : Lst) : Iso Tryz.prog 26 [.agg (encLst x), .agg (encLst y)] (fun p => p = B (eqv x y)) := by
  have hG := has_nil
  refine Iso_enter Tryz.func26 rfl rfl rfl ?_
  repeat (first | refine wpL_end ?_ | refine wpA_seq ?_ | refine wpA_region ?_ | refine wpL_v rfl rfl (by decide) (OpV_move rfl rfl) ?_ | refine wpL_v rfl rfl (by decide) (OpV_assign rfl rfl) ?_ | refine wpL_v rfl rfl (by decide) (OpV_cmp rfl rfl rfl rfl) ?_ | refine wpL_v rfl rfl (by decide) (OpV_fieldAddr rfl rfl rfl rfl) ?_ | refine wpL_loadH 0 hG rfl rfl (by decide) rfl rfl rfl rfl ?_ | refine wpL_loadH 1 hG rfl rfl (by decide) rfl rfl rfl rfl ?_ | (refine wpL_boxH hG rfl rfl (by decide) rfl rfl rfl ?_; intro id G hG))
  generalize hb0 : decide (x.id = y.id) = b0
  repeat (first | refine wpL_gk (fun hb => by subst hb; exact Iso.K rfl rfl rfl rfl (eqLevel_iso _ _) (TreeL.cons (tree_levelsP _) (TreeL.cons (tree_levelsP _) TreeL.nil))) rfl rfl rfl rfl rfl (by decide) ?_ | refine wpL_gv (fun hb => by subst hb; exact OpV_fieldAddr rfl rfl rfl rfl) rfl rfl rfl rfl rfl (by decide) ?_ | refine wpL_gv (fun hb => by subst hb; exact OpV_load_at rfl rfl (hG.get 0 _ _ rfl) rfl) rfl rfl rfl rfl rfl (by decide) ?_ | refine wpL_gv (fun hb => by subst hb; exact OpV_load_at rfl rfl (hG.get 1 _ _ rfl) rfl) rfl rfl rfl rfl rfl (by decide) ?_ | (refine wpL_vb rfl rfl (by decide) (OpV_and rfl rfl (fun hb => by subst hb; rfl) rfl) ?_; intro bv hbv) | refine wpL_v rfl rfl (by decide) (OpV_assign rfl rfl) ?_)
  repeat (first | refine wpL_end ?_ | refine wpA_ret ?_)
  subst_vars
  refine postI_1 rfl rfl (.refl _) (.v _) ?_
  rw [eqv_Lst]; simp only [eqv_int]; rfl

set_option maxHeartbeats 4000000 in
theorem eqLstsF_iso (F K : List Lst) (hE : ∀ (i : Nat) (x y : Lst), F[i]? = some x → K[i]? = some y → Iso Tryz.prog 26 [.agg (encLst x), .agg (encLst y)] (fun p => p = B (eqv x y))) :
    Iso Tryz.prog 31 [rowP encLst 2 F, rowP encLst 2 K, .fn (.func 26) []] (fun p => p = B (eqv F K)) := by
  refine Iso_tr 0 rfl Tryz.func31 (by kernel_rfl) (by kernel_rfl) fun hF => ?_
  refine Iso_tr 1 rfl Tryz.func31 (by kernel_rfl) (by kernel_rfl) fun hG0 => ?_
  have hG := has_nil
  refine Iso_enter Tryz.func31 rfl rfl rfl ?_
  by_cases hl : F.length = K.length
  · repeat (first | refine wpL_end ?_ | refine wpA_seq ?_ | refine wpA_region ?_ | refine wpA_block ?_ | refine wpL_v rfl rfl (by decide) (OpV_cmp rfl rfl rfl (congrArg some (ndec_f (by omega)))) ?_ | refine wpL_v rfl rfl (by decide) (OpV_move rfl rfl) ?_ | refine wpL_v rfl rfl (by decide) (OpV_assign rfl rfl) ?_ | refine wpL_v rfl rfl (by decide) (OpV_len rfl rfl rfl) ?_ | refine wpA_cf rfl (by first | rfl | exact decide_eq_false (by omega) | exact ndec_f (by omega)) ?_ | refine wpA_skip ?_)
    refine wpA_loopS (S := Nat) (fun i => [(1, rowP encLst 2 K), (2, .fn (.func 26) []), (15, rowP encLst 2 F), (16, I F.length), (17, I i)]) (fun i _ => i ≤ F.length ∧ eqv F K = eqv (F.drop i) (K.drop i)) (fun i => F.length - i) 0
      (.cons rfl (.cons rfl (.cons rfl (.cons rfl (.cons rfl (.nil _)))))) ⟨by omega, rfl⟩ ?_
    rintro i H ⟨hi, he⟩
    have hG := Has.nil H
    by_cases hil : i < F.length
    · obtain ⟨f, hf⟩ : ∃ x, F[i]? = some x := ⟨_, List.getElem?_eq_getElem hil⟩
      obtain ⟨g, hg⟩ : ∃ x, K[i]? = some x := ⟨_, List.getElem?_eq_getElem (by omega)⟩
      rw [eqv_drop hf hg] at he
      have hE := hE i f g hf hg
      generalize hq : eqv f g = q at he hE
      repeat (first | refine wpL_end ?_ | refine wpA_seq ?_ | refine wpA_region ?_ | refine wpA_block ?_ | refine wpL_v rfl rfl (by decide) (OpV_index_tr (cells := F.flatMap encLst) rfl rfl rfl (by omega) (by exact flat_at lst_len F i f hf)) ?_ | refine wpL_v rfl rfl (by decide) (OpV_index_tr (cells := K.flatMap encLst) rfl rfl rfl (by omega) (by exact flat_at lst_len K i g hg)) ?_ | (refine wpL_is rfl rfl rfl rfl rfl rfl (by decide) hE (TreeL.cons (Tree.agg (trees_lst f)) (TreeL.cons (Tree.agg (trees_lst g)) TreeL.nil)) ?_; rintro _ rfl) | refine wpL_v rfl rfl (by decide) (OpV_cmp rfl rfl rfl (congrArg some (decide_eq_true (by omega)))) ?_ | refine wpL_v rfl rfl (by decide) (OpV_move rfl rfl) ?_ | refine wpL_v rfl rfl (by decide) (OpV_assign rfl rfl) ?_ | refine wpL_v rfl rfl (by decide) (OpV_load rfl rfl rfl) ?_ | refine wpL_v rfl rfl (by decide) (OpV_not rfl rfl) ?_ | refine wpL_loadH 0 hG rfl rfl (by decide) rfl rfl rfl rfl ?_ | refine wpL_loadH 1 hG rfl rfl (by decide) rfl rfl rfl rfl ?_ | (refine wpL_storeH 0 hG rfl rfl rfl rfl rfl rfl rfl rfl rfl rfl rfl ?_; intro G hG) | (refine wpL_allocH hG rfl rfl (by decide) rfl rfl ?_; intro id G hG) | refine wpA_ct rfl (by first | rfl | exact decide_eq_true (by omega) | exact ndec_t (by omega)) ?_ | refine wpA_skip ?_)
      cases q with
      | true =>
        rw [Bool.true_and] at he
        repeat (first | refine wpL_end ?_ | refine wpA_region ?_ | refine wpL_v rfl rfl (by decide) (OpV_move rfl rfl) ?_ | refine wpL_v rfl rfl (by decide) (OpV_add rfl rfl rfl (by omega)) ?_ | refine wpA_cf rfl (by first | rfl | exact decide_eq_false (by omega) | exact ndec_f (by omega)) ?_ | refine wpA_skip ?_)
        exact ⟨i + 1, by omega, .cons rfl (.cons rfl (.cons rfl (.cons rfl (.cons rfl (.nil _))))), by omega, he⟩
      | false =>
        rw [Bool.false_and] at he
        repeat (first | refine wpL_end ?_ | refine wpA_seq ?_ | refine wpA_region ?_ | refine wpL_v rfl rfl (by decide) (OpV_assign rfl rfl) ?_ | refine wpA_ct rfl (by first | rfl | exact decide_eq_true (by omega) | exact ndec_t (by omega)) ?_ | refine wpA_ret ?_ | refine x_then_ret ?_ | refine x_block_ret ?_)
        rw [he]
        exact postI_1 rfl rfl (.refl _) (.v _) rfl
    · have e : i = F.length := by omega
      rw [eqv_end e hl] at he
      subst e
      repeat (first | refine wpL_end ?_ | refine wpA_seq ?_ | refine wpA_region ?_ | refine wpL_v rfl rfl (by decide) (OpV_cmp rfl rfl rfl (congrArg some (decide_eq_false (by omega)))) ?_ | refine wpL_v rfl rfl (by decide) (OpV_assign rfl rfl) ?_ | refine wpA_cf rfl (by first | rfl | exact decide_eq_false (by omega) | exact ndec_f (by omega)) ?_ | refine wpA_exit ?_ | refine wpA_ret ?_)
      rw [he]
      exact postI_1 rfl rfl (.refl _) (.v _) rfl
  · rw [eqv_len hl]
    repeat (first | refine wpL_end ?_ | refine wpA_seq ?_ | refine wpA_region ?_ | refine wpL_v rfl rfl (by decide) (OpV_cmp rfl rfl rfl (congrArg some (ndec_t (by omega)))) ?_ | refine wpL_v rfl rfl (by decide) (OpV_move rfl rfl) ?_ | refine wpL_v rfl rfl (by decide) (OpV_assign rfl rfl) ?_ | refine wpL_v rfl rfl (by decide) (OpV_len rfl rfl rfl) ?_ | refine wpA_ct rfl (by first | rfl | exact decide_eq_true (by omega) | exact ndec_t (by omega)) ?_ | refine wpA_ret ?_ | refine x_then_ret ?_)
    exact postI_1 rfl rfl (.refl _) (.v _) rfl

set_option maxHeartbeats 4000000 in
theorem eqItemsF_iso (F K : List Item) (hE : ∀ (i : Nat) (x y : Item), F[i]? = some x → K[i]? = some y → Iso Tryz.prog 25 [.agg (encItem x), .agg (encItem y)] (fun p => p = B (eqv x y))) :
    Iso Tryz.prog 24 [rowP encItem 11 F, rowP encItem 11 K, .fn (.func 25) []] (fun p => p = B (eqv F K)) := by
  refine Iso_tr 0 rfl Tryz.func24 (by kernel_rfl) (by kernel_rfl) fun hF => ?_
  refine Iso_tr 1 rfl Tryz.func24 (by kernel_rfl) (by kernel_rfl) fun hG0 => ?_
  have hG := has_nil
  refine Iso_enter Tryz.func24 rfl rfl rfl ?_
  by_cases hl : F.length = K.length
  · repeat (first | refine wpL_end ?_ | refine wpA_seq ?_ | refine wpA_region ?_ | refine wpA_block ?_ | refine wpL_v rfl rfl (by decide) (OpV_cmp rfl rfl rfl (congrArg some (ndec_f (by omega)))) ?_ | refine wpL_v rfl rfl (by decide) (OpV_move rfl rfl) ?_ | refine wpL_v rfl rfl (by decide) (OpV_assign rfl rfl) ?_ | refine wpL_v rfl rfl (by decide) (OpV_len rfl rfl rfl) ?_ | refine wpA_cf rfl (by first | rfl | exact decide_eq_false (by omega) | exact ndec_f (by omega)) ?_ | refine wpA_skip ?_)
    refine wpA_loopS (S := Nat) (fun i => [(1, rowP encItem 11 K), (2, .fn (.func 25) []), (15, rowP encItem 11 F), (16, I F.length), (17, I i)]) (fun i _ => i ≤ F.length ∧ eqv F K = eqv (F.drop i) (K.drop i)) (fun i => F.length - i) 0
      (.cons rfl (.cons rfl (.cons rfl (.cons rfl (.cons rfl (.nil _)))))) ⟨by omega, rfl⟩ ?_
    rintro i H ⟨hi, he⟩
    have hG := Has.nil H
    by_cases hil : i < F.length
    · obtain ⟨f, hf⟩ : ∃ x, F[i]? = some x := ⟨_, List.getElem?_eq_getElem hil⟩
      obtain ⟨g, hg⟩ : ∃ x, K[i]? = some x := ⟨_, List.getElem?_eq_getElem (by omega)⟩
      rw [eqv_drop hf hg] at he
      have hE := hE i f g hf hg
      have tf : ∀ c ∈ encItem f, Tree c := trees_item f
      have tg : ∀ c ∈ encItem g, Tree c := trees_item g
      generalize hq : eqv f g = q at he hE
      obtain ⟨f0, f1, f2, f3, f4, f5, f6⟩ := f
      obtain ⟨g0, g1, g2, g3, g4, g5, g6⟩ := g
      rw [encItem_mk] at tf tg hE
      rw [encItem_mk] at hE
      repeat (first | refine wpL_end ?_ | refine wpA_seq ?_ | refine wpA_region ?_ | refine wpA_block ?_ | refine wpL_v rfl rfl (by decide) (OpV_index_tr (cells := F.flatMap encItem) rfl rfl rfl (by omega) (by exact item_at hf)) ?_ | refine wpL_v rfl rfl (by decide) (OpV_index_tr (cells := K.flatMap encItem) rfl rfl rfl (by omega) (by exact item_at hg)) ?_ | (refine wpL_is rfl rfl rfl rfl rfl rfl (by decide) hE (TreeL.cons (Tree.agg tf) (TreeL.cons (Tree.agg tg) TreeL.nil)) ?_; rintro _ rfl) | refine wpL_v rfl rfl (by decide) (OpV_cmp rfl rfl rfl (congrArg some (decide_eq_true (by omega)))) ?_ | refine wpL_v rfl rfl (by decide) (OpV_move rfl rfl) ?_ | refine wpL_v rfl rfl (by decide) (OpV_assign rfl rfl) ?_ | refine wpL_v rfl rfl (by decide) (OpV_load rfl rfl rfl) ?_ | refine wpL_v rfl rfl (by decide) (OpV_not rfl rfl) ?_ | refine wpL_loadH 0 hG rfl rfl (by decide) rfl rfl rfl rfl ?_ | refine wpL_loadH 1 hG rfl rfl (by decide) rfl rfl rfl rfl ?_ | (refine wpL_storeH 0 hG rfl rfl rfl rfl rfl rfl rfl rfl rfl rfl rfl ?_; intro G hG) | (refine wpL_allocH hG rfl rfl (by decide) rfl rfl ?_; intro id G hG) | refine wpA_ct rfl (by first | rfl | exact decide_eq_true (by omega) | exact ndec_t (by omega)) ?_ | refine wpA_skip ?_)
      cases q with
      | true =>
        rw [Bool.true_and] at he
        repeat (first | refine wpL_end ?_ | refine wpA_region ?_ | refine wpL_v rfl rfl (by decide) (OpV_move rfl rfl) ?_ | refine wpL_v rfl rfl (by decide) (OpV_add rfl rfl rfl (by omega)) ?_ | refine wpA_cf rfl (by first | rfl | exact decide_eq_false (by omega) | exact ndec_f (by omega)) ?_ | refine wpA_skip ?_)
        exact ⟨i + 1, by omega, .cons rfl (.cons rfl (.cons rfl (.cons rfl (.cons rfl (.nil _))))), by omega, he⟩
      | false =>
        rw [Bool.false_and] at he
        repeat (first | refine wpL_end ?_ | refine wpA_seq ?_ | refine wpA_region ?_ | refine wpL_v rfl rfl (by decide) (OpV_assign rfl rfl) ?_ | refine wpA_ct rfl (by first | rfl | exact decide_eq_true (by omega) | exact ndec_t (by omega)) ?_ | refine wpA_ret ?_ | refine x_then_ret ?_ | refine x_block_ret ?_)
        rw [he]
        exact postI_1 rfl rfl (.refl _) (.v _) rfl
    · have e : i = F.length := by omega
      rw [eqv_end e hl] at he
      subst e
      repeat (first | refine wpL_end ?_ | refine wpA_seq ?_ | refine wpA_region ?_ | refine wpL_v rfl rfl (by decide) (OpV_cmp rfl rfl rfl (congrArg some (decide_eq_false (by omega)))) ?_ | refine wpL_v rfl rfl (by decide) (OpV_assign rfl rfl) ?_ | refine wpA_cf rfl (by first | rfl | exact decide_eq_false (by omega) | exact ndec_f (by omega)) ?_ | refine wpA_exit ?_ | refine wpA_ret ?_)
      rw [he]
      exact postI_1 rfl rfl (.refl _) (.v _) rfl
  · rw [eqv_len hl]
    repeat (first | refine wpL_end ?_ | refine wpA_seq ?_ | refine wpA_region ?_ | refine wpL_v rfl rfl (by decide) (OpV_cmp rfl rfl rfl (congrArg some (ndec_t (by omega)))) ?_ | refine wpL_v rfl rfl (by decide) (OpV_move rfl rfl) ?_ | refine wpL_v rfl rfl (by decide) (OpV_assign rfl rfl) ?_ | refine wpL_v rfl rfl (by decide) (OpV_len rfl rfl rfl) ?_ | refine wpA_ct rfl (by first | rfl | exact decide_eq_true (by omega) | exact ndec_t (by omega)) ?_ | refine wpA_ret ?_ | refine x_then_ret ?_)
    exact postI_1 rfl rfl (.refl _) (.v _) rfl

set_option maxHeartbeats 4000000 in
theorem eqRowsF_iso (F K : List Row) (hE : ∀ (i : Nat) (x y : Row), F[i]? = some x → K[i]? = some y → Iso Tryz.prog 35 [.agg (encRow x), .agg (encRow y)] (fun p => p = B (eqv x y))) :
    Iso Tryz.prog 34 [rowP encRow 6 F, rowP encRow 6 K, .fn (.func 35) []] (fun p => p = B (eqv F K)) := by
  refine Iso_tr 0 rfl Tryz.func34 (by kernel_rfl) (by kernel_rfl) fun hF => ?_
  refine Iso_tr 1 rfl Tryz.func34 (by kernel_rfl) (by kernel_rfl) fun hG0 => ?_
  have hG := has_nil
  refine Iso_enter Tryz.func34 rfl rfl rfl ?_
  by_cases hl : F.length = K.length
  · repeat (first | refine wpL_end ?_ | refine wpA_seq ?_ | refine wpA_region ?_ | refine wpA_block ?_ | refine wpL_v rfl rfl (by decide) (OpV_cmp rfl rfl rfl (congrArg some (ndec_f (by omega)))) ?_ | refine wpL_v rfl rfl (by decide) (OpV_move rfl rfl) ?_ | refine wpL_v rfl rfl (by decide) (OpV_assign rfl rfl) ?_ | refine wpL_v rfl rfl (by decide) (OpV_len rfl rfl rfl) ?_ | refine wpA_cf rfl (by first | rfl | exact decide_eq_false (by omega) | exact ndec_f (by omega)) ?_ | refine wpA_skip ?_)
    refine wpA_loopS (S := Nat) (fun i => [(1, rowP encRow 6 K), (2, .fn (.func 35) []), (15, rowP encRow 6 F), (16, I F.length), (17, I i)]) (fun i _ => i ≤ F.length ∧ eqv F K = eqv (F.drop i) (K.drop i)) (fun i => F.length - i) 0
      (.cons rfl (.cons rfl (.cons rfl (.cons rfl (.cons rfl (.nil _)))))) ⟨by omega, rfl⟩ ?_
    rintro i H ⟨hi, he⟩
    have hG := Has.nil H
    by_cases hil : i < F.length
    · obtain ⟨f, hf⟩ : ∃ x, F[i]? = some x := ⟨_, List.getElem?_eq_getElem hil⟩
      obtain ⟨g, hg⟩ : ∃ x, K[i]? = some x := ⟨_, List.getElem?_eq_getElem (by omega)⟩
      rw [eqv_drop hf hg] at he
      have hE := hE i f g hf hg
      have tf : ∀ c ∈ encRow f, Tree c := trees_row f
      have tg : ∀ c ∈ encRow g, Tree c := trees_row g
      generalize hq : eqv f g = q at he hE
      obtain ⟨f0, f1⟩ := f
      obtain ⟨g0, g1⟩ := g
      rw [encRow_mk] at tf tg hE
      rw [encRow_mk] at hE
      repeat (first | refine wpL_end ?_ | refine wpA_seq ?_ | refine wpA_region ?_ | refine wpA_block ?_ | refine wpL_v rfl rfl (by decide) (OpV_index_tr (cells := F.flatMap encRow) rfl rfl rfl (by omega) (by exact row_at hf)) ?_ | refine wpL_v rfl rfl (by decide) (OpV_index_tr (cells := K.flatMap encRow) rfl rfl rfl (by omega) (by exact row_at hg)) ?_ | (refine wpL_is rfl rfl rfl rfl rfl rfl (by decide) hE (TreeL.cons (Tree.agg tf) (TreeL.cons (Tree.agg tg) TreeL.nil)) ?_; rintro _ rfl) | refine wpL_v rfl rfl (by decide) (OpV_cmp rfl rfl rfl (congrArg some (decide_eq_true (by omega)))) ?_ | refine wpL_v rfl rfl (by decide) (OpV_move rfl rfl) ?_ | refine wpL_v rfl rfl (by decide) (OpV_assign rfl rfl) ?_ | refine wpL_v rfl rfl (by decide) (OpV_load rfl rfl rfl) ?_ | refine wpL_v rfl rfl (by decide) (OpV_not rfl rfl) ?_ | refine wpL_loadH 0 hG rfl rfl (by decide) rfl rfl rfl rfl ?_ | refine wpL_loadH 1 hG rfl rfl (by decide) rfl rfl rfl rfl ?_ | (refine wpL_storeH 0 hG rfl rfl rfl rfl rfl rfl rfl rfl rfl rfl rfl ?_; intro G hG) | (refine wpL_allocH hG rfl rfl (by decide) rfl rfl ?_; intro id G hG) | refine wpA_ct rfl (by first | rfl | exact decide_eq_true (by omega) | exact ndec_t (by omega)) ?_ | refine wpA_skip ?_)
      cases q with
      | true =>
        rw [Bool.true_and] at he
        repeat (first | refine wpL_end ?_ | refine wpA_region ?_ | refine wpL_v rfl rfl (by decide) (OpV_move rfl rfl) ?_ | refine wpL_v rfl rfl (by decide) (OpV_add rfl rfl rfl (by omega)) ?_ | refine wpA_cf rfl (by first | rfl | exact decide_eq_false (by omega) | exact ndec_f (by omega)) ?_ | refine wpA_skip ?_)
        exact ⟨i + 1, by omega, .cons rfl (.cons rfl (.cons rfl (.cons rfl (.cons rfl (.nil _))))), by omega, he⟩
      | false =>
        rw [Bool.false_and] at he
        repeat (first | refine wpL_end ?_ | refine wpA_seq ?_ | refine wpA_region ?_ | refine wpL_v rfl rfl (by decide) (OpV_assign rfl rfl) ?_ | refine wpA_ct rfl (by first | rfl | exact decide_eq_true (by omega) | exact ndec_t (by omega)) ?_ | refine wpA_ret ?_ | refine x_then_ret ?_ | refine x_block_ret ?_)
        rw [he]
        exact postI_1 rfl rfl (.refl _) (.v _) rfl
    · have e : i = F.length := by omega
      rw [eqv_end e hl] at he
      subst e
      repeat (first | refine wpL_end ?_ | refine wpA_seq ?_ | refine wpA_region ?_ | refine wpL_v rfl rfl (by decide) (OpV_cmp rfl rfl rfl (congrArg some (decide_eq_false (by omega)))) ?_ | refine wpL_v rfl rfl (by decide) (OpV_assign rfl rfl) ?_ | refine wpA_cf rfl (by first | rfl | exact decide_eq_false (by omega) | exact ndec_f (by omega)) ?_ | refine wpA_exit ?_ | refine wpA_ret ?_)
      rw [he]
      exact postI_1 rfl rfl (.refl _) (.v _) rfl
  · rw [eqv_len hl]
    repeat (first | refine wpL_end ?_ | refine wpA_seq ?_ | refine wpA_region ?_ | refine wpL_v rfl rfl (by decide) (OpV_cmp rfl rfl rfl (congrArg some (ndec_t (by omega)))) ?_ | refine wpL_v rfl rfl (by decide) (OpV_move rfl rfl) ?_ | refine wpL_v rfl rfl (by decide) (OpV_assign rfl rfl) ?_ | refine wpL_v rfl rfl (by decide) (OpV_len rfl rfl rfl) ?_ | refine wpA_ct rfl (by first | rfl | exact decide_eq_true (by omega) | exact ndec_t (by omega)) ?_ | refine wpA_ret ?_ | refine x_then_ret ?_)
    exact postI_1 rfl rfl (.refl _) (.v _) rfl

set_option maxHeartbeats 4000000 in
theorem eqCellsF_iso (F K : List Cell) (hE : ∀ (i : Nat) (x y : Cell), F[i]? = some x → K[i]? = some y → Iso Tryz.prog 37 [.agg (encCell x), .agg (encCell y)] (fun p => p = B (eqv x y))) :
    Iso Tryz.prog 36 [rowP encCell 7 F, rowP encCell 7 K, .fn (.func 37) []] (fun p => p = B (eqv F K)) := by
  refine Iso_tr 0 rfl Tryz.func36 (by kernel_rfl) (by kernel_rfl) fun hF => ?_
  refine Iso_tr 1 rfl Tryz.func36 (by kernel_rfl) (by kernel_rfl) fun hG0 => ?_
  have hG := has_nil
  refine Iso_enter Tryz.func36 rfl rfl rfl ?_
  by_cases hl : F.length = K.length
  · repeat (first | refine wpL_end ?_ | refine wpA_seq ?_ | refine wpA_region ?_ | refine wpA_block ?_ | refine wpL_v rfl rfl (by decide) (OpV_cmp rfl rfl rfl (congrArg some (ndec_f (by omega)))) ?_ | refine wpL_v rfl rfl (by decide) (OpV_move rfl rfl) ?_ | refine wpL_v rfl rfl (by decide) (OpV_assign rfl rfl) ?_ | refine wpL_v rfl rfl (by decide) (OpV_len rfl rfl rfl) ?_ | refine wpA_cf rfl (by first | rfl | exact decide_eq_false (by omega) | exact ndec_f (by omega)) ?_ | refine wpA_skip ?_)
    refine wpA_loopS (S := Nat) (fun i => [(1, rowP encCell 7 K), (2, .fn (.func 37) []), (15, rowP encCell 7 F), (16, I F.length), (17, I i)]) (fun i _ => i ≤ F.length ∧ eqv F K = eqv (F.drop i) (K.drop i)) (fun i => F.length - i) 0
      (.cons rfl (.cons rfl (.cons rfl (.cons rfl (.cons rfl (.nil _)))))) ⟨by omega, rfl⟩ ?_
    rintro i H ⟨hi, he⟩
    have hG := Has.nil H
    by_cases hil : i < F.length
    · obtain ⟨f, hf⟩ : ∃ x, F[i]? = some x := ⟨_, List.getElem?_eq_getElem hil⟩
      obtain ⟨g, hg⟩ : ∃ x, K[i]? = some x := ⟨_, List.getElem?_eq_getElem (by omega)⟩
      rw [eqv_drop hf hg] at he
      have hE := hE i f g hf hg
      have tf : ∀ c ∈ encCell f, Tree c := trees_cell f
      have tg : ∀ c ∈ encCell g, Tree c := trees_cell g
      generalize hq : eqv f g = q at he hE
      obtain ⟨f0, f1, f2⟩ := f
      obtain ⟨g0, g1, g2⟩ := g
      rw [encCell_mk] at tf tg hE
      rw [encCell_mk] at hE
      repeat (first | refine wpL_end ?_ | refine wpA_seq ?_ | refine wpA_region ?_ | refine wpA_block ?_ | refine wpL_v rfl rfl (by decide) (OpV_index_tr (cells := F.flatMap encCell) rfl rfl rfl (by omega) (by exact cell_at hf)) ?_ | refine wpL_v rfl rfl (by decide) (OpV_index_tr (cells := K.flatMap encCell) rfl rfl rfl (by omega) (by exact cell_at hg)) ?_ | (refine wpL_is rfl rfl rfl rfl rfl rfl (by decide) hE (TreeL.cons (Tree.agg tf) (TreeL.cons (Tree.agg tg) TreeL.nil)) ?_; rintro _ rfl) | refine wpL_v rfl rfl (by decide) (OpV_cmp rfl rfl rfl (congrArg some (decide_eq_true (by omega)))) ?_ | refine wpL_v rfl rfl (by decide) (OpV_move rfl rfl) ?_ | refine wpL_v rfl rfl (by decide) (OpV_assign rfl rfl) ?_ | refine wpL_v rfl rfl (by decide) (OpV_load rfl rfl rfl) ?_ | refine wpL_v rfl rfl (by decide) (OpV_not rfl rfl) ?_ | refine wpL_loadH 0 hG rfl rfl (by decide) rfl rfl rfl rfl ?_ | refine wpL_loadH 1 hG rfl rfl (by decide) rfl rfl rfl rfl ?_ | (refine wpL_storeH 0 hG rfl rfl rfl rfl rfl rfl rfl rfl rfl rfl rfl ?_; intro G hG) | (refine wpL_allocH hG rfl rfl (by decide) rfl rfl ?_; intro id G hG) | refine wpA_ct rfl (by first | rfl | exact decide_eq_true (by omega) | exact ndec_t (by omega)) ?_ | refine wpA_skip ?_)
      cases q with
      | true =>
        rw [Bool.true_and] at he
        repeat (first | refine wpL_end ?_ | refine wpA_region ?_ | refine wpL_v rfl rfl (by decide) (OpV_move rfl rfl) ?_ | refine wpL_v rfl rfl (by decide) (OpV_add rfl rfl rfl (by omega)) ?_ | refine wpA_cf rfl (by first | rfl | exact decide_eq_false (by omega) | exact ndec_f (by omega)) ?_ | refine wpA_skip ?_)
        exact ⟨i + 1, by omega, .cons rfl (.cons rfl (.cons rfl (.cons rfl (.cons rfl (.nil _))))), by omega, he⟩
      | false =>
        rw [Bool.false_and] at he
        repeat (first | refine wpL_end ?_ | refine wpA_seq ?_ | refine wpA_region ?_ | refine wpL_v rfl rfl (by decide) (OpV_assign rfl rfl) ?_ | refine wpA_ct rfl (by first | rfl | exact decide_eq_true (by omega) | exact ndec_t (by omega)) ?_ | refine wpA_ret ?_ | refine x_then_ret ?_ | refine x_block_ret ?_)
        rw [he]
        exact postI_1 rfl rfl (.refl _) (.v _) rfl
    · have e : i = F.length := by omega
      rw [eqv_end e hl] at he
      subst e
      repeat (first | refine wpL_end ?_ | refine wpA_seq ?_ | refine wpA_region ?_ | refine wpL_v rfl rfl (by decide) (OpV_cmp rfl rfl rfl (congrArg some (decide_eq_false (by omega)))) ?_ | refine wpL_v rfl rfl (by decide) (OpV_assign rfl rfl) ?_ | refine wpA_cf rfl (by first | rfl | exact decide_eq_false (by omega) | exact ndec_f (by omega)) ?_ | refine wpA_exit ?_ | refine wpA_ret ?_)
      rw [he]
      exact postI_1 rfl rfl (.refl _) (.v _) rfl
  · rw [eqv_len hl]
    repeat (first | refine wpL_end ?_ | refine wpA_seq ?_ | refine wpA_region ?_ | refine wpL_v rfl rfl (by decide) (OpV_cmp rfl rfl rfl (congrArg some (ndec_t (by omega)))) ?_ | refine wpL_v rfl rfl (by decide) (OpV_move rfl rfl) ?_ | refine wpL_v rfl rfl (by decide) (OpV_assign rfl rfl) ?_ | refine wpL_v rfl rfl (by decide) (OpV_len rfl rfl rfl) ?_ | refine wpA_ct rfl (by first | rfl | exact decide_eq_true (by omega) | exact ndec_t (by omega)) ?_ | refine wpA_ret ?_ | refine x_then_ret ?_)
    exact postI_1 rfl rfl (.refl _) (.v _) rfl

abbrev EqI (l : List Item) : Prop := ∀ m, Iso Tryz.prog 9 [itemsP l, itemsP m] (fun p => p = B (eqv l m))
set_option maxHeartbeats 8000000 in
theorem eqCell_iso (x y : Cell) (hI : ∀ l, SizeOf.sizeOf l < SizeOf.sizeOf x → EqI l) : Iso Tryz.prog 37 [.agg (encCell x), .agg (encCell y)] (fun p => p = B (eqv x y)) := by
  have hG := has_nil
  obtain ⟨i, h, f⟩ := x
  obtain ⟨i', h', f'⟩ := y
  have hF := hI f (by simp; omega)
  rw [encCell_mk, encCell_mk]
  refine Iso_enter Tryz.func37 rfl rfl rfl ?_
  repeat (first | refine wpL_end ?_ | refine wpA_seq ?_ | refine wpA_region ?_ | refine wpL_v rfl rfl (by decide) (OpV_move rfl rfl) ?_ | refine wpL_v rfl rfl (by decide) (OpV_assign rfl rfl) ?_ | refine wpL_v rfl rfl (by decide) (OpV_cmp rfl rfl rfl rfl) ?_ | refine wpL_v rfl rfl (by decide) (OpV_fieldAddr rfl rfl rfl rfl) ?_ | refine wpL_loadH 0 hG rfl rfl (by decide) rfl rfl rfl rfl ?_ | refine wpL_loadH 1 hG rfl rfl (by decide) rfl rfl rfl rfl ?_ | (refine wpL_boxH hG rfl rfl (by decide) rfl rfl rfl ?_; intro id G hG))
  generalize hb0 : decide (i = i') = b0
  repeat (first | refine wpL_gk (fun hb => by subst hb; exact Iso.K rfl rfl rfl rfl (eqHead_iso h h') (TreeL.cons (Tree.agg (trees_head _)) (TreeL.cons (Tree.agg (trees_head _)) TreeL.nil))) rfl rfl rfl rfl rfl (by decide) ?_ | refine wpL_gk (fun hb => by subst hb; exact Iso.K rfl rfl rfl rfl (hF f') (TreeL.cons (tree_itemsP _) (TreeL.cons (tree_itemsP _) TreeL.nil))) rfl rfl rfl rfl rfl (by decide) ?_ | refine wpL_gv (fun hb => by subst hb; exact OpV_fieldAddr rfl rfl rfl rfl) rfl rfl rfl rfl rfl (by decide) ?_ | refine wpL_gv (fun hb => by subst hb; exact OpV_load_at rfl rfl (hG.get 0 _ _ rfl) rfl) rfl rfl rfl rfl rfl (by decide) ?_ | refine wpL_gv (fun hb => by subst hb; exact OpV_load_at rfl rfl (hG.get 1 _ _ rfl) rfl) rfl rfl rfl rfl rfl (by decide) ?_ | (refine wpL_vb rfl rfl (by decide) (OpV_and rfl rfl (fun hb => by subst hb; rfl) rfl) ?_; intro bv hbv) | refine wpL_v rfl rfl (by decide) (OpV_move rfl rfl) ?_ | refine wpL_v rfl rfl (by decide) (OpV_assign rfl rfl) ?_)
  repeat (first | refine wpL_end ?_ | refine wpA_ret ?_)
  subst_vars
  refine postI_1 rfl rfl (.refl _) (.v _) ?_
  rw [eqv_Cell]; simp only [eqv_int]; rfl

set_option maxHeartbeats 8000000 in
theorem eqRow_iso (x y : Row) (hI : ∀ l, SizeOf.sizeOf l < SizeOf.sizeOf x → EqI l) : Iso Tryz.prog 35 [.agg (encRow x), .agg (encRow y)] (fun p => p = B (eqv x y)) := by
  have hG := has_nil
  obtain ⟨h, c⟩ := x
  obtain ⟨h', c'⟩ := y
  have hC := eqCellsF_iso c c' (fun i x y hx hy => eqCell_iso x y fun l hl => hI l (by have := List.sizeOf_lt_of_mem (List.mem_of_getElem? hx); simp; omega))
  rw [encRow_mk, encRow_mk]
  refine Iso_enter Tryz.func35 rfl rfl rfl ?_
  repeat (first | refine wpL_end ?_ | refine wpA_seq ?_ | refine wpA_region ?_ | (refine wpL_is rfl rfl rfl rfl rfl rfl (by decide) (eqHead_iso h h') (TreeL.cons (Tree.agg (trees_head _)) (TreeL.cons (Tree.agg (trees_head _)) TreeL.nil)) ?_; rintro _ rfl) | refine wpL_v rfl rfl (by decide) (OpV_move rfl rfl) ?_ | refine wpL_v rfl rfl (by decide) (OpV_assign rfl rfl) ?_ | refine wpL_v rfl rfl (by decide) (OpV_fieldAddr rfl rfl rfl rfl) ?_ | refine wpL_loadH 0 hG rfl rfl (by decide) rfl rfl rfl rfl ?_ | refine wpL_loadH 1 hG rfl rfl (by decide) rfl rfl rfl rfl ?_ | (refine wpL_boxH hG rfl rfl (by decide) rfl rfl rfl ?_; intro id G hG))
  generalize hb0 : eqv h h' = b0
  repeat (first | refine wpL_gk (fun hb => by subst hb; exact Iso.K rfl rfl rfl rfl hC (TreeL.cons (tree_cellsP _) (TreeL.cons (tree_cellsP _) (TreeL.cons (Tree.fn trees_nil) TreeL.nil)))) rfl rfl rfl rfl rfl (by decide) ?_ | refine wpL_gv (fun hb => by subst hb; exact OpV_fieldAddr rfl rfl rfl rfl) rfl rfl rfl rfl rfl (by decide) ?_ | refine wpL_gv (fun hb => by subst hb; exact OpV_load_at rfl rfl (hG.get 0 _ _ rfl) rfl) rfl rfl rfl rfl rfl (by decide) ?_ | refine wpL_gv (fun hb => by subst hb; exact OpV_load_at rfl rfl (hG.get 1 _ _ rfl) rfl) rfl rfl rfl rfl rfl (by decide) ?_ | (refine wpL_vb rfl rfl (by decide) (OpV_and rfl rfl (fun hb => by subst hb; rfl) rfl) ?_; intro bv hbv) | refine wpL_v rfl rfl (by decide) (OpV_assign rfl rfl) ?_)
  repeat (first | refine wpL_end ?_ | refine wpA_ret ?_)
  subst_vars
  refine postI_1 rfl rfl (.refl _) (.v _) ?_
  rw [eqv_Row]; rfl

set_option maxHeartbeats 8000000 in
theorem eqItem_iso (x y : Item) (hI : ∀ l, SizeOf.sizeOf l < SizeOf.sizeOf x → EqI l) : Iso Tryz.prog 25 [.agg (encItem x), .agg (encItem y)] (fun p => p = B (eqv x y)) := by
  have hG := has_nil
  obtain ⟨k, c, i, t, h, f, r⟩ := x
  obtain ⟨k', c', i', t', h', f', r'⟩ := y
  have hF := hI f (by simp; omega)
  have hR := eqRowsF_iso r r' (fun i x y hx hy => eqRow_iso x y fun l hl => hI l (by have := List.sizeOf_lt_of_mem (List.mem_of_getElem? hx); simp; omega))
  rw [encItem_mk, encItem_mk]
  refine Iso_enter Tryz.func25 rfl rfl rfl ?_
  repeat (first | refine wpL_end ?_ | refine wpA_seq ?_ | refine wpA_region ?_ | refine wpL_v rfl rfl (by decide) (OpV_move rfl rfl) ?_ | refine wpL_v rfl rfl (by decide) (OpV_assign rfl rfl) ?_ | refine wpL_v rfl rfl (by decide) (OpV_cmp rfl rfl rfl rfl) ?_ | refine wpL_v rfl rfl (by decide) (OpV_fieldAddr rfl rfl rfl rfl) ?_ | refine wpL_loadH 0 hG rfl rfl (by decide) rfl rfl rfl rfl ?_ | refine wpL_loadH 1 hG rfl rfl (by decide) rfl rfl rfl rfl ?_ | (refine wpL_boxH hG rfl rfl (by decide) rfl rfl rfl ?_; intro id G hG))
  generalize hb0 : decide (k = k') = b0
  repeat (first | refine wpL_gv (fun hb => by subst hb; exact OpV_seq rfl rfl rfl) rfl rfl rfl rfl rfl (by decide) ?_ | refine wpL_gk (fun hb => by subst hb; exact Iso.K rfl rfl rfl rfl (eqHead_iso h h') (TreeL.cons (Tree.agg (trees_head _)) (TreeL.cons (Tree.agg (trees_head _)) TreeL.nil))) rfl rfl rfl rfl rfl (by decide) ?_ | refine wpL_gk (fun hb => by subst hb; exact Iso.K rfl rfl rfl rfl (hF f') (TreeL.cons (tree_itemsP _) (TreeL.cons (tree_itemsP _) TreeL.nil))) rfl rfl rfl rfl rfl (by decide) ?_ | refine wpL_gk (fun hb => by subst hb; exact Iso.K rfl rfl rfl rfl hR (TreeL.cons (tree_rowsP _) (TreeL.cons (tree_rowsP _) (TreeL.cons (Tree.fn trees_nil) TreeL.nil)))) rfl rfl rfl rfl rfl (by decide) ?_ | refine wpL_gv (fun hb => by subst hb; exact OpV_fieldAddr rfl rfl rfl rfl) rfl rfl rfl rfl rfl (by decide) ?_ | refine wpL_gv (fun hb => by subst hb; exact OpV_cmp rfl rfl rfl rfl) rfl rfl rfl rfl rfl (by decide) ?_ | refine wpL_gv (fun hb => by subst hb; exact OpV_load_at rfl rfl (hG.get 0 _ _ rfl) rfl) rfl rfl rfl rfl rfl (by decide) ?_ | refine wpL_gv (fun hb => by subst hb; exact OpV_load_at rfl rfl (hG.get 1 _ _ rfl) rfl) rfl rfl rfl rfl rfl (by decide) ?_ | (refine wpL_vb rfl rfl (by decide) (OpV_and rfl rfl (fun hb => by subst hb; rfl) rfl) ?_; intro bv hbv) | refine wpL_v rfl rfl (by decide) (OpV_move rfl rfl) ?_ | refine wpL_v rfl rfl (by decide) (OpV_assign rfl rfl) ?_)
  repeat (first | refine wpL_end ?_ | refine wpA_ret ?_)
  subst_vars
  refine postI_1 rfl rfl (.refl _) (.v _) ?_
  rw [eqv_Item]; simp only [eqv_int, eqv_str]; rfl

theorem eqItems_all : ∀ (n : Nat) (l : List Item), SizeOf.sizeOf l ≤ n → EqI l := by
  intro n
  induction n using Nat.strongRecOn with
  | _ n ih =>
    intro l hl m
    have h24 := eqItemsF_iso l m (fun i x y hx hy => eqItem_iso x y fun l' hl' => by
      have := List.sizeOf_lt_of_mem (List.mem_of_getElem? hx)
      exact ih (SizeOf.sizeOf l') (by omega) l' (Nat.le_refl _))
    have hG := has_nil
    refine Iso_enter Tryz.func9 rfl rfl rfl ?_
    repeat (first | refine wpL_end ?_ | refine wpA_seq ?_ | refine wpA_region ?_ | (refine wpL_is rfl rfl rfl rfl rfl rfl (by decide) h24 (TreeL.cons (tree_itemsP _) (TreeL.cons (tree_itemsP _) (TreeL.cons (Tree.fn trees_nil) TreeL.nil))) ?_; rintro _ rfl) | refine wpL_v rfl rfl (by decide) (OpV_move rfl rfl) ?_ | refine wpL_v rfl rfl (by decide) (OpV_assign rfl rfl) ?_ | refine wpA_ret ?_)
    exact postI_1 rfl rfl (.refl _) (.v _) rfl
theorem eqItems_iso (l m : List Item) : Iso Tryz.prog 9 [itemsP l, itemsP m] (fun p => p = B (eqv l m)) := eqItems_all _ l (Nat.le_refl _) m
theorem eqCell_all (x y : Cell) : Iso Tryz.prog 37 [.agg (encCell x), .agg (encCell y)] (fun p => p = B (eqv x y)) := eqCell_iso x y fun l _ => eqItems_iso l
theorem eqRow_all (x y : Row) : Iso Tryz.prog 35 [.agg (encRow x), .agg (encRow y)] (fun p => p = B (eqv x y)) := eqRow_iso x y fun l _ => eqItems_iso l

end Go.Proofs.YtpmfnjkcoogicaaGreat
