/- Whether an edit is small: an answer comes. -/
import Derived.Test.YtpmfnjkcoogicaaGreatSn
namespace Go.Proofs.YtpmfnjkcoogicaaGreat
open Go.RowKit Go.Th
set_option linter.unusedVariables false
set_option maxRecDepth 20000

theorem smRows_of (r : List Row) (hI : ∀ l, SizeOf.sizeOf l < SizeOf.sizeOf r → SmI l) : SmR r := fun d n id H h1 h2 h3 h4 h5 =>
  AC_bnd 0 rfl Tryz.func96 (by kernel_rfl) (by kernel_rfl) fun hl => smRows r (fun x hx h cs e y hy dd hh ff e2 => hI ff (by
    have a1 := List.sizeOf_lt_of_mem hx
    have a2 := List.sizeOf_lt_of_mem hy
    subst e; subst e2
    simp at a1 a2
    omega)) hl d n id H h1 h2 h3 h4 h5
theorem smItems_all : ∀ (n : Nat) (l : List Item), SizeOf.sizeOf l ≤ n → SmI l := by
  intro n
  induction n using Nat.strongRecOn with
  | _ n ih =>
    intro l hl d k id H h1 h2 h3 h4 h5
    refine AC_bnd 0 rfl Tryz.func54 (by kernel_rfl) (by kernel_rfl) fun hll => smFlow l (fun x hx f r k c i t h e => ?_) hll d k id H h1 h2 h3 h4 h5
    have a1 := List.sizeOf_lt_of_mem hx
    subst e
    simp at a1
    exact ⟨ih (SizeOf.sizeOf f) (by omega) f (Nat.le_refl _), smRows_of r fun l' hl' => ih (SizeOf.sizeOf l') (by omega) l' (Nat.le_refl _)⟩
theorem smItems (l : List Item) : SmI l := smItems_all _ l (Nat.le_refl _)

theorem smallItems_iso (l : List Item) : Iso Tryz.prog 22 [itemsP l] (fun p => ∃ b, p = B b ∧ (b = true → costIs l ≤ 300)) := by
  have hG := has_nil
  refine Iso_enter Tryz.func22 rfl rfl rfl ?_
  repeat (first | refine wpL_end ?_ | refine wpA_seq ?_ | refine wpA_region ?_ | refine wpL_v rfl rfl (by decide) (OpV_move rfl rfl) ?_ | refine wpL_v rfl rfl (by decide) (OpV_assign rfl rfl) ?_ | (refine wpL_storeH 0 hG rfl rfl rfl rfl rfl rfl rfl rfl rfl rfl rfl ?_; intro G hG) | (refine wpL_allocH hG rfl rfl (by decide) rfl rfl ?_; intro id G hG))
  refine wpL_ac rfl rfl rfl rfl rfl rfl (by decide) (smItems l 12 300 _ _ (by omega) (by omega) (by omega) (by omega) (hG.get 0 _ _ rfl)) ?_
  rintro _ G2 ⟨b, n2, rfl, hB2, hn2⟩
  have hG := has_one hB2
  repeat (first | refine wpL_end ?_ | refine wpL_v rfl rfl (by decide) (OpV_assign rfl rfl) ?_ | refine wpA_ret ?_)
  exact postI_1 rfl rfl (.refl _) (.v _) ⟨b, rfl, fun h => by have := hn2 h; omega⟩

theorem styles_spot {l : List Style} {i : Nat} {x : Style} (hx : l[i]? = some x) : takeN 6 ((l.flatMap encStyle).drop (i * 6)) = some (encStyle x) := flat_at style_len l i x hx
theorem lists_spot {l : List Lst} {i : Nat} {x : Lst} (hx : l[i]? = some x) : takeN 2 ((l.flatMap encLst).drop (i * 2)) = some (encLst x) := flat_at lst_len l i x hx

def SmS (s : Sets) : Prop := s.styles.length ≤ 20 ∧ s.lists.length ≤ 20 ∧ s.comments.length ≤ 20 ∧ s.vars.length ≤ 20 ∧ (∀ (j : Nat) (x : Style), s.styles[j]? = some x → x.props.length ≤ 40) ∧ ∀ (j : Nat) (x : Lst), s.lists[j]? = some x → x.levels.length ≤ 12

set_option maxHeartbeats 16000000 in
theorem smallSets_iso (s : Sets) : Iso Tryz.prog 23 [.agg (encSets s)] (fun p => ∃ b, p = B b ∧ (b = true → SmS s)) := by
  have hG := has_nil
  refine Iso_enter Tryz.func23 rfl rfl rfl ?_
  by_cases c1 : (20 : Int) < s.styles.length
  · repeat (first | refine wpL_end ?_ | refine wpA_seq ?_ | refine wpA_region ?_ | refine wpL_v rfl rfl (by decide) (OpV_cmp rfl rfl rfl (congrArg some (decide_eq_true (by omega)))) ?_ | refine wpL_v rfl rfl (by decide) (OpV_move rfl rfl) ?_ | refine wpL_v rfl rfl (by decide) (OpV_assign rfl rfl) ?_ | refine wpL_v rfl rfl (by decide) (OpV_len rfl rfl rfl) ?_ | refine wpL_v rfl rfl (by decide) (OpV_fieldAddr rfl rfl rfl rfl) ?_ | refine wpL_v rfl rfl (by decide) (OpV_pick_t rfl rfl (by first | rfl | exact decide_eq_true (by omega)) rfl) ?_ | refine wpL_loadH 0 hG rfl rfl (by decide) rfl rfl rfl rfl ?_ | (refine wpL_boxH hG rfl rfl (by decide) rfl rfl rfl ?_; intro id G hG) | refine wpL_gf rfl rfl rfl rfl rfl (by decide) (by first | rfl | exact decide_eq_true (by omega) | exact decide_eq_false (by omega) | exact ndec_t (by omega) | exact ndec_f (by omega)) ?_ | refine wpA_ct rfl (by first | rfl | exact decide_eq_true (by omega) | exact ndec_t (by omega)) ?_ | refine wpA_ret ?_ | refine x_then_ret ?_)
    exact postI_1 rfl rfl (.refl _) (.v _) ⟨false, rfl, fun h => by cases h⟩
  by_cases c2 : (20 : Int) < s.lists.length
  · repeat (first | refine wpL_end ?_ | refine wpA_seq ?_ | refine wpA_region ?_ | refine wpL_v rfl rfl (by decide) (OpV_cmp rfl rfl rfl (congrArg some (decide_eq_true (by omega)))) ?_ | refine wpL_v rfl rfl (by decide) (OpV_cmp rfl rfl rfl (congrArg some (decide_eq_false (by omega)))) ?_ | refine wpL_v rfl rfl (by decide) (OpV_move rfl rfl) ?_ | refine wpL_v rfl rfl (by decide) (OpV_assign rfl rfl) ?_ | refine wpL_v rfl rfl (by decide) (OpV_len rfl rfl rfl) ?_ | refine wpL_v rfl rfl (by decide) (OpV_fieldAddr rfl rfl rfl rfl) ?_ | refine wpL_v rfl rfl (by decide) (OpV_pick_t rfl rfl (by first | rfl | exact decide_eq_true (by omega)) rfl) ?_ | refine wpL_v rfl rfl (by decide) (OpV_pick_f rfl rfl (by first | rfl | exact decide_eq_false (by omega)) rfl) ?_ | refine wpL_loadH 0 hG rfl rfl (by decide) rfl rfl rfl rfl ?_ | (refine wpL_boxH hG rfl rfl (by decide) rfl rfl rfl ?_; intro id G hG) | refine wpL_gt rfl rfl rfl rfl rfl (by decide) (by first | rfl | exact decide_eq_true (by omega) | exact decide_eq_false (by omega) | exact ndec_t (by omega) | exact ndec_f (by omega)) ?_ | refine wpL_gf rfl rfl rfl rfl rfl (by decide) (by first | rfl | exact decide_eq_true (by omega) | exact decide_eq_false (by omega) | exact ndec_t (by omega) | exact ndec_f (by omega)) ?_ | refine wpA_ct rfl (by first | rfl | exact decide_eq_true (by omega) | exact ndec_t (by omega)) ?_ | refine wpA_ret ?_ | refine x_then_ret ?_)
    exact postI_1 rfl rfl (.refl _) (.v _) ⟨false, rfl, fun h => by cases h⟩
  by_cases c3 : (20 : Int) < s.comments.length
  · repeat (first | refine wpL_end ?_ | refine wpA_seq ?_ | refine wpA_region ?_ | refine wpL_v rfl rfl (by decide) (OpV_cmp rfl rfl rfl (congrArg some (decide_eq_true (by omega)))) ?_ | refine wpL_v rfl rfl (by decide) (OpV_cmp rfl rfl rfl (congrArg some (decide_eq_false (by omega)))) ?_ | refine wpL_v rfl rfl (by decide) (OpV_move rfl rfl) ?_ | refine wpL_v rfl rfl (by decide) (OpV_assign rfl rfl) ?_ | refine wpL_v rfl rfl (by decide) (OpV_len rfl rfl rfl) ?_ | refine wpL_v rfl rfl (by decide) (OpV_fieldAddr rfl rfl rfl rfl) ?_ | refine wpL_v rfl rfl (by decide) (OpV_pick_t rfl rfl (by first | rfl | exact decide_eq_true (by omega)) rfl) ?_ | refine wpL_v rfl rfl (by decide) (OpV_pick_f rfl rfl (by first | rfl | exact decide_eq_false (by omega)) rfl) ?_ | refine wpL_loadH 0 hG rfl rfl (by decide) rfl rfl rfl rfl ?_ | (refine wpL_boxH hG rfl rfl (by decide) rfl rfl rfl ?_; intro id G hG) | refine wpL_gt rfl rfl rfl rfl rfl (by decide) (by first | rfl | exact decide_eq_true (by omega) | exact decide_eq_false (by omega) | exact ndec_t (by omega) | exact ndec_f (by omega)) ?_ | refine wpL_gf rfl rfl rfl rfl rfl (by decide) (by first | rfl | exact decide_eq_true (by omega) | exact decide_eq_false (by omega) | exact ndec_t (by omega) | exact ndec_f (by omega)) ?_ | refine wpA_ct rfl (by first | rfl | exact decide_eq_true (by omega) | exact ndec_t (by omega)) ?_ | refine wpA_ret ?_ | refine x_then_ret ?_)
    exact postI_1 rfl rfl (.refl _) (.v _) ⟨false, rfl, fun h => by cases h⟩
  by_cases c4 : (20 : Int) < s.vars.length
  · repeat (first | refine wpL_end ?_ | refine wpA_seq ?_ | refine wpA_region ?_ | refine wpL_v rfl rfl (by decide) (OpV_cmp rfl rfl rfl (congrArg some (decide_eq_true (by omega)))) ?_ | refine wpL_v rfl rfl (by decide) (OpV_cmp rfl rfl rfl (congrArg some (decide_eq_false (by omega)))) ?_ | refine wpL_v rfl rfl (by decide) (OpV_move rfl rfl) ?_ | refine wpL_v rfl rfl (by decide) (OpV_assign rfl rfl) ?_ | refine wpL_v rfl rfl (by decide) (OpV_len rfl rfl rfl) ?_ | refine wpL_v rfl rfl (by decide) (OpV_fieldAddr rfl rfl rfl rfl) ?_ | refine wpL_v rfl rfl (by decide) (OpV_pick_f rfl rfl (by first | rfl | exact decide_eq_false (by omega)) rfl) ?_ | refine wpL_loadH 0 hG rfl rfl (by decide) rfl rfl rfl rfl ?_ | (refine wpL_boxH hG rfl rfl (by decide) rfl rfl rfl ?_; intro id G hG) | refine wpL_gt rfl rfl rfl rfl rfl (by decide) (by first | rfl | exact decide_eq_true (by omega) | exact decide_eq_false (by omega) | exact ndec_t (by omega) | exact ndec_f (by omega)) ?_ | refine wpA_ct rfl (by first | rfl | exact decide_eq_true (by omega) | exact ndec_t (by omega)) ?_ | refine wpA_ret ?_ | refine x_then_ret ?_)
    exact postI_1 rfl rfl (.refl _) (.v _) ⟨false, rfl, fun h => by cases h⟩
  repeat (first | refine wpL_end ?_ | refine wpA_seq ?_ | refine wpA_region ?_ | refine wpA_block ?_ | refine wpL_v rfl rfl (by decide) (OpV_cmp rfl rfl rfl (congrArg some (decide_eq_false (by omega)))) ?_ | refine wpL_v rfl rfl (by decide) (OpV_move rfl rfl) ?_ | refine wpL_v rfl rfl (by decide) (OpV_assign rfl rfl) ?_ | refine wpL_v rfl rfl (by decide) (OpV_len rfl rfl rfl) ?_ | refine wpL_v rfl rfl (by decide) (OpV_fieldAddr rfl rfl rfl rfl) ?_ | refine wpL_v rfl rfl (by decide) (OpV_pick_f rfl rfl (by first | rfl | exact decide_eq_false (by omega)) rfl) ?_ | refine wpL_loadH 0 hG rfl rfl (by decide) rfl rfl rfl rfl ?_ | (refine wpL_boxH hG rfl rfl (by decide) rfl rfl rfl ?_; intro id G hG) | refine wpL_gt rfl rfl rfl rfl rfl (by decide) (by first | rfl | exact decide_eq_true (by omega) | exact decide_eq_false (by omega) | exact ndec_t (by omega) | exact ndec_f (by omega)) ?_ | refine wpA_cf rfl (by first | rfl | exact decide_eq_false (by omega) | exact ndec_f (by omega)) ?_ | refine wpA_skip ?_)
  refine wpA_loopS (S := Nat) (fun i => [(1, .ptr id 0), (3, I i)]) (fun i G => i ≤ s.styles.length ∧ (∀ (j : Nat) (x : Style), j < i → s.styles[j]? = some x → x.props.length ≤ 40) ∧ G[id]? = some (some ⟨encSets s, 30, true⟩)) (fun i => s.styles.length - i) 0
    (.cons rfl (.cons rfl (.nil _))) ⟨Nat.zero_le _, fun j x h => by omega, hG.get 0 _ _ rfl⟩ ?_
  clear hG
  rintro i G ⟨hi, hS, hB⟩
  have hG := has_one hB
  by_cases hil : i < s.styles.length
  · obtain ⟨x, hx⟩ : ∃ x, s.styles[i]? = some x := ⟨_, List.getElem?_eq_getElem hil⟩
    by_cases c5 : (40 : Int) < x.props.length
    · repeat (first | refine wpL_end ?_ | refine wpA_seq ?_ | refine wpA_region ?_ | refine wpA_block ?_ | refine wpL_v rfl rfl (by decide) (OpV_index_tr (cells := s.styles.flatMap encStyle) rfl rfl rfl (by omega) (by exact styles_spot hx)) ?_ | refine wpL_v rfl rfl (by decide) (OpV_cmp rfl rfl rfl (congrArg some (decide_eq_true (by omega)))) ?_ | refine wpL_v rfl rfl (by decide) (OpV_move rfl rfl) ?_ | refine wpL_v rfl rfl (by decide) (OpV_assign rfl rfl) ?_ | refine wpL_v rfl rfl (by decide) (OpV_len rfl rfl rfl) ?_ | refine wpL_v rfl rfl (by decide) (OpV_fieldAddr rfl rfl rfl rfl) ?_ | refine wpL_v rfl rfl (by decide) (OpV_load rfl rfl rfl) ?_ | refine wpL_loadH 0 hG rfl rfl (by decide) rfl rfl rfl rfl ?_ | refine wpA_ct rfl (by first | rfl | exact decide_eq_true (by omega) | exact ndec_t (by omega)) ?_ | refine wpA_skip ?_ | refine wpA_ret ?_ | refine x_then_ret ?_ | refine x_block_ret ?_)
      exact postI_1 rfl rfl (.refl _) (.v _) ⟨false, rfl, fun h => by cases h⟩
    · repeat (first | refine wpL_end ?_ | refine wpA_seq ?_ | refine wpA_region ?_ | refine wpA_block ?_ | refine wpL_v rfl rfl (by decide) (OpV_index_tr (cells := s.styles.flatMap encStyle) rfl rfl rfl (by omega) (by exact styles_spot hx)) ?_ | refine wpL_v rfl rfl (by decide) (OpV_cmp rfl rfl rfl (congrArg some (decide_eq_true (by omega)))) ?_ | refine wpL_v rfl rfl (by decide) (OpV_cmp rfl rfl rfl (congrArg some (decide_eq_false (by omega)))) ?_ | refine wpL_v rfl rfl (by decide) (OpV_move rfl rfl) ?_ | refine wpL_v rfl rfl (by decide) (OpV_assign rfl rfl) ?_ | refine wpL_v rfl rfl (by decide) (OpV_add rfl rfl rfl (by omega)) ?_ | refine wpL_v rfl rfl (by decide) (OpV_len rfl rfl rfl) ?_ | refine wpL_v rfl rfl (by decide) (OpV_fieldAddr rfl rfl rfl rfl) ?_ | refine wpL_v rfl rfl (by decide) (OpV_load rfl rfl rfl) ?_ | refine wpL_loadH 0 hG rfl rfl (by decide) rfl rfl rfl rfl ?_ | refine wpA_ct rfl (by first | rfl | exact decide_eq_true (by omega) | exact ndec_t (by omega)) ?_ | refine wpA_cf rfl (by first | rfl | exact decide_eq_false (by omega) | exact ndec_f (by omega)) ?_ | refine wpA_skip ?_)
      exact ⟨i + 1, by omega, .cons rfl (.cons rfl (.nil _)), by omega, fun j y hj hy => by
        by_cases e : j = i
        · subst e; rw [hx] at hy; cases hy; omega
        · exact hS j y (by omega) hy, hB⟩
  · have hS : ∀ (j : Nat) (x : Style), s.styles[j]? = some x → x.props.length ≤ 40 := fun j x h => hS j x (by have := (List.getElem?_eq_some_iff.1 h).1; omega) h
    repeat (first | refine wpL_end ?_ | refine wpA_seq ?_ | refine wpA_region ?_ | refine wpA_block ?_ | refine wpL_v rfl rfl (by decide) (OpV_cmp rfl rfl rfl (congrArg some (decide_eq_false (by omega)))) ?_ | refine wpL_v rfl rfl (by decide) (OpV_move rfl rfl) ?_ | refine wpL_v rfl rfl (by decide) (OpV_assign rfl rfl) ?_ | refine wpL_v rfl rfl (by decide) (OpV_len rfl rfl rfl) ?_ | refine wpL_v rfl rfl (by decide) (OpV_fieldAddr rfl rfl rfl rfl) ?_ | refine wpL_loadH 0 hG rfl rfl (by decide) rfl rfl rfl rfl ?_ | refine wpA_cf rfl (by first | rfl | exact decide_eq_false (by omega) | exact ndec_f (by omega)) ?_ | refine wpA_exit ?_)
    refine wpA_loopS (S := Nat) (fun i => [(1, .ptr id 0), (4, I i)]) (fun i G => i ≤ s.lists.length ∧ (∀ (j : Nat) (x : Lst), j < i → s.lists[j]? = some x → x.levels.length ≤ 12) ∧ G[id]? = some (some ⟨encSets s, 30, true⟩)) (fun i => s.lists.length - i) 0
      (.cons rfl (.cons rfl (.nil _))) ⟨Nat.zero_le _, fun j x h => by omega, hB⟩ ?_
    clear hG hB
    rintro i G ⟨hi, hL, hB⟩
    have hG := has_one hB
    by_cases hil : i < s.lists.length
    · obtain ⟨x, hx⟩ : ∃ x, s.lists[i]? = some x := ⟨_, List.getElem?_eq_getElem hil⟩
      by_cases c5 : (12 : Int) < x.levels.length
      · repeat (first | refine wpL_end ?_ | refine wpA_seq ?_ | refine wpA_region ?_ | refine wpA_block ?_ | refine wpL_v rfl rfl (by decide) (OpV_index_tr (cells := s.lists.flatMap encLst) rfl rfl rfl (by omega) (by exact lists_spot hx)) ?_ | refine wpL_v rfl rfl (by decide) (OpV_cmp rfl rfl rfl (congrArg some (decide_eq_true (by omega)))) ?_ | refine wpL_v rfl rfl (by decide) (OpV_move rfl rfl) ?_ | refine wpL_v rfl rfl (by decide) (OpV_assign rfl rfl) ?_ | refine wpL_v rfl rfl (by decide) (OpV_len rfl rfl rfl) ?_ | refine wpL_v rfl rfl (by decide) (OpV_fieldAddr rfl rfl rfl rfl) ?_ | refine wpL_v rfl rfl (by decide) (OpV_load rfl rfl rfl) ?_ | refine wpL_loadH 0 hG rfl rfl (by decide) rfl rfl rfl rfl ?_ | refine wpA_ct rfl (by first | rfl | exact decide_eq_true (by omega) | exact ndec_t (by omega)) ?_ | refine wpA_skip ?_ | refine wpA_ret ?_ | refine x_then_ret ?_ | refine x_block_ret ?_)
        exact postI_1 rfl rfl (.refl _) (.v _) ⟨false, rfl, fun h => by cases h⟩
      · repeat (first | refine wpL_end ?_ | refine wpA_seq ?_ | refine wpA_region ?_ | refine wpA_block ?_ | refine wpL_v rfl rfl (by decide) (OpV_index_tr (cells := s.lists.flatMap encLst) rfl rfl rfl (by omega) (by exact lists_spot hx)) ?_ | refine wpL_v rfl rfl (by decide) (OpV_cmp rfl rfl rfl (congrArg some (decide_eq_true (by omega)))) ?_ | refine wpL_v rfl rfl (by decide) (OpV_cmp rfl rfl rfl (congrArg some (decide_eq_false (by omega)))) ?_ | refine wpL_v rfl rfl (by decide) (OpV_move rfl rfl) ?_ | refine wpL_v rfl rfl (by decide) (OpV_assign rfl rfl) ?_ | refine wpL_v rfl rfl (by decide) (OpV_add rfl rfl rfl (by omega)) ?_ | refine wpL_v rfl rfl (by decide) (OpV_len rfl rfl rfl) ?_ | refine wpL_v rfl rfl (by decide) (OpV_fieldAddr rfl rfl rfl rfl) ?_ | refine wpL_v rfl rfl (by decide) (OpV_load rfl rfl rfl) ?_ | refine wpL_loadH 0 hG rfl rfl (by decide) rfl rfl rfl rfl ?_ | refine wpA_ct rfl (by first | rfl | exact decide_eq_true (by omega) | exact ndec_t (by omega)) ?_ | refine wpA_cf rfl (by first | rfl | exact decide_eq_false (by omega) | exact ndec_f (by omega)) ?_ | refine wpA_skip ?_)
        exact ⟨i + 1, by omega, .cons rfl (.cons rfl (.nil _)), by omega, fun j y hj hy => by
          by_cases e : j = i
          · subst e; rw [hx] at hy; cases hy; omega
          · exact hL j y (by omega) hy, hB⟩
    · repeat (first | refine wpL_end ?_ | refine wpA_seq ?_ | refine wpA_region ?_ | refine wpL_v rfl rfl (by decide) (OpV_cmp rfl rfl rfl (congrArg some (decide_eq_false (by omega)))) ?_ | refine wpL_v rfl rfl (by decide) (OpV_move rfl rfl) ?_ | refine wpL_v rfl rfl (by decide) (OpV_assign rfl rfl) ?_ | refine wpL_v rfl rfl (by decide) (OpV_len rfl rfl rfl) ?_ | refine wpL_v rfl rfl (by decide) (OpV_fieldAddr rfl rfl rfl rfl) ?_ | refine wpL_loadH 0 hG rfl rfl (by decide) rfl rfl rfl rfl ?_ | refine wpA_cf rfl (by first | rfl | exact decide_eq_false (by omega) | exact ndec_f (by omega)) ?_ | refine wpA_exit ?_ | refine wpA_ret ?_)
      exact postI_1 rfl rfl (.refl _) (.v _) ⟨true, rfl, fun _ => ⟨by omega, by omega, by omega, by omega, hS, fun j x h => hL j x (by have := (List.getElem?_eq_some_iff.1 h).1; omega) h⟩⟩
end Go.Proofs.YtpmfnjkcoogicaaGreat
