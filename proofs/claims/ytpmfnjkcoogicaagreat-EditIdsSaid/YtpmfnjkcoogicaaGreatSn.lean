/- Whether rows are small: an answer comes. -/
import Derived.Test.YtpmfnjkcoogicaaGreatSm
namespace Go.Proofs.YtpmfnjkcoogicaaGreat
open Go.RowKit Go.Th
set_option linter.unusedVariables false
set_option maxRecDepth 20000

set_option maxHeartbeats 16000000 in
theorem smRows (l : List Row) (hC : ∀ x ∈ l, ∀ h cs, x = .mk h cs → ∀ y ∈ cs, ∀ dd hh ff, y = .mk dd hh ff → SmI ff) (hbn : Bnd (rowsP l)) : SmR l := by
  intro d n0 ctr H hd0 hd1 hn0 hn1 hH
  have hl := (bnd_row hbn).1
  refine AC_enter Tryz.func96 rfl rfl rfl ?_
  have hG := has_one hH
  repeat (first | refine wpL_end ?_ | refine wpA_seq ?_ | refine wpA_region ?_ | refine wpA_block ?_ | refine wpL_v rfl rfl (by decide) (OpV_assign rfl rfl) ?_)
  refine wpA_loopS (S := Nat × Int) (fun s => [(0, rowsP l), (1, I d), (2, .ptr ctr 0), (7, I s.1)]) (fun s G => s.1 ≤ l.length ∧ (0 ≤ s.2 ∧ s.2 = n0 - costRs (l.take s.1)) ∧ G[ctr]? = some (some (cntB s.2))) (fun s => l.length - s.1) (0, n0)
    (.cons rfl (.cons rfl (.cons rfl (.cons rfl (.nil _))))) ⟨Nat.zero_le _, ⟨hn0, by simp [costRs]⟩, hH⟩ ?_
  rintro ⟨i, n⟩ G ⟨hi, ⟨hnn, hne⟩, hB⟩
  dsimp only at hi hnn hne hB ⊢
  have hG := has_one hB
  by_cases hil : i < l.length
  · obtain ⟨x, hx⟩ : ∃ x, l[i]? = some x := ⟨_, List.getElem?_eq_getElem hil⟩
    have hCx := hC x (List.mem_of_getElem? hx)
    have hct := costRs_take l i x hx
    have hbh := bnd_rows hbn (List.mem_of_getElem? hx)
    obtain ⟨h, cs⟩ := x
    have hCx := hCx h cs rfl
    obtain ⟨hbh, hbc⟩ := hbh h cs rfl
    have hle1 := left1_eq (n := n) (by omega) (by omega) hbh
    have hhl := costH_le hbh
    rw [costR] at hct
    clear hC
    repeat (first | refine wpL_end ?_ | refine wpA_seq ?_ | refine wpA_region ?_ | refine wpA_block ?_ | refine wpL_v rfl rfl (by decide) (OpV_cmp rfl rfl rfl (congrArg some (decide_eq_true (by omega)))) ?_ | refine wpL_v rfl rfl (by decide) (OpV_move rfl rfl) ?_ | refine wpL_v rfl rfl (by decide) (OpV_len rfl rfl rfl) ?_ | refine wpA_ct rfl (by first | rfl | exact decide_eq_true (by omega) | exact ndec_t (by omega)) ?_ | refine wpA_skip ?_)
    have hG1 := hG.set (k := 0) rfl (cntB (left1 n h))
    refine wpA_yL [G.set ctr (some (cntB (left1 n h)))] (G.set ctr (some (cntB (left1 n h)))) mixed (by decide +kernel) (N := 1) (by decide +kernel) rfl ?_
    repeat (first | refine Y_v rfl rfl rfl (by decide) (fun _ => OpV_subw rfl rfl rfl) ?_ | refine Y_v rfl rfl rfl (by decide) (fun _ => OpV_quow rfl rfl rfl (by decide)) ?_ | refine Y_v rfl rfl rfl (by decide) (fun _ => OpV_index_tr (cells := l.flatMap encRow) rfl rfl rfl (by omega) (by exact row_at hx)) ?_ | refine Y_r 0 (by decide +kernel) (by decide +kernel) rfl rfl rfl rfl (by decide) (OpV_load_at rfl rfl (hG.get 0 _ _ rfl) rfl) ?_ | refine Y_s 0 (by decide +kernel) rfl rfl rfl rfl (OpS_store_at rfl rfl rfl (hG.get 0 _ _ rfl) rfl rfl rfl rfl rfl) rfl ?_ | refine Y_v rfl rfl rfl (by decide) (fun _ => OpV_move rfl rfl) ?_ | refine Y_v rfl rfl rfl (by decide) (fun _ => OpV_len rfl rfl rfl) ?_ | refine Y_v rfl rfl rfl (by decide) (fun _ => OpV_nilCheck rfl rfl rfl) ?_ | refine Y_v rfl rfl rfl (by decide) (fun _ => OpV_fieldAddr rfl rfl rfl rfl) ?_ | refine Y_v rfl rfl rfl (by decide) (fun _ => OpV_load rfl rfl rfl) ?_ | refine Y_end ?_)
    have hG := hG1
    clear hG1 hB
    generalize left1 n h = n1 at hG hle1 ⊢
    refine wpA_sub [(0, rowsP l), (1, I d), (2, .ptr ctr 0), (7, I i)] (.cons rfl (.cons rfl (.cons rfl (.cons rfl (.nil _))))) ?_
    generalize G.set ctr (some (cntB n1)) = G at hG ⊢
    repeat (first | refine wpL_end ?_ | refine wpA_seq ?_ | refine wpA_region ?_ | refine wpA_block ?_ | refine wpL_v rfl rfl (by decide) (OpV_assign rfl rfl) ?_)
    refine wpA_loopS (S := Nat × Int) (fun s => [(0, rowsP l), (1, I d), (2, .ptr ctr 0), (7, I i), (8, I s.1)]) (fun s G => s.1 ≤ cs.length ∧ (-3458764513820540929 ≤ s.2 ∧ s.2 = n1 - costCs (cs.take s.1)) ∧ G[ctr]? = some (some (cntB s.2))) (fun s => cs.length - s.1) (0, n1)
      (.cons rfl (.cons rfl (.cons rfl (.cons rfl (.cons rfl (.nil _)))))) ⟨Nat.zero_le _, ⟨by simp only; omega, by simp [costCs]⟩, hG.get 0 _ _ rfl⟩ ?_
    clear hG
    rintro ⟨j, n2⟩ G ⟨hj, ⟨hm2, he2⟩, hB⟩
    dsimp only at hj hm2 he2 hB ⊢
    have hG := has_one hB
    by_cases hjl : j < cs.length
    · obtain ⟨y, hy⟩ : ∃ y, cs[j]? = some y := ⟨_, List.getElem?_eq_getElem hjl⟩
      have hf := hCx y (List.mem_of_getElem? hy)
      have hct2 := costCs_take cs j y hy
      have hbh2 := bnd_cells hbc (List.mem_of_getElem? hy)
      obtain ⟨dd, hh, ff⟩ := y
      have hf := hf dd hh ff rfl
      have hbh2 := hbh2 dd hh ff rfl
      have hle2 := left1_eq (n := n2) hm2 (by omega) hbh2
      rw [costC] at hct2
      clear hCx
      repeat (first | refine wpL_end ?_ | refine wpA_seq ?_ | refine wpA_region ?_ | refine wpA_block ?_ | refine wpL_v rfl rfl (by decide) (OpV_index_tr (cells := l.flatMap encRow) rfl rfl rfl (by omega) (by exact row_at hx)) ?_ | refine wpL_v rfl rfl (by decide) (OpV_index_tr (cells := cs.flatMap encCell) rfl rfl rfl (by omega) (by exact cell_at hy)) ?_ | refine wpL_v rfl rfl (by decide) (OpV_cmp rfl rfl rfl (congrArg some (decide_eq_true (by omega)))) ?_ | refine wpL_v rfl rfl (by decide) (OpV_move rfl rfl) ?_ | refine wpL_v rfl rfl (by decide) (OpV_len rfl rfl rfl) ?_ | refine wpL_v rfl rfl (by decide) (OpV_fieldAddr rfl rfl rfl rfl) ?_ | refine wpL_v rfl rfl (by decide) (OpV_load rfl rfl rfl) ?_ | (refine wpL_storeH 0 hG rfl rfl rfl rfl rfl rfl rfl rfl rfl rfl rfl ?_; intro G hG) | (refine wpL_allocH hG rfl rfl (by decide) rfl rfl ?_; intro id G hG) | refine wpA_ct rfl (by first | rfl | exact decide_eq_true (by omega) | exact ndec_t (by omega)) ?_ | refine wpA_skip ?_)
      refine wpA_len 56 rfl fun hcs => ?_
      have hG1 := hG.set (k := 1) rfl (cntB (left1 n2 hh))
      refine wpA_yL [G.set ctr (some (cntB (left1 n2 hh)))] (G.set ctr (some (cntB (left1 n2 hh)))) mixed (by decide +kernel) (N := 1) (by decide +kernel) rfl ?_
      repeat (first | refine Y_v rfl rfl rfl (by decide) (fun _ => OpV_subw rfl rfl rfl) ?_ | refine Y_v rfl rfl rfl (by decide) (fun _ => OpV_quow rfl rfl rfl (by decide)) ?_ | refine Y_r 0 (by decide +kernel) (by decide +kernel) rfl rfl rfl rfl (by decide) (OpV_load_at rfl rfl (hG.get 0 _ _ rfl) rfl) ?_ | refine Y_r 0 (by decide +kernel) (by decide +kernel) rfl rfl rfl rfl (by decide) (OpV_load_at rfl rfl (hG.get 1 _ _ rfl) rfl) ?_ | refine Y_s 0 (by decide +kernel) rfl rfl rfl rfl (OpS_store_at rfl rfl rfl (hG.get 1 _ _ rfl) rfl rfl rfl rfl rfl) rfl ?_ | refine Y_v rfl rfl rfl (by decide) (fun _ => OpV_move rfl rfl) ?_ | refine Y_v rfl rfl rfl (by decide) (fun _ => OpV_len rfl rfl rfl) ?_ | refine Y_v rfl rfl rfl (by decide) (fun _ => OpV_nilCheck rfl rfl rfl) ?_ | refine Y_v rfl rfl rfl (by decide) (fun _ => OpV_fieldAddr rfl rfl rfl rfl) ?_ | refine Y_end ?_)
      have hG := hG1.tail
      clear hG1 hB
      generalize left1 n2 hh = n3 at hG hle2 ⊢
      refine wpA_sub [(0, rowsP l), (1, I d), (2, .ptr ctr 0), (7, I i), (8, I j)] (.cons rfl (.cons rfl (.cons rfl (.cons rfl (.cons rfl (.nil _)))))) ?_
      generalize G.set ctr (some (cntB n3)) = G at hG ⊢
      have hB := hG.get 0 _ _ rfl
      have hG := has_one hB
      by_cases c1 : n3 < 0
      · repeat (first | refine wpL_end ?_ | refine wpA_seq ?_ | refine wpA_region ?_ | refine wpL_v rfl rfl (by decide) (OpV_cmp rfl rfl rfl (congrArg some (decide_eq_true (by omega)))) ?_ | refine wpL_v rfl rfl (by decide) (OpV_move rfl rfl) ?_ | refine wpL_v rfl rfl (by decide) (OpV_assign rfl rfl) ?_ | refine wpL_v rfl rfl (by decide) (OpV_nilCheck rfl rfl rfl) ?_ | refine wpL_v rfl rfl (by decide) (OpV_pick_t rfl rfl (by first | rfl | exact decide_eq_true (by omega)) rfl) ?_ | refine wpL_loadH 0 hG rfl rfl (by decide) rfl rfl rfl rfl ?_ | refine wpL_gf rfl rfl rfl rfl rfl (by decide) (by first | rfl | exact decide_eq_true (by omega) | exact decide_eq_false (by omega) | exact ndec_t (by omega) | exact ndec_f (by omega)) ?_ | refine wpA_ct rfl (by first | rfl | exact decide_eq_true (by omega) | exact ndec_t (by omega)) ?_ | refine wpA_ret ?_ | refine x_then_ret ?_ | refine x_block_ret ?_)
        exact postA_1 rfl rfl ⟨false, n3, rfl, hG.get 0 _ _ rfl, fun h => by cases h⟩
      by_cases c2 : d = 0
      · repeat (first | refine wpL_end ?_ | refine wpA_seq ?_ | refine wpA_region ?_ | refine wpL_v rfl rfl (by decide) (OpV_cmp rfl rfl rfl (congrArg some (decide_eq_true (by omega)))) ?_ | refine wpL_v rfl rfl (by decide) (OpV_cmp rfl rfl rfl (congrArg some (decide_eq_false (by omega)))) ?_ | refine wpL_v rfl rfl (by decide) (OpV_move rfl rfl) ?_ | refine wpL_v rfl rfl (by decide) (OpV_assign rfl rfl) ?_ | refine wpL_v rfl rfl (by decide) (OpV_nilCheck rfl rfl rfl) ?_ | refine wpL_v rfl rfl (by decide) (OpV_pick_t rfl rfl (by first | rfl | exact decide_eq_true (by omega)) rfl) ?_ | refine wpL_v rfl rfl (by decide) (OpV_pick_f rfl rfl (by first | rfl | exact decide_eq_false (by omega)) rfl) ?_ | refine wpL_loadH 0 hG rfl rfl (by decide) rfl rfl rfl rfl ?_ | refine wpL_gt rfl rfl rfl rfl rfl (by decide) (by first | rfl | exact decide_eq_true (by omega) | exact decide_eq_false (by omega) | exact ndec_t (by omega) | exact ndec_f (by omega)) ?_ | refine wpL_gf rfl rfl rfl rfl rfl (by decide) (by first | rfl | exact decide_eq_true (by omega) | exact decide_eq_false (by omega) | exact ndec_t (by omega) | exact ndec_f (by omega)) ?_ | refine wpA_ct rfl (by first | rfl | exact decide_eq_true (by omega) | exact ndec_t (by omega)) ?_ | refine wpA_ret ?_ | refine x_then_ret ?_ | refine x_block_ret ?_)
        exact postA_1 rfl rfl ⟨false, n3, rfl, hG.get 0 _ _ rfl, fun h => by cases h⟩
      repeat (first | refine wpA_seq ?_ | refine wpA_region ?_ | refine wpL_v rfl rfl (by decide) (OpV_index_tr (cells := l.flatMap encRow) rfl rfl rfl (by omega) (by exact row_at hx)) ?_ | refine wpL_v rfl rfl (by decide) (OpV_index_tr (cells := cs.flatMap encCell) rfl rfl rfl (by omega) (by exact cell_at hy)) ?_ | refine wpL_v rfl rfl (by decide) (OpV_cmp rfl rfl rfl (congrArg some (decide_eq_false (by omega)))) ?_ | refine wpL_v rfl rfl (by decide) (OpV_move rfl rfl) ?_ | refine wpL_v rfl rfl (by decide) (OpV_sub rfl rfl rfl (by omega)) ?_ | refine wpL_v rfl rfl (by decide) (OpV_nilCheck rfl rfl rfl) ?_ | refine wpL_v rfl rfl (by decide) (OpV_fieldAddr rfl rfl rfl rfl) ?_ | refine wpL_v rfl rfl (by decide) (OpV_load rfl rfl rfl) ?_ | refine wpL_v rfl rfl (by decide) (OpV_pick_f rfl rfl (by first | rfl | exact decide_eq_false (by omega)) rfl) ?_ | refine wpL_loadH 0 hG rfl rfl (by decide) rfl rfl rfl rfl ?_ | refine wpL_gt rfl rfl rfl rfl rfl (by decide) (by first | rfl | exact decide_eq_true (by omega) | exact decide_eq_false (by omega) | exact ndec_t (by omega) | exact ndec_f (by omega)) ?_)
      refine wpL_ac rfl rfl rfl rfl rfl rfl (by decide) (hf (d - 1) n3 ctr _ (by omega) (by omega) (by omega) (by omega) (hG.get 0 _ _ rfl)) ?_
      rintro _ G2 ⟨b, n4, rfl, hB2, hn4⟩
      have hG := has_one hB2
      cases b with
      | false =>
        repeat (first | refine wpL_end ?_ | refine wpA_seq ?_ | refine wpA_region ?_ | refine wpL_v rfl rfl (by decide) (OpV_assign rfl rfl) ?_ | refine wpL_v rfl rfl (by decide) (OpV_not rfl rfl) ?_ | refine wpL_v rfl rfl (by decide) (OpV_pick_f rfl rfl (by first | rfl | exact decide_eq_false (by omega)) rfl) ?_ | refine wpL_gt rfl rfl rfl rfl rfl (by decide) (by first | rfl | exact decide_eq_true (by omega) | exact decide_eq_false (by omega) | exact ndec_t (by omega) | exact ndec_f (by omega)) ?_ | refine wpA_ct rfl (by first | rfl | exact decide_eq_true (by omega) | exact ndec_t (by omega)) ?_ | refine wpA_ret ?_ | refine x_then_ret ?_ | refine x_block_ret ?_)
        exact postA_1 rfl rfl ⟨false, n4, rfl, hB2, fun h => by cases h⟩
      | true =>
        obtain ⟨hn4, he4⟩ := hn4 rfl
        repeat (first | refine wpL_end ?_ | refine wpA_region ?_ | refine wpL_v rfl rfl (by decide) (OpV_move rfl rfl) ?_ | refine wpL_v rfl rfl (by decide) (OpV_assign rfl rfl) ?_ | refine wpL_v rfl rfl (by decide) (OpV_add rfl rfl rfl (by omega)) ?_ | refine wpL_v rfl rfl (by decide) (OpV_not rfl rfl) ?_ | refine wpL_v rfl rfl (by decide) (OpV_pick_f rfl rfl (by first | rfl | exact decide_eq_false (by omega)) rfl) ?_ | refine wpL_gt rfl rfl rfl rfl rfl (by decide) (by first | rfl | exact decide_eq_true (by omega) | exact decide_eq_false (by omega) | exact ndec_t (by omega) | exact ndec_f (by omega)) ?_ | refine wpA_cf rfl (by first | rfl | exact decide_eq_false (by omega) | exact ndec_f (by omega)) ?_ | refine wpA_skip ?_)
        exact ⟨(j + 1, n4), by simp only; omega, .cons rfl (.cons rfl (.cons rfl (.cons rfl (.cons rfl (.nil _))))), by simp only; omega, ⟨by simp only; omega, by simp only; rw [hct2]; omega⟩, hB2⟩
    · have e : j = cs.length := by omega
      rw [e, List.take_length] at he2
      repeat (first | refine wpL_end ?_ | refine wpA_seq ?_ | refine wpA_region ?_ | refine wpL_v rfl rfl (by decide) (OpV_index_tr (cells := l.flatMap encRow) rfl rfl rfl (by omega) (by exact row_at hx)) ?_ | refine wpL_v rfl rfl (by decide) (OpV_cmp rfl rfl rfl (congrArg some (decide_eq_false (by omega)))) ?_ | refine wpL_v rfl rfl (by decide) (OpV_move rfl rfl) ?_ | refine wpL_v rfl rfl (by decide) (OpV_cmp rfl rfl rfl rfl) ?_ | refine wpL_v rfl rfl (by decide) (OpV_len rfl rfl rfl) ?_ | refine wpL_v rfl rfl (by decide) (OpV_nilCheck rfl rfl rfl) ?_ | refine wpL_v rfl rfl (by decide) (OpV_fieldAddr rfl rfl rfl rfl) ?_ | refine wpL_v rfl rfl (by decide) (OpV_load rfl rfl rfl) ?_ | refine wpL_loadH 0 hG rfl rfl (by decide) rfl rfl rfl rfl ?_ | refine wpA_cf rfl (by first | rfl | exact decide_eq_false (by omega) | exact ndec_f (by omega)) ?_ | refine wpA_exit ?_)
      by_cases c1 : n2 < 0
      · repeat (first | refine wpL_end ?_ | refine wpA_seq ?_ | refine wpA_region ?_ | refine wpL_v rfl rfl (by decide) (OpV_assign rfl rfl) ?_ | refine wpA_ct rfl (by first | rfl | exact decide_eq_true (by omega) | exact ndec_t (by omega)) ?_ | refine wpA_ret ?_ | refine x_then_ret ?_ | refine x_block_ret ?_)
        exact postA_1 rfl rfl ⟨false, n2, rfl, hB, fun h => by cases h⟩
      · repeat (first | refine wpL_end ?_ | refine wpA_region ?_ | refine wpL_v rfl rfl (by decide) (OpV_move rfl rfl) ?_ | refine wpL_v rfl rfl (by decide) (OpV_assign rfl rfl) ?_ | refine wpL_v rfl rfl (by decide) (OpV_add rfl rfl rfl (by omega)) ?_ | refine wpA_cf rfl (by first | rfl | exact decide_eq_false (by omega) | exact ndec_f (by omega)) ?_ | refine wpA_skip ?_)
        exact ⟨(i + 1, n2), by simp only; omega, .cons rfl (.cons rfl (.cons rfl (.cons rfl (.nil _)))), by simp only; omega, ⟨by simp only; omega, by simp only; rw [hct]; omega⟩, hB⟩
  · have e : i = l.length := by omega
    rw [e, List.take_length] at hne
    repeat (first | refine wpL_end ?_ | refine wpA_seq ?_ | refine wpA_region ?_ | refine wpL_v rfl rfl (by decide) (OpV_cmp rfl rfl rfl (congrArg some (decide_eq_false (by omega)))) ?_ | refine wpL_v rfl rfl (by decide) (OpV_move rfl rfl) ?_ | refine wpL_v rfl rfl (by decide) (OpV_assign rfl rfl) ?_ | refine wpL_v rfl rfl (by decide) (OpV_len rfl rfl rfl) ?_ | refine wpA_cf rfl (by first | rfl | exact decide_eq_false (by omega) | exact ndec_f (by omega)) ?_ | refine wpA_exit ?_ | refine wpA_ret ?_)
    exact postA_1 rfl rfl ⟨true, n, rfl, hB, fun _ => ⟨hnn, hne⟩⟩
end Go.Proofs.YtpmfnjkcoogicaaGreat
