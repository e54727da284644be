/- small of an edit; the rows of an edit as a table. -/
import Derived.Test.YtpmfnjkcoogicaaGreatSo
namespace Go.Proofs.YtpmfnjkcoogicaaGreat
open Go.RowKit Go.Th
set_option linter.unusedVariables false
set_option maxRecDepth 20000

theorem rows_one (l : List Row) : (l.flatMap encRow).all pvOne = true := List.all_eq_true.2 fun c hc => by
  obtain ⟨x, _, hx⟩ := List.mem_flatMap.1 hc
  cases x
  rw [encRow_mk] at hx
  simp only [List.mem_cons, List.not_mem_nil, or_false] at hx
  rcases hx with rfl | rfl | rfl | rfl | rfl | rfl <;> rfl
/-- The rows of an edit, its cells as a row of their own ahead of them. -/
def rowsE (e : Edit) : List Row := .mk head0 e.cells :: e.rows
def tabI (e : Edit) : Item := .mk 7 0 0 ⟨#[]⟩ head0 [] (rowsE e)
def row0P (e : Edit) : List PV := [nilS, I 0, I 0, nilS, nilS, cellsP e.cells]
def tabP (e : Edit) : PV := .tr [I 7, I 0, I 0, S ⟨#[]⟩, nilS, I 0, I 0, nilS, nilS, nilS, .tr (row0P e ++ e.rows.flatMap encRow) (1 + e.rows.length) 6] 1 11
theorem wk_tab (e : Edit) : Wk (tabP e) (itemsP [tabI e]) := by
  have h1 : WkL (row0P e) (encRow (.mk head0 e.cells)) := by
    rw [encRow_mk]
    exact .cons (.nil 2) (.cons (.refl _) (.cons (.refl _) (.cons (.nil 2) (.cons (.nil 4) (.refl _)))))
  have h2 : Wk (.tr (row0P e ++ e.rows.flatMap encRow) (1 + e.rows.length) 6) (rowsP (rowsE e)) := by
    have : rowsP (rowsE e) = .tr (encRow (.mk head0 e.cells) ++ e.rows.flatMap encRow) (1 + e.rows.length) 6 := by
      simp [rowsP, rowP, rowsE, List.flatMap_cons, Nat.add_comm]
    rw [this]
    exact .tr (.app h1 (.refl _))
  have h3 : itemsP [tabI e] = .tr [I 7, I 0, I 0, S ⟨#[]⟩, propsP [], I 0, I 0, delsP [], lyrsP [], itemsP [], rowsP (rowsE e)] 1 11 := by
    simp only [itemsP, rowP, tabI, List.flatMap_cons, List.flatMap_nil, List.append_nil, encItem_mk]
    rfl
  rw [h3]
  exact .tr (.cons (.refl _) (.cons (.refl _) (.cons (.refl _) (.cons (.refl _) (.cons (.nil 2) (.cons (.refl _) (.cons (.refl _) (.cons (.nil 2) (.cons (.nil 4) (.cons (.nil 11) (.cons h2 .nil)))))))))))
theorem trees_row0 (e : Edit) : ∀ c ∈ row0P e, Tree c := trees_cons (Tree.v _) (trees_cons (Tree.v _) (trees_cons (Tree.v _) (trees_cons (Tree.v _) (trees_cons (Tree.v _) (trees_cons (tree_cellsP _) trees_nil)))))
theorem tree_tab (e : Edit) : Tree (tabP e) := Tree.tr (trees_cons (Tree.v _) (trees_cons (Tree.v _) (trees_cons (Tree.v _) (trees_cons (Tree.v _) (trees_cons (Tree.v _) (trees_cons (Tree.v _) (trees_cons (Tree.v _) (trees_cons (Tree.v _) (trees_cons (Tree.v _) (trees_cons (Tree.v _)
  (trees_cons (Tree.tr fun c hc => by
    rcases List.mem_append.1 hc with h | h
    · exact trees_row0 e c h
    · obtain ⟨x, _, hx⟩ := List.mem_flatMap.1 h
      exact trees_row x c hx) trees_nil)))))))))))
theorem smallTab_iso (e : Edit) : Iso Tryz.prog 22 [tabP e] (fun p => ∃ b, p = B b ∧ (b = true → costIs [tabI e] ≤ 300)) := Iso_wk (smallItems_iso [tabI e]) (.cons (wk_tab e) .nil)

/-- What is known of a small edit. -/
structure SmE (e : Edit) : Prop where
  rows : e.rows.length ≤ 20
  cells : e.cells.length ≤ 20
  items : costIs e.items ≤ 300
  tab : costIs [tabI e] ≤ 300
  sets : SmS e.sets

set_option maxHeartbeats 16000000 in
theorem small_iso (e : Edit) : Iso Tryz.prog 7 [.agg (encEdit e)] (fun p => ∃ b, p = B b ∧ (b = true → SmE e)) := by
  have hG := has_nil
  refine Iso_enter Tryz.func7 rfl rfl rfl ?_
  by_cases c1 : (e.rows.length : Int) ≤ 20
  case neg =>
    repeat (first | refine wpL_end ?_ | refine wpA_seq ?_ | refine wpA_region ?_ | refine wpL_v rfl rfl (by decide) (OpV_cmp rfl rfl rfl (congrArg some (decide_eq_false (by omega)))) ?_ | refine wpL_v rfl rfl (by decide) (OpV_move rfl rfl) ?_ | refine wpL_v rfl rfl (by decide) (OpV_assign rfl rfl) ?_ | refine wpL_v rfl rfl (by decide) (OpV_len rfl rfl rfl) ?_ | refine wpL_v rfl rfl (by decide) (OpV_fieldAddr rfl rfl rfl rfl) ?_ | refine wpL_v rfl rfl (by decide) (OpV_pick_f rfl rfl (by first | rfl | exact decide_eq_false (by omega)) rfl) ?_ | refine wpL_loadH 0 hG rfl rfl (by decide) rfl rfl rfl rfl ?_ | (refine wpL_boxH hG rfl rfl (by decide) rfl rfl rfl ?_; intro id G hG) | refine wpL_gf rfl rfl rfl rfl rfl (by decide) (by first | rfl | exact decide_eq_true (by omega) | exact decide_eq_false (by omega) | exact ndec_t (by omega) | exact ndec_f (by omega)) ?_ | refine wpA_ret ?_)
    exact postI_1 rfl rfl (.refl _) (.v _) ⟨false, rfl, fun h => by cases h⟩
  by_cases c2 : (e.cells.length : Int) ≤ 20
  case neg =>
    repeat (first | refine wpL_end ?_ | refine wpA_seq ?_ | refine wpA_region ?_ | refine wpL_v rfl rfl (by decide) (OpV_cmp rfl rfl rfl (congrArg some (decide_eq_true (by omega)))) ?_ | refine wpL_v rfl rfl (by decide) (OpV_cmp rfl rfl rfl (congrArg some (decide_eq_false (by omega)))) ?_ | refine wpL_v rfl rfl (by decide) (OpV_move rfl rfl) ?_ | refine wpL_v rfl rfl (by decide) (OpV_assign rfl rfl) ?_ | refine wpL_v rfl rfl (by decide) (OpV_len rfl rfl rfl) ?_ | refine wpL_v rfl rfl (by decide) (OpV_fieldAddr rfl rfl rfl rfl) ?_ | refine wpL_v rfl rfl (by decide) (OpV_pick_t rfl rfl (by first | rfl | exact decide_eq_true (by omega)) rfl) ?_ | refine wpL_v rfl rfl (by decide) (OpV_pick_f rfl rfl (by first | rfl | exact decide_eq_false (by omega)) rfl) ?_ | refine wpL_loadH 0 hG rfl rfl (by decide) rfl rfl rfl rfl ?_ | (refine wpL_boxH hG rfl rfl (by decide) rfl rfl rfl ?_; intro id G hG) | refine wpL_gt rfl rfl rfl rfl rfl (by decide) (by first | rfl | exact decide_eq_true (by omega) | exact decide_eq_false (by omega) | exact ndec_t (by omega) | exact ndec_f (by omega)) ?_ | refine wpL_gf rfl rfl rfl rfl rfl (by decide) (by first | rfl | exact decide_eq_true (by omega) | exact decide_eq_false (by omega) | exact ndec_t (by omega) | exact ndec_f (by omega)) ?_ | refine wpA_ret ?_)
    exact postI_1 rfl rfl (.refl _) (.v _) ⟨false, rfl, fun h => by cases h⟩
  repeat (first | refine wpL_end ?_ | refine wpL_nil ?_ | refine wpA_seq ?_ | refine wpA_region ?_ | refine wpA_block ?_ | (refine wpL_is rfl rfl rfl rfl rfl rfl (by decide) (smallItems_iso e.items) (TreeL.cons (tree_itemsP _) TreeL.nil) ?_; rintro _ ⟨b, rfl, hit⟩; cases b) | refine wpL_v rfl rfl (by decide) (OpV_cmp rfl rfl rfl (congrArg some (decide_eq_true (by omega)))) ?_ | refine wpL_v rfl rfl (by decide) (OpV_cmp rfl rfl rfl (congrArg some (decide_eq_false (by omega)))) ?_ | refine wpL_v rfl rfl (by decide) (OpV_cmp rfl rfl rfl (congrArg some (ndec_t (by omega)))) ?_ | refine wpL_v rfl rfl (by decide) (OpV_cmp rfl rfl rfl (congrArg some (ndec_f (by omega)))) ?_ | refine wpL_v rfl rfl (by decide) (OpV_move rfl rfl) ?_ | refine wpL_v rfl rfl (by decide) (OpV_assign rfl rfl) ?_ | refine wpL_v rfl rfl (by decide) (OpV_cmp rfl rfl rfl rfl) ?_ | refine wpL_v rfl rfl (by decide) (OpV_len rfl rfl rfl) ?_ | refine wpL_v rfl rfl (by decide) (OpV_fieldAddr rfl rfl rfl rfl) ?_ | refine wpL_v rfl rfl (by decide) (OpV_load rfl rfl rfl) ?_ | refine wpL_v rfl rfl (by decide) (OpV_pick_t rfl rfl (by first | rfl | exact decide_eq_true (by omega)) rfl) ?_ | refine wpL_v rfl rfl (by decide) (OpV_pick_f rfl rfl (by first | rfl | exact decide_eq_false (by omega)) rfl) ?_ | refine wpL_v rfl rfl (by decide) (OpV_build rfl rfl rfl rfl) ?_ | refine wpL_loadH 0 hG rfl rfl (by decide) rfl rfl rfl rfl ?_ | refine wpL_loadH 1 hG rfl rfl (by decide) rfl rfl rfl rfl ?_ | refine wpL_loadH 2 hG rfl rfl (by decide) rfl rfl rfl rfl ?_ | refine wpL_loadH 3 hG rfl rfl (by decide) rfl rfl rfl rfl ?_ | refine wpL_loadH 4 hG rfl rfl (by decide) rfl rfl rfl rfl ?_ | refine wpL_loadH 5 hG rfl rfl (by decide) rfl rfl rfl rfl ?_ | (refine wpL_boxH hG rfl rfl (by decide) rfl rfl rfl ?_; intro id G hG) | (refine wpL_sliceH hG rfl rfl (by decide) rfl rfl rfl rfl rfl rfl rfl rfl ?_; intro id G hG) | refine wpL_gt rfl rfl rfl rfl rfl (by decide) (by first | rfl | exact decide_eq_true (by omega) | exact decide_eq_false (by omega) | exact ndec_t (by omega) | exact ndec_f (by omega)) ?_ | refine wpL_gf rfl rfl rfl rfl rfl (by decide) (by first | rfl | exact decide_eq_true (by omega) | exact decide_eq_false (by omega) | exact ndec_t (by omega) | exact ndec_f (by omega)) ?_ | refine wpA_ct rfl (by first | rfl | exact decide_eq_true (by omega) | exact ndec_t (by omega)) ?_ | refine wpA_cf rfl (by first | rfl | exact decide_eq_false (by omega) | exact ndec_f (by omega)) ?_ | refine wpA_skip ?_ | refine wpA_exit ?_ | refine wpA_ret ?_ | refine x_then_exit ?_ | refine x_then_ret ?_ | refine x_then_normal ?_ | refine x_block_ret ?_ | refine x_block_normal ?_ | refine x_block_exit ?_ | refine x_block_other rfl ?_ | refine wpL_v rfl rfl (by decide) (OpV_pick_t rfl rfl (ndec_t (by omega)) rfl) ?_ | refine wpL_v rfl rfl (by decide) (OpV_pick_f rfl rfl (ndec_f (by omega)) rfl) ?_)
  · exact postI_1 rfl rfl (.refl _) (.v _) ⟨false, rfl, fun h => by cases h⟩
  repeat (first | refine wpL_v rfl rfl (by decide) (OpV_move rfl rfl) ?_ | refine wpL_v rfl rfl (by decide) (OpV_fieldAddr rfl rfl rfl rfl) ?_ | refine wpL_v rfl rfl (by decide) (OpV_pick_t rfl rfl (by first | rfl | exact decide_eq_true (by omega)) rfl) ?_ | refine wpL_v rfl rfl (by decide) (OpV_build rfl rfl rfl rfl) ?_ | refine wpL_loadH 0 hG rfl rfl (by decide) rfl rfl rfl rfl ?_ | refine wpL_loadH 1 hG rfl rfl (by decide) rfl rfl rfl rfl ?_ | (refine wpL_sliceH hG rfl rfl (by decide) rfl rfl rfl rfl rfl rfl rfl rfl ?_; intro id G hG) | refine wpL_gt rfl rfl rfl rfl rfl (by decide) (by first | rfl | exact decide_eq_true (by omega) | exact decide_eq_false (by omega) | exact ndec_t (by omega) | exact ndec_f (by omega)) ?_)
  rename_i _ bx G0 hG0
  have hG : Has G [(id, ⟨row0P e, 43, true⟩), (bx, ⟨encEdit e, 32, true⟩)] := hG
  have hr1 : (row0P e).length = 1 * 6 := rfl
  have hlen : (row0P e ++ e.rows.flatMap encRow).length = (1 + e.rows.length) * 6 := by rw [List.length_append, flat_length encRow_len, hr1]; omega
  refine wpL_appendH 0 hG rfl rfl (by decide) rfl rfl rfl rfl rfl rfl hr1 rfl rfl (rows_one _) (by omega) (by omega) ?_
  intro rid G hG
  repeat (first | refine wpL_v rfl rfl (by decide) (OpV_build rfl rfl rfl rfl) ?_ | (refine wpL_sliceH hG rfl rfl (by decide) rfl rfl rfl rfl rfl rfl rfl rfl ?_; intro id G hG) | refine wpL_gt rfl rfl rfl rfl rfl (by decide) (by first | rfl | exact decide_eq_true (by omega) | exact decide_eq_false (by omega) | exact ndec_t (by omega) | exact ndec_f (by omega)) ?_)
  have hG : Has G [(id, ⟨[I 7, I 0, I 0, S ⟨#[]⟩, nilS, I 0, I 0, nilS, nilS, nilS, .sl rid 0 (1 + e.rows.length) 6], 45, true⟩), (rid, ⟨row0P e ++ e.rows.flatMap encRow, 43, true⟩), (bx, ⟨encEdit e, 32, true⟩)] := hG
  have cv : ConvL G [I 7, I 0, I 0, S ⟨#[]⟩, nilS, I 0, I 0, nilS, nilS, nilS, .sl rid 0 (1 + e.rows.length) 6] [I 7, I 0, I 0, S ⟨#[]⟩, nilS, I 0, I 0, nilS, nilS, nilS, .tr (row0P e ++ e.rows.flatMap encRow) (1 + e.rows.length) 6] :=
    .cons (.refl _) (.cons (.refl _) (.cons (.refl _) (.cons (.refl _) (.cons (.refl _) (.cons (.refl _) (.cons (.refl _) (.cons (.refl _) (.cons (.refl _) (.cons (.refl _) (.cons (Conv.own hG (k := 1) rfl hlen) .nil))))))))))
  have cv1 : Conv G (.sl id 0 1 11) (tabP e) := Conv.sl (hG.get 0 _ _ rfl) rfl cv.all.1 cv.all.2
  refine wpL_isv rfl rfl rfl rfl rfl rfl (by decide) (smallTab_iso e) (.cons cv1 .nil) (TreeL.cons (tree_tab e) TreeL.nil) (fun p hp => by obtain ⟨b, rfl, _⟩ := hp; exact ⟨_, rfl⟩) ?_
  rintro _ ⟨b, rfl, htb⟩
  cases b with
  | false =>
    repeat (first | refine wpL_end ?_ | refine wpL_v rfl rfl (by decide) (OpV_move rfl rfl) ?_ | refine wpL_v rfl rfl (by decide) (OpV_assign rfl rfl) ?_ | refine wpL_v rfl rfl (by decide) (OpV_pick_t rfl rfl (by first | rfl | exact decide_eq_true (by omega)) rfl) ?_ | refine wpL_v rfl rfl (by decide) (OpV_pick_f rfl rfl (by first | rfl | exact decide_eq_false (by omega)) rfl) ?_ | refine wpL_gf rfl rfl rfl rfl rfl (by decide) (by first | rfl | exact decide_eq_true (by omega) | exact decide_eq_false (by omega) | exact ndec_t (by omega) | exact ndec_f (by omega)) ?_ | refine wpA_ret ?_)
    exact postI_1 rfl rfl (.refl _) (.v _) ⟨false, rfl, fun h => by cases h⟩
  | true =>
    repeat (first | refine wpL_end ?_ | refine wpL_nil ?_ | refine wpA_seq ?_ | refine wpA_region ?_ | refine wpA_block ?_ | (refine wpL_is rfl rfl rfl rfl rfl rfl (by decide) (smallSets_iso e.sets) (TreeL.cons (Tree.agg (trees_sets _)) TreeL.nil) ?_; rintro _ ⟨b, rfl, hst⟩) | refine wpL_v rfl rfl (by decide) (OpV_cmp rfl rfl rfl (congrArg some (decide_eq_true (by omega)))) ?_ | refine wpL_v rfl rfl (by decide) (OpV_cmp rfl rfl rfl (congrArg some (decide_eq_false (by omega)))) ?_ | refine wpL_v rfl rfl (by decide) (OpV_cmp rfl rfl rfl (congrArg some (ndec_t (by omega)))) ?_ | refine wpL_v rfl rfl (by decide) (OpV_cmp rfl rfl rfl (congrArg some (ndec_f (by omega)))) ?_ | refine wpL_v rfl rfl (by decide) (OpV_move rfl rfl) ?_ | refine wpL_v rfl rfl (by decide) (OpV_assign rfl rfl) ?_ | refine wpL_v rfl rfl (by decide) (OpV_cmp rfl rfl rfl rfl) ?_ | refine wpL_v rfl rfl (by decide) (OpV_len rfl rfl rfl) ?_ | refine wpL_v rfl rfl (by decide) (OpV_fieldAddr rfl rfl rfl rfl) ?_ | refine wpL_v rfl rfl (by decide) (OpV_load rfl rfl rfl) ?_ | refine wpL_v rfl rfl (by decide) (OpV_pick_t rfl rfl (by first | rfl | exact decide_eq_true (by omega)) rfl) ?_ | refine wpL_v rfl rfl (by decide) (OpV_pick_f rfl rfl (by first | rfl | exact decide_eq_false (by omega)) rfl) ?_ | refine wpL_v rfl rfl (by decide) (OpV_build rfl rfl rfl rfl) ?_ | refine wpL_loadH 0 hG rfl rfl (by decide) rfl rfl rfl rfl ?_ | refine wpL_loadH 1 hG rfl rfl (by decide) rfl rfl rfl rfl ?_ | refine wpL_loadH 2 hG rfl rfl (by decide) rfl rfl rfl rfl ?_ | refine wpL_loadH 3 hG rfl rfl (by decide) rfl rfl rfl rfl ?_ | refine wpL_loadH 4 hG rfl rfl (by decide) rfl rfl rfl rfl ?_ | refine wpL_loadH 5 hG rfl rfl (by decide) rfl rfl rfl rfl ?_ | (refine wpL_boxH hG rfl rfl (by decide) rfl rfl rfl ?_; intro id G hG) | (refine wpL_sliceH hG rfl rfl (by decide) rfl rfl rfl rfl rfl rfl rfl rfl ?_; intro id G hG) | refine wpL_gt rfl rfl rfl rfl rfl (by decide) (by first | rfl | exact decide_eq_true (by omega) | exact decide_eq_false (by omega) | exact ndec_t (by omega) | exact ndec_f (by omega)) ?_ | refine wpL_gf rfl rfl rfl rfl rfl (by decide) (by first | rfl | exact decide_eq_true (by omega) | exact decide_eq_false (by omega) | exact ndec_t (by omega) | exact ndec_f (by omega)) ?_ | refine wpA_ct rfl (by first | rfl | exact decide_eq_true (by omega) | exact ndec_t (by omega)) ?_ | refine wpA_cf rfl (by first | rfl | exact decide_eq_false (by omega) | exact ndec_f (by omega)) ?_ | refine wpA_skip ?_ | refine wpA_exit ?_ | refine wpA_ret ?_ | refine x_then_exit ?_ | refine x_then_ret ?_ | refine x_then_normal ?_ | refine x_block_ret ?_ | refine x_block_normal ?_ | refine x_block_exit ?_ | refine x_block_other rfl ?_ | refine wpL_v rfl rfl (by decide) (OpV_pick_t rfl rfl (ndec_t (by omega)) rfl) ?_ | refine wpL_v rfl rfl (by decide) (OpV_pick_f rfl rfl (ndec_f (by omega)) rfl) ?_)
    exact postI_1 rfl rfl (.refl _) (.v _) ⟨b, rfl, fun h => ⟨by omega, by omega, hit rfl, htb rfl, hst h⟩⟩

set_option maxHeartbeats 16000000 in
theorem rowsOf_iso (e : Edit) (hr : e.rows.length ≤ 20) : Iso Tryz.prog 8 [.agg (encEdit e)] (fun p => p = tabP e) := by
  have hG := has_nil
  refine Iso_enter Tryz.func8 rfl rfl rfl ?_
  repeat (first | refine wpL_end ?_ | refine wpA_seq ?_ | refine wpA_region ?_ | refine wpL_v rfl rfl (by decide) (OpV_assign rfl rfl) ?_ | refine wpL_v rfl rfl (by decide) (OpV_fieldAddr rfl rfl rfl rfl) ?_ | refine wpL_v rfl rfl (by decide) (OpV_build rfl rfl rfl rfl) ?_ | refine wpL_loadH 0 hG rfl rfl (by decide) rfl rfl rfl rfl ?_ | refine wpL_loadH 1 hG rfl rfl (by decide) rfl rfl rfl rfl ?_ | (refine wpL_boxH hG rfl rfl (by decide) rfl rfl rfl ?_; intro id G hG) | (refine wpL_sliceH hG rfl rfl (by decide) rfl rfl rfl rfl rfl rfl rfl rfl ?_; intro id G hG))
  rename_i _ bx G0 hG0
  have hG : Has G [(id, ⟨row0P e, 43, true⟩), (bx, ⟨encEdit e, 32, true⟩)] := hG
  have hr1 : (row0P e).length = 1 * 6 := rfl
  have hlen : (row0P e ++ e.rows.flatMap encRow).length = (1 + e.rows.length) * 6 := by rw [List.length_append, flat_length encRow_len, hr1]; omega
  refine wpL_appendH 0 hG rfl rfl (by decide) rfl rfl rfl rfl rfl rfl hr1 rfl rfl (rows_one _) (by omega) (by omega) ?_
  intro rid G hG
  repeat (first | refine wpL_end ?_ | refine wpL_v rfl rfl (by decide) (OpV_assign rfl rfl) ?_ | refine wpL_v rfl rfl (by decide) (OpV_build rfl rfl rfl rfl) ?_ | (refine wpL_sliceH hG rfl rfl (by decide) rfl rfl rfl rfl rfl rfl rfl rfl ?_; intro id G hG) | refine wpA_ret ?_)
  have hG : Has G [(id, ⟨[I 7, I 0, I 0, S ⟨#[]⟩, nilS, I 0, I 0, nilS, nilS, nilS, .sl rid 0 (1 + e.rows.length) 6], 45, true⟩), (rid, ⟨row0P e ++ e.rows.flatMap encRow, 43, true⟩), (bx, ⟨encEdit e, 32, true⟩)] := hG
  have cv : ConvL G [I 7, I 0, I 0, S ⟨#[]⟩, nilS, I 0, I 0, nilS, nilS, nilS, .sl rid 0 (1 + e.rows.length) 6] [I 7, I 0, I 0, S ⟨#[]⟩, nilS, I 0, I 0, nilS, nilS, nilS, .tr (row0P e ++ e.rows.flatMap encRow) (1 + e.rows.length) 6] :=
    .cons (.refl _) (.cons (.refl _) (.cons (.refl _) (.cons (.refl _) (.cons (.refl _) (.cons (.refl _) (.cons (.refl _) (.cons (.refl _) (.cons (.refl _) (.cons (.refl _) (.cons (Conv.own hG (k := 1) rfl hlen) .nil))))))))))
  have cv1 : Conv G (.sl id 0 1 11) (tabP e) := Conv.sl (hG.get 0 _ _ rfl) rfl cv.all.1 cv.all.2
  exact postI_1 rfl rfl cv1 (tree_tab e) rfl
end Go.Proofs.YtpmfnjkcoogicaaGreat
