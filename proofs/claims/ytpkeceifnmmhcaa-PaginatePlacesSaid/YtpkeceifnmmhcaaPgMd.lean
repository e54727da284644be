/- The walk of PaginatePlaces. -/
import Derived.Test.YtpkeceifnmmhcaaPgMc
namespace Go.Proofs.Ytpkeceifnmmhcaa
open Go.RowKit Go.Th
set_option linter.unusedVariables false
set_option maxRecDepth 20000

def pair (a b : Int) : PV := .agg [I a, I b]
theorem tree_pair (a b : Int) : Tree (pair a b) := Tree.agg fun c hc => by
  simp only [List.mem_cons, List.not_mem_nil, or_false] at hc
  rcases hc with rfl | rfl <;> exact tree_I _

/-- The second call of Place: its width is 0. -/
theorem Place_none (l : List Piece) : ∃ f : Int, (f = 32 ∧ 0 < l.length ∨ f = 2 ∧ l.length = 0) ∧ Iso Try.prog 16 [pcs l, I 0, I l.length, I 0, I 1] (fun p => p = .tup [.agg zeroPage, I f]) := by
  by_cases h : l.length = 0
  · exact ⟨2, .inr ⟨rfl, h⟩, Place_err l 0 l.length 0 1 2 (.inl ⟨rfl, by omega⟩)⟩
  · exact ⟨32, .inl ⟨rfl, by omega⟩, Place_err l 0 l.length 0 1 32 (.inr ⟨rfl, by omega, by omega⟩)⟩

set_option maxHeartbeats 16000000 in
theorem places_iso (l : List Piece) (r0 r1 : Int) (height : Int) (hlm : l.length ≤ 9223372036854775807) : Iso Try.prog 4 [pcs l, pair r0 r1, I height] (fun p => p = B true) := by
  have hG := has_nil
  refine Iso_enter Try.func4 rfl rfl rfl ?_
  have hfew := few_iso l hlm
  have hkn := known_iso
  have hl := fewL_ok l
  have hl40 := fewL_len l
  generalize fewL l = fl at hfew hl hl40
  obtain ⟨f, hf, hP2⟩ := Place_none fl
  have hsz := sameZero_iso
  by_cases hbad : r0 < 0 ∨ r1 ≤ r0 ∨ (fl.length : Int) < r1
  · have hP := Place_err fl r0 r1 100 (min height 1099511627776) 2 (.inl ⟨rfl, hbad⟩)
    repeat (first
      | refine wpL_end ?_
      | refine wpL_nil ?_
      | refine wpA_seq ?_
      | refine wpA_region ?_
      | refine wpA_block ?_
      | (refine wpL_is rfl rfl rfl rfl rfl rfl (by decide) hfew (TreeL.cons (tree_pcs l) TreeL.nil) ?_; rintro _ rfl)
      | (refine wpL_is rfl rfl rfl rfl rfl rfl (by decide) hkn TreeL.nil ?_; rintro _ rfl)
      | (refine wpL_is rfl rfl rfl rfl rfl rfl (by decide) hP (TreeL.cons (tree_pcs fl) (TreeL.cons (tree_I _) (TreeL.cons (tree_I _) (TreeL.cons (tree_I _) (TreeL.cons (tree_I _) TreeL.nil))))) ?_; rintro _ rfl)
      | refine wpL_v rfl rfl (by decide) (OpV_indexArr rfl rfl rfl rfl (by decide)) ?_
      | refine wpL_v rfl rfl (by decide) (OpV_move rfl rfl) ?_
      | refine wpL_v rfl rfl (by decide) (OpV_assign rfl rfl) ?_
      | refine wpL_v rfl rfl (by decide) (OpV_cmp rfl rfl rfl rfl) ?_
      | refine wpL_v rfl rfl (by decide) (OpV_add rfl rfl rfl (by omega)) ?_
      | refine wpL_v rfl rfl (by decide) (OpV_sub rfl rfl rfl (by omega)) ?_
      | refine wpL_v rfl rfl (by decide) (OpV_len rfl rfl rfl) ?_
      | refine wpL_v rfl rfl (by decide) (OpV_nilCheck rfl rfl rfl) ?_
      | refine wpL_v rfl rfl (by decide) (OpV_fieldAddr rfl rfl rfl rfl) ?_
      | refine wpL_v rfl rfl (by decide) (OpV_load rfl rfl rfl) ?_
      | refine wpL_v rfl rfl (by decide) (OpV_not rfl rfl) ?_
      | refine wpL_v rfl rfl (by decide) (OpV_extract rfl rfl rfl) ?_
      | refine wpL_v rfl rfl (by decide) (OpV_pick_t rfl rfl (by first | rfl | exact decide_eq_true (by omega)) rfl) ?_
      | refine wpL_v rfl rfl (by decide) (OpV_pick_f rfl rfl (by first | rfl | exact decide_eq_false (by omega)) rfl) ?_
      | refine wpL_v rfl rfl (by decide) (OpV_build rfl rfl rfl rfl) ?_
      | refine wpL_v rfl rfl (by decide) (OpV_max rfl rfl rfl) ?_
      | refine wpL_v rfl rfl (by decide) (OpV_min rfl rfl rfl) ?_
      | refine wpL_v rfl rfl (by decide) (OpV_nilptr rfl rfl rfl) ?_
      | refine wpL_v rfl rfl (by decide) (OpV_beq rfl rfl rfl) ?_
      | refine wpL_v rfl rfl (by decide) (OpV_bne rfl rfl rfl) ?_
      | refine wpL_v rfl rfl (by decide) (OpV_makeFunc rfl rfl) ?_
      | refine wpL_loadH 0 hG rfl rfl (by decide) rfl rfl rfl rfl ?_
      | refine wpL_loadH 1 hG rfl rfl (by decide) rfl rfl rfl rfl ?_
      | refine wpL_loadH 2 hG rfl rfl (by decide) rfl rfl rfl rfl ?_
      | refine wpL_loadH 3 hG rfl rfl (by decide) rfl rfl rfl rfl ?_
      | refine wpL_loadH 4 hG rfl rfl (by decide) rfl rfl rfl rfl ?_
      | refine wpL_loadH 5 hG rfl rfl (by decide) rfl rfl rfl rfl ?_
      | (refine wpL_storeH 0 hG rfl rfl rfl rfl rfl rfl rfl rfl rfl rfl rfl ?_; intro G hG)
      | (refine wpL_storeH 1 hG rfl rfl rfl rfl rfl rfl rfl rfl rfl rfl rfl ?_; intro G hG)
      | (refine wpL_storeH 2 hG rfl rfl rfl rfl rfl rfl rfl rfl rfl rfl rfl ?_; intro G hG)
      | (refine wpL_storeH 3 hG rfl rfl rfl rfl rfl rfl rfl rfl rfl rfl rfl ?_; intro G hG)
      | (refine wpL_storeH 4 hG rfl rfl rfl rfl rfl rfl rfl rfl rfl rfl rfl ?_; intro G hG)
      | (refine wpL_storeH 5 hG rfl rfl rfl rfl rfl rfl rfl rfl rfl rfl rfl ?_; intro G hG)
      | (refine wpL_allocH hG rfl rfl (by decide) rfl rfl ?_; intro id G hG)
      | (refine wpL_boxH hG rfl rfl (by decide) rfl rfl rfl ?_; intro id G hG)
      | (refine wpL_sliceH hG rfl rfl (by decide) rfl rfl rfl rfl rfl rfl rfl rfl ?_; intro id G hG)
      | refine wpL_gt rfl rfl rfl rfl rfl (by decide) (by first | rfl | exact decide_eq_true (by omega) | exact decide_eq_false (by omega) | exact ndec_t (by omega) | exact ndec_f (by omega)) ?_
      | refine wpL_gf rfl rfl rfl rfl rfl (by decide) (by first | rfl | exact decide_eq_true (by omega) | exact decide_eq_false (by omega) | exact ndec_t (by omega) | exact ndec_f (by omega)) ?_
      | refine wpA_ct rfl (by first | rfl | exact decide_eq_true (by omega) | exact ndec_t (by omega)) ?_
      | refine wpA_cf rfl (by first | rfl | exact decide_eq_false (by omega) | exact ndec_f (by omega)) ?_
      | refine wpA_skip ?_
      | refine wpA_exit ?_
      | refine wpA_ret ?_
      | refine x_then_exit ?_
      | refine x_then_ret ?_
      | refine x_then_normal ?_
      | refine x_block_ret ?_
      | refine x_block_normal ?_
      | refine x_block_exit ?_
      | refine x_block_other rfl ?_
      | refine wpL_v rfl rfl (by decide) (OpV_pick_t rfl rfl (ndec_t (by omega)) rfl) ?_
      | refine wpL_v rfl rfl (by decide) (OpV_pick_f rfl rfl (ndec_f (by omega)) rfl) ?_)
    refine wpL_is rfl rfl rfl rfl rfl rfl (by decide) hP2 (TreeL.cons (tree_pcs fl) (TreeL.cons (tree_I _) (TreeL.cons (tree_I _) (TreeL.cons (tree_I _) (TreeL.cons (tree_I _) TreeL.nil))))) ?_
    rintro _ rfl
    repeat (first
      | refine wpL_v rfl rfl (by decide) (OpV_move rfl rfl) ?_
      | refine wpL_v rfl rfl (by decide) (OpV_assign rfl rfl) ?_
      | refine wpL_v rfl rfl (by decide) (OpV_cmp rfl rfl rfl rfl) ?_
      | refine wpL_v rfl rfl (by decide) (OpV_add rfl rfl rfl (by omega)) ?_
      | refine wpL_v rfl rfl (by decide) (OpV_sub rfl rfl rfl (by omega)) ?_
      | refine wpL_v rfl rfl (by decide) (OpV_len rfl rfl rfl) ?_
      | refine wpL_v rfl rfl (by decide) (OpV_nilCheck rfl rfl rfl) ?_
      | refine wpL_v rfl rfl (by decide) (OpV_fieldAddr rfl rfl rfl rfl) ?_
      | refine wpL_v rfl rfl (by decide) (OpV_load rfl rfl rfl) ?_
      | refine wpL_v rfl rfl (by decide) (OpV_not rfl rfl) ?_
      | refine wpL_v rfl rfl (by decide) (OpV_extract rfl rfl rfl) ?_
      | refine wpL_v rfl rfl (by decide) (OpV_pick_t rfl rfl (by first | rfl | exact decide_eq_true (by omega)) rfl) ?_
      | refine wpL_v rfl rfl (by decide) (OpV_pick_f rfl rfl (by first | rfl | exact decide_eq_false (by omega)) rfl) ?_
      | refine wpL_v rfl rfl (by decide) (OpV_build rfl rfl rfl rfl) ?_
      | refine wpL_v rfl rfl (by decide) (OpV_max rfl rfl rfl) ?_
      | refine wpL_v rfl rfl (by decide) (OpV_min rfl rfl rfl) ?_
      | refine wpL_v rfl rfl (by decide) (OpV_nilptr rfl rfl rfl) ?_
      | refine wpL_v rfl rfl (by decide) (OpV_beq rfl rfl rfl) ?_
      | refine wpL_v rfl rfl (by decide) (OpV_bne rfl rfl rfl) ?_
      | refine wpL_v rfl rfl (by decide) (OpV_makeFunc rfl rfl) ?_
      | refine wpL_loadH 0 hG rfl rfl (by decide) rfl rfl rfl rfl ?_
      | refine wpL_loadH 1 hG rfl rfl (by decide) rfl rfl rfl rfl ?_
      | refine wpL_loadH 2 hG rfl rfl (by decide) rfl rfl rfl rfl ?_
      | refine wpL_loadH 3 hG rfl rfl (by decide) rfl rfl rfl rfl ?_
      | refine wpL_loadH 4 hG rfl rfl (by decide) rfl rfl rfl rfl ?_
      | refine wpL_loadH 5 hG rfl rfl (by decide) rfl rfl rfl rfl ?_
      | (refine wpL_storeH 0 hG rfl rfl rfl rfl rfl rfl rfl rfl rfl rfl rfl ?_; intro G hG)
      | (refine wpL_storeH 1 hG rfl rfl rfl rfl rfl rfl rfl rfl rfl rfl rfl ?_; intro G hG)
      | (refine wpL_storeH 2 hG rfl rfl rfl rfl rfl rfl rfl rfl rfl rfl rfl ?_; intro G hG)
      | (refine wpL_storeH 3 hG rfl rfl rfl rfl rfl rfl rfl rfl rfl rfl rfl ?_; intro G hG)
      | (refine wpL_storeH 4 hG rfl rfl rfl rfl rfl rfl rfl rfl rfl rfl rfl ?_; intro G hG)
      | (refine wpL_storeH 5 hG rfl rfl rfl rfl rfl rfl rfl rfl rfl rfl rfl ?_; intro G hG)
      | (refine wpL_allocH hG rfl rfl (by decide) rfl rfl ?_; intro id G hG)
      | (refine wpL_boxH hG rfl rfl (by decide) rfl rfl rfl ?_; intro id G hG)
      | (refine wpL_sliceH hG rfl rfl (by decide) rfl rfl rfl rfl rfl rfl rfl rfl ?_; intro id G hG)
      | refine wpL_gt rfl rfl rfl rfl rfl (by decide) (by first | rfl | exact decide_eq_true (by omega) | exact decide_eq_false (by omega) | exact ndec_t (by omega) | exact ndec_f (by omega)) ?_
      | refine wpL_gf rfl rfl rfl rfl rfl (by decide) (by first | rfl | exact decide_eq_true (by omega) | exact decide_eq_false (by omega) | exact ndec_t (by omega) | exact ndec_f (by omega)) ?_)
    refine wpL_end ?_
    refine wpA_seq ?_
    refine wpA_cut2 (S := Nat × Nat) (fun x => [(0, pcs fl), (2, I (min height 1099511627776)), (4, .ptr x.1 0), (7, .ptr x.2 0), (8, I 2), (50, B false)]) (fun x G => Has G [(x.1, ⟨[I r0, I r1], 35, true⟩), (x.2, ⟨zeroPage, 31, true⟩)]) ?_ ?_
    · clear hfew hkn hP hP2
      rcases hf with ⟨rfl, hf⟩ | ⟨rfl, hf⟩
      · repeat (first
          | refine wpL_end ?_
          | refine wpL_nil ?_
          | refine wpA_seq ?_
          | refine wpA_region ?_
          | refine wpA_block ?_
          | refine wpL_v rfl rfl (by decide) (OpV_cmp rfl rfl rfl (congrArg some (decide_eq_true (by omega)))) ?_
          | refine wpL_v rfl rfl (by decide) (OpV_cmp rfl rfl rfl (congrArg some (decide_eq_false (by omega)))) ?_
          | refine wpL_v rfl rfl (by decide) (OpV_cmp rfl rfl rfl (congrArg some (ndec_t (by omega)))) ?_
          | refine wpL_v rfl rfl (by decide) (OpV_cmp rfl rfl rfl (congrArg some (ndec_f (by omega)))) ?_
          | refine wpL_v rfl rfl (by decide) (OpV_move rfl rfl) ?_
          | refine wpL_v rfl rfl (by decide) (OpV_assign rfl rfl) ?_
          | refine wpL_v rfl rfl (by decide) (OpV_cmp rfl rfl rfl rfl) ?_
          | refine wpL_v rfl rfl (by decide) (OpV_add rfl rfl rfl (by omega)) ?_
          | refine wpL_v rfl rfl (by decide) (OpV_sub rfl rfl rfl (by omega)) ?_
          | refine wpL_v rfl rfl (by decide) (OpV_len rfl rfl rfl) ?_
          | refine wpL_v rfl rfl (by decide) (OpV_nilCheck rfl rfl rfl) ?_
          | refine wpL_v rfl rfl (by decide) (OpV_fieldAddr rfl rfl rfl rfl) ?_
          | refine wpL_v rfl rfl (by decide) (OpV_load rfl rfl rfl) ?_
          | refine wpL_v rfl rfl (by decide) (OpV_not rfl rfl) ?_
          | refine wpL_v rfl rfl (by decide) (OpV_extract rfl rfl rfl) ?_
          | refine wpL_v rfl rfl (by decide) (OpV_pick_t rfl rfl (by first | rfl | exact decide_eq_true (by omega)) rfl) ?_
          | refine wpL_v rfl rfl (by decide) (OpV_pick_f rfl rfl (by first | rfl | exact decide_eq_false (by omega)) rfl) ?_
          | refine wpL_v rfl rfl (by decide) (OpV_build rfl rfl rfl rfl) ?_
          | refine wpL_v rfl rfl (by decide) (OpV_max rfl rfl rfl) ?_
          | refine wpL_v rfl rfl (by decide) (OpV_min rfl rfl rfl) ?_
          | refine wpL_v rfl rfl (by decide) (OpV_nilptr rfl rfl rfl) ?_
          | refine wpL_v rfl rfl (by decide) (OpV_beq rfl rfl rfl) ?_
          | refine wpL_v rfl rfl (by decide) (OpV_bne rfl rfl rfl) ?_
          | refine wpL_v rfl rfl (by decide) (OpV_makeFunc rfl rfl) ?_
          | refine wpL_loadH 0 hG rfl rfl (by decide) rfl rfl rfl rfl ?_
          | refine wpL_loadH 1 hG rfl rfl (by decide) rfl rfl rfl rfl ?_
          | refine wpL_loadH 2 hG rfl rfl (by decide) rfl rfl rfl rfl ?_
          | refine wpL_loadH 3 hG rfl rfl (by decide) rfl rfl rfl rfl ?_
          | refine wpL_loadH 4 hG rfl rfl (by decide) rfl rfl rfl rfl ?_
          | refine wpL_loadH 5 hG rfl rfl (by decide) rfl rfl rfl rfl ?_
          | (refine wpL_storeH 0 hG rfl rfl rfl rfl rfl rfl rfl rfl rfl rfl rfl ?_; intro G hG)
          | (refine wpL_storeH 1 hG rfl rfl rfl rfl rfl rfl rfl rfl rfl rfl rfl ?_; intro G hG)
          | (refine wpL_storeH 2 hG rfl rfl rfl rfl rfl rfl rfl rfl rfl rfl rfl ?_; intro G hG)
          | (refine wpL_storeH 3 hG rfl rfl rfl rfl rfl rfl rfl rfl rfl rfl rfl ?_; intro G hG)
          | (refine wpL_storeH 4 hG rfl rfl rfl rfl rfl rfl rfl rfl rfl rfl rfl ?_; intro G hG)
          | (refine wpL_storeH 5 hG rfl rfl rfl rfl rfl rfl rfl rfl rfl rfl rfl ?_; intro G hG)
          | (refine wpL_allocH hG rfl rfl (by decide) rfl rfl ?_; intro id G hG)
          | (refine wpL_boxH hG rfl rfl (by decide) rfl rfl rfl ?_; intro id G hG)
          | (refine wpL_sliceH hG rfl rfl (by decide) rfl rfl rfl rfl rfl rfl rfl rfl ?_; intro id G hG)
          | refine wpL_gt rfl rfl rfl rfl rfl (by decide) (by first | rfl | exact decide_eq_true (by omega) | exact decide_eq_false (by omega) | exact ndec_t (by omega) | exact ndec_f (by omega)) ?_
          | refine wpL_gf rfl rfl rfl rfl rfl (by decide) (by first | rfl | exact decide_eq_true (by omega) | exact decide_eq_false (by omega) | exact ndec_t (by omega) | exact ndec_f (by omega)) ?_
          | refine wpA_ct rfl (by first | rfl | exact decide_eq_true (by omega) | exact ndec_t (by omega)) ?_
          | refine wpA_cf rfl (by first | rfl | exact decide_eq_false (by omega) | exact ndec_f (by omega)) ?_
          | refine wpA_skip ?_
          | refine wpA_exit ?_
          | refine wpA_ret ?_
          | refine x_then_exit ?_
          | refine x_then_ret ?_
          | refine x_then_normal ?_
          | refine x_block_ret ?_
          | refine x_block_normal ?_
          | refine x_block_exit ?_
          | refine x_block_other rfl ?_
          | refine wpL_v rfl rfl (by decide) (OpV_pick_t rfl rfl (ndec_t (by omega)) rfl) ?_
          | refine wpL_v rfl rfl (by decide) (OpV_pick_f rfl rfl (ndec_f (by omega)) rfl) ?_)
        exact ⟨(_, _), .cons rfl (.cons rfl (.cons rfl (.cons rfl (.cons rfl (.cons rfl (.nil _)))))), hG.pick [2, 1] (by decide) rfl⟩
      · repeat (first
          | refine wpL_end ?_
          | refine wpL_nil ?_
          | refine wpA_seq ?_
          | refine wpA_region ?_
          | refine wpA_block ?_
          | refine wpL_v rfl rfl (by decide) (OpV_cmp rfl rfl rfl (congrArg some (decide_eq_true (by omega)))) ?_
          | refine wpL_v rfl rfl (by decide) (OpV_cmp rfl rfl rfl (congrArg some (decide_eq_false (by omega)))) ?_
          | refine wpL_v rfl rfl (by decide) (OpV_cmp rfl rfl rfl (congrArg some (ndec_t (by omega)))) ?_
          | refine wpL_v rfl rfl (by decide) (OpV_cmp rfl rfl rfl (congrArg some (ndec_f (by omega)))) ?_
          | refine wpL_v rfl rfl (by decide) (OpV_move rfl rfl) ?_
          | refine wpL_v rfl rfl (by decide) (OpV_assign rfl rfl) ?_
          | refine wpL_v rfl rfl (by decide) (OpV_cmp rfl rfl rfl rfl) ?_
          | refine wpL_v rfl rfl (by decide) (OpV_add rfl rfl rfl (by omega)) ?_
          | refine wpL_v rfl rfl (by decide) (OpV_sub rfl rfl rfl (by omega)) ?_
          | refine wpL_v rfl rfl (by decide) (OpV_len rfl rfl rfl) ?_
          | refine wpL_v rfl rfl (by decide) (OpV_nilCheck rfl rfl rfl) ?_
          | refine wpL_v rfl rfl (by decide) (OpV_fieldAddr rfl rfl rfl rfl) ?_
          | refine wpL_v rfl rfl (by decide) (OpV_load rfl rfl rfl) ?_
          | refine wpL_v rfl rfl (by decide) (OpV_not rfl rfl) ?_
          | refine wpL_v rfl rfl (by decide) (OpV_extract rfl rfl rfl) ?_
          | refine wpL_v rfl rfl (by decide) (OpV_pick_t rfl rfl (by first | rfl | exact decide_eq_true (by omega)) rfl) ?_
          | refine wpL_v rfl rfl (by decide) (OpV_pick_f rfl rfl (by first | rfl | exact decide_eq_false (by omega)) rfl) ?_
          | refine wpL_v rfl rfl (by decide) (OpV_build rfl rfl rfl rfl) ?_
          | refine wpL_v rfl rfl (by decide) (OpV_max rfl rfl rfl) ?_
          | refine wpL_v rfl rfl (by decide) (OpV_min rfl rfl rfl) ?_
          | refine wpL_v rfl rfl (by decide) (OpV_nilptr rfl rfl rfl) ?_
          | refine wpL_v rfl rfl (by decide) (OpV_beq rfl rfl rfl) ?_
          | refine wpL_v rfl rfl (by decide) (OpV_bne rfl rfl rfl) ?_
          | refine wpL_v rfl rfl (by decide) (OpV_makeFunc rfl rfl) ?_
          | refine wpL_loadH 0 hG rfl rfl (by decide) rfl rfl rfl rfl ?_
          | refine wpL_loadH 1 hG rfl rfl (by decide) rfl rfl rfl rfl ?_
          | refine wpL_loadH 2 hG rfl rfl (by decide) rfl rfl rfl rfl ?_
          | refine wpL_loadH 3 hG rfl rfl (by decide) rfl rfl rfl rfl ?_
          | refine wpL_loadH 4 hG rfl rfl (by decide) rfl rfl rfl rfl ?_
          | refine wpL_loadH 5 hG rfl rfl (by decide) rfl rfl rfl rfl ?_
          | (refine wpL_storeH 0 hG rfl rfl rfl rfl rfl rfl rfl rfl rfl rfl rfl ?_; intro G hG)
          | (refine wpL_storeH 1 hG rfl rfl rfl rfl rfl rfl rfl rfl rfl rfl rfl ?_; intro G hG)
          | (refine wpL_storeH 2 hG rfl rfl rfl rfl rfl rfl rfl rfl rfl rfl rfl ?_; intro G hG)
          | (refine wpL_storeH 3 hG rfl rfl rfl rfl rfl rfl rfl rfl rfl rfl rfl ?_; intro G hG)
          | (refine wpL_storeH 4 hG rfl rfl rfl rfl rfl rfl rfl rfl rfl rfl rfl ?_; intro G hG)
          | (refine wpL_storeH 5 hG rfl rfl rfl rfl rfl rfl rfl rfl rfl rfl rfl ?_; intro G hG)
          | (refine wpL_allocH hG rfl rfl (by decide) rfl rfl ?_; intro id G hG)
          | (refine wpL_boxH hG rfl rfl (by decide) rfl rfl rfl ?_; intro id G hG)
          | (refine wpL_sliceH hG rfl rfl (by decide) rfl rfl rfl rfl rfl rfl rfl rfl ?_; intro id G hG)
          | refine wpL_gt rfl rfl rfl rfl rfl (by decide) (by first | rfl | exact decide_eq_true (by omega) | exact decide_eq_false (by omega) | exact ndec_t (by omega) | exact ndec_f (by omega)) ?_
          | refine wpL_gf rfl rfl rfl rfl rfl (by decide) (by first | rfl | exact decide_eq_true (by omega) | exact decide_eq_false (by omega) | exact ndec_t (by omega) | exact ndec_f (by omega)) ?_
          | refine wpA_ct rfl (by first | rfl | exact decide_eq_true (by omega) | exact ndec_t (by omega)) ?_
          | refine wpA_cf rfl (by first | rfl | exact decide_eq_false (by omega) | exact ndec_f (by omega)) ?_
          | refine wpA_skip ?_
          | refine wpA_exit ?_
          | refine wpA_ret ?_
          | refine x_then_exit ?_
          | refine x_then_ret ?_
          | refine x_then_normal ?_
          | refine x_block_ret ?_
          | refine x_block_normal ?_
          | refine x_block_exit ?_
          | refine x_block_other rfl ?_
          | refine wpL_v rfl rfl (by decide) (OpV_pick_t rfl rfl (ndec_t (by omega)) rfl) ?_
          | refine wpL_v rfl rfl (by decide) (OpV_pick_f rfl rfl (ndec_f (by omega)) rfl) ?_)
        exact ⟨(_, _), .cons rfl (.cons rfl (.cons rfl (.cons rfl (.cons rfl (.cons rfl (.nil _)))))), hG.pick [2, 1] (by decide) rfl⟩
    rintro ⟨ar, pa⟩ G hG
    dsimp only at hG ⊢
    clear hfew hkn hP hP2 hf
    by_cases b1 : r0 < 0
    · skip
      repeat (first
        | refine wpL_end ?_
        | refine wpL_nil ?_
        | refine wpA_seq ?_
        | refine wpA_region ?_
        | refine wpA_block ?_
        | refine wpL_v rfl rfl (by decide) (OpV_indexArr rfl rfl rfl rfl (by decide)) ?_
        | (refine wpL_is rfl rfl rfl rfl rfl rfl (by decide) hsz (TreeL.cons (Tree.agg tree_zeroPage) (TreeL.cons (Tree.agg tree_zeroPage) TreeL.nil)) ?_; rintro _ rfl)
        | refine wpL_v rfl rfl (by decide) (OpV_cmp rfl rfl rfl (congrArg some (decide_eq_true (by omega)))) ?_
        | refine wpL_v rfl rfl (by decide) (OpV_cmp rfl rfl rfl (congrArg some (decide_eq_false (by omega)))) ?_
        | refine wpL_v rfl rfl (by decide) (OpV_cmp rfl rfl rfl (congrArg some (ndec_t (by omega)))) ?_
        | refine wpL_v rfl rfl (by decide) (OpV_cmp rfl rfl rfl (congrArg some (ndec_f (by omega)))) ?_
        | refine wpL_v rfl rfl (by decide) (OpV_move rfl rfl) ?_
        | refine wpL_v rfl rfl (by decide) (OpV_assign rfl rfl) ?_
        | refine wpL_v rfl rfl (by decide) (OpV_cmp rfl rfl rfl rfl) ?_
        | refine wpL_v rfl rfl (by decide) (OpV_add rfl rfl rfl (by omega)) ?_
        | refine wpL_v rfl rfl (by decide) (OpV_sub rfl rfl rfl (by omega)) ?_
        | refine wpL_v rfl rfl (by decide) (OpV_len rfl rfl rfl) ?_
        | refine wpL_v rfl rfl (by decide) (OpV_nilCheck rfl rfl rfl) ?_
        | refine wpL_v rfl rfl (by decide) (OpV_fieldAddr rfl rfl rfl rfl) ?_
        | refine wpL_v rfl rfl (by decide) (OpV_load rfl rfl rfl) ?_
        | refine wpL_v rfl rfl (by decide) (OpV_not rfl rfl) ?_
        | refine wpL_v rfl rfl (by decide) (OpV_extract rfl rfl rfl) ?_
        | refine wpL_v rfl rfl (by decide) (OpV_pick_t rfl rfl (by first | rfl | exact decide_eq_true (by omega)) rfl) ?_
        | refine wpL_v rfl rfl (by decide) (OpV_pick_f rfl rfl (by first | rfl | exact decide_eq_false (by omega)) rfl) ?_
        | refine wpL_v rfl rfl (by decide) (OpV_build rfl rfl rfl rfl) ?_
        | refine wpL_v rfl rfl (by decide) (OpV_max rfl rfl rfl) ?_
        | refine wpL_v rfl rfl (by decide) (OpV_min rfl rfl rfl) ?_
        | refine wpL_v rfl rfl (by decide) (OpV_nilptr rfl rfl rfl) ?_
        | refine wpL_v rfl rfl (by decide) (OpV_beq rfl rfl rfl) ?_
        | refine wpL_v rfl rfl (by decide) (OpV_bne rfl rfl rfl) ?_
        | refine wpL_v rfl rfl (by decide) (OpV_makeFunc rfl rfl) ?_
        | refine wpL_loadH 0 hG rfl rfl (by decide) rfl rfl rfl rfl ?_
        | refine wpL_loadH 1 hG rfl rfl (by decide) rfl rfl rfl rfl ?_
        | refine wpL_loadH 2 hG rfl rfl (by decide) rfl rfl rfl rfl ?_
        | refine wpL_loadH 3 hG rfl rfl (by decide) rfl rfl rfl rfl ?_
        | refine wpL_loadH 4 hG rfl rfl (by decide) rfl rfl rfl rfl ?_
        | refine wpL_loadH 5 hG rfl rfl (by decide) rfl rfl rfl rfl ?_
        | (refine wpL_storeH 0 hG rfl rfl rfl rfl rfl rfl rfl rfl rfl rfl rfl ?_; intro G hG)
        | (refine wpL_storeH 1 hG rfl rfl rfl rfl rfl rfl rfl rfl rfl rfl rfl ?_; intro G hG)
        | (refine wpL_storeH 2 hG rfl rfl rfl rfl rfl rfl rfl rfl rfl rfl rfl ?_; intro G hG)
        | (refine wpL_storeH 3 hG rfl rfl rfl rfl rfl rfl rfl rfl rfl rfl rfl ?_; intro G hG)
        | (refine wpL_storeH 4 hG rfl rfl rfl rfl rfl rfl rfl rfl rfl rfl rfl ?_; intro G hG)
        | (refine wpL_storeH 5 hG rfl rfl rfl rfl rfl rfl rfl rfl rfl rfl rfl ?_; intro G hG)
        | (refine wpL_allocH hG rfl rfl (by decide) rfl rfl ?_; intro id G hG)
        | (refine wpL_boxH hG rfl rfl (by decide) rfl rfl rfl ?_; intro id G hG)
        | (refine wpL_sliceH hG rfl rfl (by decide) rfl rfl rfl rfl rfl rfl rfl rfl ?_; intro id G hG)
        | refine wpL_gt rfl rfl rfl rfl rfl (by decide) (by first | rfl | exact decide_eq_true (by omega) | exact decide_eq_false (by omega) | exact ndec_t (by omega) | exact ndec_f (by omega)) ?_
        | refine wpL_gf rfl rfl rfl rfl rfl (by decide) (by first | rfl | exact decide_eq_true (by omega) | exact decide_eq_false (by omega) | exact ndec_t (by omega) | exact ndec_f (by omega)) ?_
        | refine wpA_ct rfl (by first | rfl | exact decide_eq_true (by omega) | exact ndec_t (by omega)) ?_
        | refine wpA_cf rfl (by first | rfl | exact decide_eq_false (by omega) | exact ndec_f (by omega)) ?_
        | refine wpA_skip ?_
        | refine wpA_exit ?_
        | refine wpA_ret ?_
        | refine x_then_exit ?_
        | refine x_then_ret ?_
        | refine x_then_normal ?_
        | refine x_block_ret ?_
        | refine x_block_normal ?_
        | refine x_block_exit ?_
        | refine x_block_other rfl ?_
        | refine wpL_v rfl rfl (by decide) (OpV_pick_t rfl rfl (ndec_t (by omega)) rfl) ?_
        | refine wpL_v rfl rfl (by decide) (OpV_pick_f rfl rfl (ndec_f (by omega)) rfl) ?_)
      exact postI_1 rfl rfl (.refl _) (.v _) rfl
    by_cases b2 : r1 ≤ r0
    · skip
      repeat (first
        | refine wpL_end ?_
        | refine wpL_nil ?_
        | refine wpA_seq ?_
        | refine wpA_region ?_
        | refine wpA_block ?_
        | refine wpL_v rfl rfl (by decide) (OpV_indexArr rfl rfl rfl rfl (by decide)) ?_
        | (refine wpL_is rfl rfl rfl rfl rfl rfl (by decide) hsz (TreeL.cons (Tree.agg tree_zeroPage) (TreeL.cons (Tree.agg tree_zeroPage) TreeL.nil)) ?_; rintro _ rfl)
        | refine wpL_v rfl rfl (by decide) (OpV_cmp rfl rfl rfl (congrArg some (decide_eq_true (by omega)))) ?_
        | refine wpL_v rfl rfl (by decide) (OpV_cmp rfl rfl rfl (congrArg some (decide_eq_false (by omega)))) ?_
        | refine wpL_v rfl rfl (by decide) (OpV_cmp rfl rfl rfl (congrArg some (ndec_t (by omega)))) ?_
        | refine wpL_v rfl rfl (by decide) (OpV_cmp rfl rfl rfl (congrArg some (ndec_f (by omega)))) ?_
        | refine wpL_v rfl rfl (by decide) (OpV_move rfl rfl) ?_
        | refine wpL_v rfl rfl (by decide) (OpV_assign rfl rfl) ?_
        | refine wpL_v rfl rfl (by decide) (OpV_cmp rfl rfl rfl rfl) ?_
        | refine wpL_v rfl rfl (by decide) (OpV_add rfl rfl rfl (by omega)) ?_
        | refine wpL_v rfl rfl (by decide) (OpV_sub rfl rfl rfl (by omega)) ?_
        | refine wpL_v rfl rfl (by decide) (OpV_len rfl rfl rfl) ?_
        | refine wpL_v rfl rfl (by decide) (OpV_nilCheck rfl rfl rfl) ?_
        | refine wpL_v rfl rfl (by decide) (OpV_fieldAddr rfl rfl rfl rfl) ?_
        | refine wpL_v rfl rfl (by decide) (OpV_load rfl rfl rfl) ?_
        | refine wpL_v rfl rfl (by decide) (OpV_not rfl rfl) ?_
        | refine wpL_v rfl rfl (by decide) (OpV_extract rfl rfl rfl) ?_
        | refine wpL_v rfl rfl (by decide) (OpV_pick_t rfl rfl (by first | rfl | exact decide_eq_true (by omega)) rfl) ?_
        | refine wpL_v rfl rfl (by decide) (OpV_pick_f rfl rfl (by first | rfl | exact decide_eq_false (by omega)) rfl) ?_
        | refine wpL_v rfl rfl (by decide) (OpV_build rfl rfl rfl rfl) ?_
        | refine wpL_v rfl rfl (by decide) (OpV_max rfl rfl rfl) ?_
        | refine wpL_v rfl rfl (by decide) (OpV_min rfl rfl rfl) ?_
        | refine wpL_v rfl rfl (by decide) (OpV_nilptr rfl rfl rfl) ?_
        | refine wpL_v rfl rfl (by decide) (OpV_beq rfl rfl rfl) ?_
        | refine wpL_v rfl rfl (by decide) (OpV_bne rfl rfl rfl) ?_
        | refine wpL_v rfl rfl (by decide) (OpV_makeFunc rfl rfl) ?_
        | refine wpL_loadH 0 hG rfl rfl (by decide) rfl rfl rfl rfl ?_
        | refine wpL_loadH 1 hG rfl rfl (by decide) rfl rfl rfl rfl ?_
        | refine wpL_loadH 2 hG rfl rfl (by decide) rfl rfl rfl rfl ?_
        | refine wpL_loadH 3 hG rfl rfl (by decide) rfl rfl rfl rfl ?_
        | refine wpL_loadH 4 hG rfl rfl (by decide) rfl rfl rfl rfl ?_
        | refine wpL_loadH 5 hG rfl rfl (by decide) rfl rfl rfl rfl ?_
        | (refine wpL_storeH 0 hG rfl rfl rfl rfl rfl rfl rfl rfl rfl rfl rfl ?_; intro G hG)
        | (refine wpL_storeH 1 hG rfl rfl rfl rfl rfl rfl rfl rfl rfl rfl rfl ?_; intro G hG)
        | (refine wpL_storeH 2 hG rfl rfl rfl rfl rfl rfl rfl rfl rfl rfl rfl ?_; intro G hG)
        | (refine wpL_storeH 3 hG rfl rfl rfl rfl rfl rfl rfl rfl rfl rfl rfl ?_; intro G hG)
        | (refine wpL_storeH 4 hG rfl rfl rfl rfl rfl rfl rfl rfl rfl rfl rfl ?_; intro G hG)
        | (refine wpL_storeH 5 hG rfl rfl rfl rfl rfl rfl rfl rfl rfl rfl rfl ?_; intro G hG)
        | (refine wpL_allocH hG rfl rfl (by decide) rfl rfl ?_; intro id G hG)
        | (refine wpL_boxH hG rfl rfl (by decide) rfl rfl rfl ?_; intro id G hG)
        | (refine wpL_sliceH hG rfl rfl (by decide) rfl rfl rfl rfl rfl rfl rfl rfl ?_; intro id G hG)
        | refine wpL_gt rfl rfl rfl rfl rfl (by decide) (by first | rfl | exact decide_eq_true (by omega) | exact decide_eq_false (by omega) | exact ndec_t (by omega) | exact ndec_f (by omega)) ?_
        | refine wpL_gf rfl rfl rfl rfl rfl (by decide) (by first | rfl | exact decide_eq_true (by omega) | exact decide_eq_false (by omega) | exact ndec_t (by omega) | exact ndec_f (by omega)) ?_
        | refine wpA_ct rfl (by first | rfl | exact decide_eq_true (by omega) | exact ndec_t (by omega)) ?_
        | refine wpA_cf rfl (by first | rfl | exact decide_eq_false (by omega) | exact ndec_f (by omega)) ?_
        | refine wpA_skip ?_
        | refine wpA_exit ?_
        | refine wpA_ret ?_
        | refine x_then_exit ?_
        | refine x_then_ret ?_
        | refine x_then_normal ?_
        | refine x_block_ret ?_
        | refine x_block_normal ?_
        | refine x_block_exit ?_
        | refine x_block_other rfl ?_
        | refine wpL_v rfl rfl (by decide) (OpV_pick_t rfl rfl (ndec_t (by omega)) rfl) ?_
        | refine wpL_v rfl rfl (by decide) (OpV_pick_f rfl rfl (ndec_f (by omega)) rfl) ?_)
      exact postI_1 rfl rfl (.refl _) (.v _) rfl
    repeat (first
      | refine wpL_end ?_
      | refine wpL_nil ?_
      | refine wpA_seq ?_
      | refine wpA_region ?_
      | refine wpA_block ?_
      | refine wpL_v rfl rfl (by decide) (OpV_indexArr rfl rfl rfl rfl (by decide)) ?_
      | (refine wpL_is rfl rfl rfl rfl rfl rfl (by decide) hsz (TreeL.cons (Tree.agg tree_zeroPage) (TreeL.cons (Tree.agg tree_zeroPage) TreeL.nil)) ?_; rintro _ rfl)
      | refine wpL_v rfl rfl (by decide) (OpV_cmp rfl rfl rfl (congrArg some (decide_eq_true (by omega)))) ?_
      | refine wpL_v rfl rfl (by decide) (OpV_cmp rfl rfl rfl (congrArg some (decide_eq_false (by omega)))) ?_
      | refine wpL_v rfl rfl (by decide) (OpV_cmp rfl rfl rfl (congrArg some (ndec_t (by omega)))) ?_
      | refine wpL_v rfl rfl (by decide) (OpV_cmp rfl rfl rfl (congrArg some (ndec_f (by omega)))) ?_
      | refine wpL_v rfl rfl (by decide) (OpV_move rfl rfl) ?_
      | refine wpL_v rfl rfl (by decide) (OpV_assign rfl rfl) ?_
      | refine wpL_v rfl rfl (by decide) (OpV_cmp rfl rfl rfl rfl) ?_
      | refine wpL_v rfl rfl (by decide) (OpV_add rfl rfl rfl (by omega)) ?_
      | refine wpL_v rfl rfl (by decide) (OpV_sub rfl rfl rfl (by omega)) ?_
      | refine wpL_v rfl rfl (by decide) (OpV_len rfl rfl rfl) ?_
      | refine wpL_v rfl rfl (by decide) (OpV_nilCheck rfl rfl rfl) ?_
      | refine wpL_v rfl rfl (by decide) (OpV_fieldAddr rfl rfl rfl rfl) ?_
      | refine wpL_v rfl rfl (by decide) (OpV_load rfl rfl rfl) ?_
      | refine wpL_v rfl rfl (by decide) (OpV_not rfl rfl) ?_
      | refine wpL_v rfl rfl (by decide) (OpV_extract rfl rfl rfl) ?_
      | refine wpL_v rfl rfl (by decide) (OpV_pick_t rfl rfl (by first | rfl | exact decide_eq_true (by omega)) rfl) ?_
      | refine wpL_v rfl rfl (by decide) (OpV_pick_f rfl rfl (by first | rfl | exact decide_eq_false (by omega)) rfl) ?_
      | refine wpL_v rfl rfl (by decide) (OpV_build rfl rfl rfl rfl) ?_
      | refine wpL_v rfl rfl (by decide) (OpV_max rfl rfl rfl) ?_
      | refine wpL_v rfl rfl (by decide) (OpV_min rfl rfl rfl) ?_
      | refine wpL_v rfl rfl (by decide) (OpV_nilptr rfl rfl rfl) ?_
      | refine wpL_v rfl rfl (by decide) (OpV_beq rfl rfl rfl) ?_
      | refine wpL_v rfl rfl (by decide) (OpV_bne rfl rfl rfl) ?_
      | refine wpL_v rfl rfl (by decide) (OpV_makeFunc rfl rfl) ?_
      | refine wpL_loadH 0 hG rfl rfl (by decide) rfl rfl rfl rfl ?_
      | refine wpL_loadH 1 hG rfl rfl (by decide) rfl rfl rfl rfl ?_
      | refine wpL_loadH 2 hG rfl rfl (by decide) rfl rfl rfl rfl ?_
      | refine wpL_loadH 3 hG rfl rfl (by decide) rfl rfl rfl rfl ?_
      | refine wpL_loadH 4 hG rfl rfl (by decide) rfl rfl rfl rfl ?_
      | refine wpL_loadH 5 hG rfl rfl (by decide) rfl rfl rfl rfl ?_
      | (refine wpL_storeH 0 hG rfl rfl rfl rfl rfl rfl rfl rfl rfl rfl rfl ?_; intro G hG)
      | (refine wpL_storeH 1 hG rfl rfl rfl rfl rfl rfl rfl rfl rfl rfl rfl ?_; intro G hG)
      | (refine wpL_storeH 2 hG rfl rfl rfl rfl rfl rfl rfl rfl rfl rfl rfl ?_; intro G hG)
      | (refine wpL_storeH 3 hG rfl rfl rfl rfl rfl rfl rfl rfl rfl rfl rfl ?_; intro G hG)
      | (refine wpL_storeH 4 hG rfl rfl rfl rfl rfl rfl rfl rfl rfl rfl rfl ?_; intro G hG)
      | (refine wpL_storeH 5 hG rfl rfl rfl rfl rfl rfl rfl rfl rfl rfl rfl ?_; intro G hG)
      | (refine wpL_allocH hG rfl rfl (by decide) rfl rfl ?_; intro id G hG)
      | (refine wpL_boxH hG rfl rfl (by decide) rfl rfl rfl ?_; intro id G hG)
      | (refine wpL_sliceH hG rfl rfl (by decide) rfl rfl rfl rfl rfl rfl rfl rfl ?_; intro id G hG)
      | refine wpL_gt rfl rfl rfl rfl rfl (by decide) (by first | rfl | exact decide_eq_true (by omega) | exact decide_eq_false (by omega) | exact ndec_t (by omega) | exact ndec_f (by omega)) ?_
      | refine wpL_gf rfl rfl rfl rfl rfl (by decide) (by first | rfl | exact decide_eq_true (by omega) | exact decide_eq_false (by omega) | exact ndec_t (by omega) | exact ndec_f (by omega)) ?_
      | refine wpA_ct rfl (by first | rfl | exact decide_eq_true (by omega) | exact ndec_t (by omega)) ?_
      | refine wpA_cf rfl (by first | rfl | exact decide_eq_false (by omega) | exact ndec_f (by omega)) ?_
      | refine wpA_skip ?_
      | refine wpA_exit ?_
      | refine wpA_ret ?_
      | refine x_then_exit ?_
      | refine x_then_ret ?_
      | refine x_then_normal ?_
      | refine x_block_ret ?_
      | refine x_block_normal ?_
      | refine x_block_exit ?_
      | refine x_block_other rfl ?_
      | refine wpL_v rfl rfl (by decide) (OpV_pick_t rfl rfl (ndec_t (by omega)) rfl) ?_
      | refine wpL_v rfl rfl (by decide) (OpV_pick_f rfl rfl (ndec_f (by omega)) rfl) ?_)
    exact postI_1 rfl rfl (.refl _) (.v _) rfl
  by_cases hh : height < 1
  · have hP := Place_err fl r0 r1 100 (min height 1099511627776) 32 (.inr ⟨rfl, hbad, by omega⟩)
    repeat (first
      | refine wpL_end ?_
      | refine wpL_nil ?_
      | refine wpA_seq ?_
      | refine wpA_region ?_
      | refine wpA_block ?_
      | (refine wpL_is rfl rfl rfl rfl rfl rfl (by decide) hfew (TreeL.cons (tree_pcs l) TreeL.nil) ?_; rintro _ rfl)
      | (refine wpL_is rfl rfl rfl rfl rfl rfl (by decide) hkn TreeL.nil ?_; rintro _ rfl)
      | (refine wpL_is rfl rfl rfl rfl rfl rfl (by decide) hP (TreeL.cons (tree_pcs fl) (TreeL.cons (tree_I _) (TreeL.cons (tree_I _) (TreeL.cons (tree_I _) (TreeL.cons (tree_I _) TreeL.nil))))) ?_; rintro _ rfl)
      | refine wpL_v rfl rfl (by decide) (OpV_indexArr rfl rfl rfl rfl (by decide)) ?_
      | refine wpL_v rfl rfl (by decide) (OpV_move rfl rfl) ?_
      | refine wpL_v rfl rfl (by decide) (OpV_assign rfl rfl) ?_
      | refine wpL_v rfl rfl (by decide) (OpV_cmp rfl rfl rfl rfl) ?_
      | refine wpL_v rfl rfl (by decide) (OpV_add rfl rfl rfl (by omega)) ?_
      | refine wpL_v rfl rfl (by decide) (OpV_sub rfl rfl rfl (by omega)) ?_
      | refine wpL_v rfl rfl (by decide) (OpV_len rfl rfl rfl) ?_
      | refine wpL_v rfl rfl (by decide) (OpV_nilCheck rfl rfl rfl) ?_
      | refine wpL_v rfl rfl (by decide) (OpV_fieldAddr rfl rfl rfl rfl) ?_
      | refine wpL_v rfl rfl (by decide) (OpV_load rfl rfl rfl) ?_
      | refine wpL_v rfl rfl (by decide) (OpV_not rfl rfl) ?_
      | refine wpL_v rfl rfl (by decide) (OpV_extract rfl rfl rfl) ?_
      | refine wpL_v rfl rfl (by decide) (OpV_pick_t rfl rfl (by first | rfl | exact decide_eq_true (by omega)) rfl) ?_
      | refine wpL_v rfl rfl (by decide) (OpV_pick_f rfl rfl (by first | rfl | exact decide_eq_false (by omega)) rfl) ?_
      | refine wpL_v rfl rfl (by decide) (OpV_build rfl rfl rfl rfl) ?_
      | refine wpL_v rfl rfl (by decide) (OpV_max rfl rfl rfl) ?_
      | refine wpL_v rfl rfl (by decide) (OpV_min rfl rfl rfl) ?_
      | refine wpL_v rfl rfl (by decide) (OpV_nilptr rfl rfl rfl) ?_
      | refine wpL_v rfl rfl (by decide) (OpV_beq rfl rfl rfl) ?_
      | refine wpL_v rfl rfl (by decide) (OpV_bne rfl rfl rfl) ?_
      | refine wpL_v rfl rfl (by decide) (OpV_makeFunc rfl rfl) ?_
      | refine wpL_loadH 0 hG rfl rfl (by decide) rfl rfl rfl rfl ?_
      | refine wpL_loadH 1 hG rfl rfl (by decide) rfl rfl rfl rfl ?_
      | refine wpL_loadH 2 hG rfl rfl (by decide) rfl rfl rfl rfl ?_
      | refine wpL_loadH 3 hG rfl rfl (by decide) rfl rfl rfl rfl ?_
      | refine wpL_loadH 4 hG rfl rfl (by decide) rfl rfl rfl rfl ?_
      | refine wpL_loadH 5 hG rfl rfl (by decide) rfl rfl rfl rfl ?_
      | (refine wpL_storeH 0 hG rfl rfl rfl rfl rfl rfl rfl rfl rfl rfl rfl ?_; intro G hG)
      | (refine wpL_storeH 1 hG rfl rfl rfl rfl rfl rfl rfl rfl rfl rfl rfl ?_; intro G hG)
      | (refine wpL_storeH 2 hG rfl rfl rfl rfl rfl rfl rfl rfl rfl rfl rfl ?_; intro G hG)
      | (refine wpL_storeH 3 hG rfl rfl rfl rfl rfl rfl rfl rfl rfl rfl rfl ?_; intro G hG)
      | (refine wpL_storeH 4 hG rfl rfl rfl rfl rfl rfl rfl rfl rfl rfl rfl ?_; intro G hG)
      | (refine wpL_storeH 5 hG rfl rfl rfl rfl rfl rfl rfl rfl rfl rfl rfl ?_; intro G hG)
      | (refine wpL_allocH hG rfl rfl (by decide) rfl rfl ?_; intro id G hG)
      | (refine wpL_boxH hG rfl rfl (by decide) rfl rfl rfl ?_; intro id G hG)
      | (refine wpL_sliceH hG rfl rfl (by decide) rfl rfl rfl rfl rfl rfl rfl rfl ?_; intro id G hG)
      | refine wpL_gt rfl rfl rfl rfl rfl (by decide) (by first | rfl | exact decide_eq_true (by omega) | exact decide_eq_false (by omega) | exact ndec_t (by omega) | exact ndec_f (by omega)) ?_
      | refine wpL_gf rfl rfl rfl rfl rfl (by decide) (by first | rfl | exact decide_eq_true (by omega) | exact decide_eq_false (by omega) | exact ndec_t (by omega) | exact ndec_f (by omega)) ?_
      | refine wpA_ct rfl (by first | rfl | exact decide_eq_true (by omega) | exact ndec_t (by omega)) ?_
      | refine wpA_cf rfl (by first | rfl | exact decide_eq_false (by omega) | exact ndec_f (by omega)) ?_
      | refine wpA_skip ?_
      | refine wpA_exit ?_
      | refine wpA_ret ?_
      | refine x_then_exit ?_
      | refine x_then_ret ?_
      | refine x_then_normal ?_
      | refine x_block_ret ?_
      | refine x_block_normal ?_
      | refine x_block_exit ?_
      | refine x_block_other rfl ?_
      | refine wpL_v rfl rfl (by decide) (OpV_pick_t rfl rfl (ndec_t (by omega)) rfl) ?_
      | refine wpL_v rfl rfl (by decide) (OpV_pick_f rfl rfl (ndec_f (by omega)) rfl) ?_)
    refine wpL_is rfl rfl rfl rfl rfl rfl (by decide) hP2 (TreeL.cons (tree_pcs fl) (TreeL.cons (tree_I _) (TreeL.cons (tree_I _) (TreeL.cons (tree_I _) (TreeL.cons (tree_I _) TreeL.nil))))) ?_
    rintro _ rfl
    repeat (first
      | refine wpL_v rfl rfl (by decide) (OpV_move rfl rfl) ?_
      | refine wpL_v rfl rfl (by decide) (OpV_assign rfl rfl) ?_
      | refine wpL_v rfl rfl (by decide) (OpV_cmp rfl rfl rfl rfl) ?_
      | refine wpL_v rfl rfl (by decide) (OpV_add rfl rfl rfl (by omega)) ?_
      | refine wpL_v rfl rfl (by decide) (OpV_sub rfl rfl rfl (by omega)) ?_
      | refine wpL_v rfl rfl (by decide) (OpV_len rfl rfl rfl) ?_
      | refine wpL_v rfl rfl (by decide) (OpV_nilCheck rfl rfl rfl) ?_
      | refine wpL_v rfl rfl (by decide) (OpV_fieldAddr rfl rfl rfl rfl) ?_
      | refine wpL_v rfl rfl (by decide) (OpV_load rfl rfl rfl) ?_
      | refine wpL_v rfl rfl (by decide) (OpV_not rfl rfl) ?_
      | refine wpL_v rfl rfl (by decide) (OpV_extract rfl rfl rfl) ?_
      | refine wpL_v rfl rfl (by decide) (OpV_pick_t rfl rfl (by first | rfl | exact decide_eq_true (by omega)) rfl) ?_
      | refine wpL_v rfl rfl (by decide) (OpV_pick_f rfl rfl (by first | rfl | exact decide_eq_false (by omega)) rfl) ?_
      | refine wpL_v rfl rfl (by decide) (OpV_build rfl rfl rfl rfl) ?_
      | refine wpL_v rfl rfl (by decide) (OpV_max rfl rfl rfl) ?_
      | refine wpL_v rfl rfl (by decide) (OpV_min rfl rfl rfl) ?_
      | refine wpL_v rfl rfl (by decide) (OpV_nilptr rfl rfl rfl) ?_
      | refine wpL_v rfl rfl (by decide) (OpV_beq rfl rfl rfl) ?_
      | refine wpL_v rfl rfl (by decide) (OpV_bne rfl rfl rfl) ?_
      | refine wpL_v rfl rfl (by decide) (OpV_makeFunc rfl rfl) ?_
      | refine wpL_loadH 0 hG rfl rfl (by decide) rfl rfl rfl rfl ?_
      | refine wpL_loadH 1 hG rfl rfl (by decide) rfl rfl rfl rfl ?_
      | refine wpL_loadH 2 hG rfl rfl (by decide) rfl rfl rfl rfl ?_
      | refine wpL_loadH 3 hG rfl rfl (by decide) rfl rfl rfl rfl ?_
      | refine wpL_loadH 4 hG rfl rfl (by decide) rfl rfl rfl rfl ?_
      | refine wpL_loadH 5 hG rfl rfl (by decide) rfl rfl rfl rfl ?_
      | (refine wpL_storeH 0 hG rfl rfl rfl rfl rfl rfl rfl rfl rfl rfl rfl ?_; intro G hG)
      | (refine wpL_storeH 1 hG rfl rfl rfl rfl rfl rfl rfl rfl rfl rfl rfl ?_; intro G hG)
      | (refine wpL_storeH 2 hG rfl rfl rfl rfl rfl rfl rfl rfl rfl rfl rfl ?_; intro G hG)
      | (refine wpL_storeH 3 hG rfl rfl rfl rfl rfl rfl rfl rfl rfl rfl rfl ?_; intro G hG)
      | (refine wpL_storeH 4 hG rfl rfl rfl rfl rfl rfl rfl rfl rfl rfl rfl ?_; intro G hG)
      | (refine wpL_storeH 5 hG rfl rfl rfl rfl rfl rfl rfl rfl rfl rfl rfl ?_; intro G hG)
      | (refine wpL_allocH hG rfl rfl (by decide) rfl rfl ?_; intro id G hG)
      | (refine wpL_boxH hG rfl rfl (by decide) rfl rfl rfl ?_; intro id G hG)
      | (refine wpL_sliceH hG rfl rfl (by decide) rfl rfl rfl rfl rfl rfl rfl rfl ?_; intro id G hG)
      | refine wpL_gt rfl rfl rfl rfl rfl (by decide) (by first | rfl | exact decide_eq_true (by omega) | exact decide_eq_false (by omega) | exact ndec_t (by omega) | exact ndec_f (by omega)) ?_
      | refine wpL_gf rfl rfl rfl rfl rfl (by decide) (by first | rfl | exact decide_eq_true (by omega) | exact decide_eq_false (by omega) | exact ndec_t (by omega) | exact ndec_f (by omega)) ?_)
    refine wpL_end ?_
    refine wpA_seq ?_
    refine wpA_cut2 (S := Nat × Nat) (fun x => [(0, pcs fl), (2, I (min height 1099511627776)), (4, .ptr x.1 0), (7, .ptr x.2 0), (8, I 32), (50, B false)]) (fun x G => Has G [(x.1, ⟨[I r0, I r1], 35, true⟩), (x.2, ⟨zeroPage, 31, true⟩)]) ?_ ?_
    · clear hfew hkn hP hP2
      rcases hf with ⟨rfl, hf⟩ | ⟨rfl, hf⟩
      · repeat (first
          | refine wpL_end ?_
          | refine wpL_nil ?_
          | refine wpA_seq ?_
          | refine wpA_region ?_
          | refine wpA_block ?_
          | refine wpL_v rfl rfl (by decide) (OpV_cmp rfl rfl rfl (congrArg some (decide_eq_true (by omega)))) ?_
          | refine wpL_v rfl rfl (by decide) (OpV_cmp rfl rfl rfl (congrArg some (decide_eq_false (by omega)))) ?_
          | refine wpL_v rfl rfl (by decide) (OpV_cmp rfl rfl rfl (congrArg some (ndec_t (by omega)))) ?_
          | refine wpL_v rfl rfl (by decide) (OpV_cmp rfl rfl rfl (congrArg some (ndec_f (by omega)))) ?_
          | refine wpL_v rfl rfl (by decide) (OpV_move rfl rfl) ?_
          | refine wpL_v rfl rfl (by decide) (OpV_assign rfl rfl) ?_
          | refine wpL_v rfl rfl (by decide) (OpV_cmp rfl rfl rfl rfl) ?_
          | refine wpL_v rfl rfl (by decide) (OpV_add rfl rfl rfl (by omega)) ?_
          | refine wpL_v rfl rfl (by decide) (OpV_sub rfl rfl rfl (by omega)) ?_
          | refine wpL_v rfl rfl (by decide) (OpV_len rfl rfl rfl) ?_
          | refine wpL_v rfl rfl (by decide) (OpV_nilCheck rfl rfl rfl) ?_
          | refine wpL_v rfl rfl (by decide) (OpV_fieldAddr rfl rfl rfl rfl) ?_
          | refine wpL_v rfl rfl (by decide) (OpV_load rfl rfl rfl) ?_
          | refine wpL_v rfl rfl (by decide) (OpV_not rfl rfl) ?_
          | refine wpL_v rfl rfl (by decide) (OpV_extract rfl rfl rfl) ?_
          | refine wpL_v rfl rfl (by decide) (OpV_pick_t rfl rfl (by first | rfl | exact decide_eq_true (by omega)) rfl) ?_
          | refine wpL_v rfl rfl (by decide) (OpV_pick_f rfl rfl (by first | rfl | exact decide_eq_false (by omega)) rfl) ?_
          | refine wpL_v rfl rfl (by decide) (OpV_build rfl rfl rfl rfl) ?_
          | refine wpL_v rfl rfl (by decide) (OpV_max rfl rfl rfl) ?_
          | refine wpL_v rfl rfl (by decide) (OpV_min rfl rfl rfl) ?_
          | refine wpL_v rfl rfl (by decide) (OpV_nilptr rfl rfl rfl) ?_
          | refine wpL_v rfl rfl (by decide) (OpV_beq rfl rfl rfl) ?_
          | refine wpL_v rfl rfl (by decide) (OpV_bne rfl rfl rfl) ?_
          | refine wpL_v rfl rfl (by decide) (OpV_makeFunc rfl rfl) ?_
          | refine wpL_loadH 0 hG rfl rfl (by decide) rfl rfl rfl rfl ?_
          | refine wpL_loadH 1 hG rfl rfl (by decide) rfl rfl rfl rfl ?_
          | refine wpL_loadH 2 hG rfl rfl (by decide) rfl rfl rfl rfl ?_
          | refine wpL_loadH 3 hG rfl rfl (by decide) rfl rfl rfl rfl ?_
          | refine wpL_loadH 4 hG rfl rfl (by decide) rfl rfl rfl rfl ?_
          | refine wpL_loadH 5 hG rfl rfl (by decide) rfl rfl rfl rfl ?_
          | (refine wpL_storeH 0 hG rfl rfl rfl rfl rfl rfl rfl rfl rfl rfl rfl ?_; intro G hG)
          | (refine wpL_storeH 1 hG rfl rfl rfl rfl rfl rfl rfl rfl rfl rfl rfl ?_; intro G hG)
          | (refine wpL_storeH 2 hG rfl rfl rfl rfl rfl rfl rfl rfl rfl rfl rfl ?_; intro G hG)
          | (refine wpL_storeH 3 hG rfl rfl rfl rfl rfl rfl rfl rfl rfl rfl rfl ?_; intro G hG)
          | (refine wpL_storeH 4 hG rfl rfl rfl rfl rfl rfl rfl rfl rfl rfl rfl ?_; intro G hG)
          | (refine wpL_storeH 5 hG rfl rfl rfl rfl rfl rfl rfl rfl rfl rfl rfl ?_; intro G hG)
          | (refine wpL_allocH hG rfl rfl (by decide) rfl rfl ?_; intro id G hG)
          | (refine wpL_boxH hG rfl rfl (by decide) rfl rfl rfl ?_; intro id G hG)
          | (refine wpL_sliceH hG rfl rfl (by decide) rfl rfl rfl rfl rfl rfl rfl rfl ?_; intro id G hG)
          | refine wpL_gt rfl rfl rfl rfl rfl (by decide) (by first | rfl | exact decide_eq_true (by omega) | exact decide_eq_false (by omega) | exact ndec_t (by omega) | exact ndec_f (by omega)) ?_
          | refine wpL_gf rfl rfl rfl rfl rfl (by decide) (by first | rfl | exact decide_eq_true (by omega) | exact decide_eq_false (by omega) | exact ndec_t (by omega) | exact ndec_f (by omega)) ?_
          | refine wpA_ct rfl (by first | rfl | exact decide_eq_true (by omega) | exact ndec_t (by omega)) ?_
          | refine wpA_cf rfl (by first | rfl | exact decide_eq_false (by omega) | exact ndec_f (by omega)) ?_
          | refine wpA_skip ?_
          | refine wpA_exit ?_
          | refine wpA_ret ?_
          | refine x_then_exit ?_
          | refine x_then_ret ?_
          | refine x_then_normal ?_
          | refine x_block_ret ?_
          | refine x_block_normal ?_
          | refine x_block_exit ?_
          | refine x_block_other rfl ?_
          | refine wpL_v rfl rfl (by decide) (OpV_pick_t rfl rfl (ndec_t (by omega)) rfl) ?_
          | refine wpL_v rfl rfl (by decide) (OpV_pick_f rfl rfl (ndec_f (by omega)) rfl) ?_)
        exact ⟨(_, _), .cons rfl (.cons rfl (.cons rfl (.cons rfl (.cons rfl (.cons rfl (.nil _)))))), hG.pick [2, 1] (by decide) rfl⟩
      · exfalso; omega
    rintro ⟨ar, pa⟩ G hG
    dsimp only at hG ⊢
    clear hfew hkn hP hP2 hf
    repeat (first
      | refine wpL_end ?_
      | refine wpL_nil ?_
      | refine wpA_seq ?_
      | refine wpA_region ?_
      | refine wpA_block ?_
      | refine wpL_v rfl rfl (by decide) (OpV_indexArr rfl rfl rfl rfl (by decide)) ?_
      | (refine wpL_is rfl rfl rfl rfl rfl rfl (by decide) hsz (TreeL.cons (Tree.agg tree_zeroPage) (TreeL.cons (Tree.agg tree_zeroPage) TreeL.nil)) ?_; rintro _ rfl)
      | refine wpL_v rfl rfl (by decide) (OpV_cmp rfl rfl rfl (congrArg some (decide_eq_true (by omega)))) ?_
      | refine wpL_v rfl rfl (by decide) (OpV_cmp rfl rfl rfl (congrArg some (decide_eq_false (by omega)))) ?_
      | refine wpL_v rfl rfl (by decide) (OpV_cmp rfl rfl rfl (congrArg some (ndec_t (by omega)))) ?_
      | refine wpL_v rfl rfl (by decide) (OpV_cmp rfl rfl rfl (congrArg some (ndec_f (by omega)))) ?_
      | refine wpL_v rfl rfl (by decide) (OpV_move rfl rfl) ?_
      | refine wpL_v rfl rfl (by decide) (OpV_assign rfl rfl) ?_
      | refine wpL_v rfl rfl (by decide) (OpV_cmp rfl rfl rfl rfl) ?_
      | refine wpL_v rfl rfl (by decide) (OpV_add rfl rfl rfl (by omega)) ?_
      | refine wpL_v rfl rfl (by decide) (OpV_sub rfl rfl rfl (by omega)) ?_
      | refine wpL_v rfl rfl (by decide) (OpV_len rfl rfl rfl) ?_
      | refine wpL_v rfl rfl (by decide) (OpV_nilCheck rfl rfl rfl) ?_
      | refine wpL_v rfl rfl (by decide) (OpV_fieldAddr rfl rfl rfl rfl) ?_
      | refine wpL_v rfl rfl (by decide) (OpV_load rfl rfl rfl) ?_
      | refine wpL_v rfl rfl (by decide) (OpV_not rfl rfl) ?_
      | refine wpL_v rfl rfl (by decide) (OpV_extract rfl rfl rfl) ?_
      | refine wpL_v rfl rfl (by decide) (OpV_pick_t rfl rfl (by first | rfl | exact decide_eq_true (by omega)) rfl) ?_
      | refine wpL_v rfl rfl (by decide) (OpV_pick_f rfl rfl (by first | rfl | exact decide_eq_false (by omega)) rfl) ?_
      | refine wpL_v rfl rfl (by decide) (OpV_build rfl rfl rfl rfl) ?_
      | refine wpL_v rfl rfl (by decide) (OpV_max rfl rfl rfl) ?_
      | refine wpL_v rfl rfl (by decide) (OpV_min rfl rfl rfl) ?_
      | refine wpL_v rfl rfl (by decide) (OpV_nilptr rfl rfl rfl) ?_
      | refine wpL_v rfl rfl (by decide) (OpV_beq rfl rfl rfl) ?_
      | refine wpL_v rfl rfl (by decide) (OpV_bne rfl rfl rfl) ?_
      | refine wpL_v rfl rfl (by decide) (OpV_makeFunc rfl rfl) ?_
      | refine wpL_loadH 0 hG rfl rfl (by decide) rfl rfl rfl rfl ?_
      | refine wpL_loadH 1 hG rfl rfl (by decide) rfl rfl rfl rfl ?_
      | refine wpL_loadH 2 hG rfl rfl (by decide) rfl rfl rfl rfl ?_
      | refine wpL_loadH 3 hG rfl rfl (by decide) rfl rfl rfl rfl ?_
      | refine wpL_loadH 4 hG rfl rfl (by decide) rfl rfl rfl rfl ?_
      | refine wpL_loadH 5 hG rfl rfl (by decide) rfl rfl rfl rfl ?_
      | (refine wpL_storeH 0 hG rfl rfl rfl rfl rfl rfl rfl rfl rfl rfl rfl ?_; intro G hG)
      | (refine wpL_storeH 1 hG rfl rfl rfl rfl rfl rfl rfl rfl rfl rfl rfl ?_; intro G hG)
      | (refine wpL_storeH 2 hG rfl rfl rfl rfl rfl rfl rfl rfl rfl rfl rfl ?_; intro G hG)
      | (refine wpL_storeH 3 hG rfl rfl rfl rfl rfl rfl rfl rfl rfl rfl rfl ?_; intro G hG)
      | (refine wpL_storeH 4 hG rfl rfl rfl rfl rfl rfl rfl rfl rfl rfl rfl ?_; intro G hG)
      | (refine wpL_storeH 5 hG rfl rfl rfl rfl rfl rfl rfl rfl rfl rfl rfl ?_; intro G hG)
      | (refine wpL_allocH hG rfl rfl (by decide) rfl rfl ?_; intro id G hG)
      | (refine wpL_boxH hG rfl rfl (by decide) rfl rfl rfl ?_; intro id G hG)
      | (refine wpL_sliceH hG rfl rfl (by decide) rfl rfl rfl rfl rfl rfl rfl rfl ?_; intro id G hG)
      | refine wpL_gt rfl rfl rfl rfl rfl (by decide) (by first | rfl | exact decide_eq_true (by omega) | exact decide_eq_false (by omega) | exact ndec_t (by omega) | exact ndec_f (by omega)) ?_
      | refine wpL_gf rfl rfl rfl rfl rfl (by decide) (by first | rfl | exact decide_eq_true (by omega) | exact decide_eq_false (by omega) | exact ndec_t (by omega) | exact ndec_f (by omega)) ?_
      | refine wpA_ct rfl (by first | rfl | exact decide_eq_true (by omega) | exact ndec_t (by omega)) ?_
      | refine wpA_cf rfl (by first | rfl | exact decide_eq_false (by omega) | exact ndec_f (by omega)) ?_
      | refine wpA_skip ?_
      | refine wpA_exit ?_
      | refine wpA_ret ?_
      | refine x_then_exit ?_
      | refine x_then_ret ?_
      | refine x_then_normal ?_
      | refine x_block_ret ?_
      | refine x_block_normal ?_
      | refine x_block_exit ?_
      | refine x_block_other rfl ?_
      | refine wpL_v rfl rfl (by decide) (OpV_pick_t rfl rfl (ndec_t (by omega)) rfl) ?_
      | refine wpL_v rfl rfl (by decide) (OpV_pick_f rfl rfl (ndec_f (by omega)) rfl) ?_)
    exact postI_1 rfl rfl (.refl _) (.v _) rfl
  · obtain ⟨a, n, rfl, rfl⟩ : ∃ a n : Nat, r0 = (a : Int) ∧ r1 = ((a + n : Nat) : Int) := ⟨r0.toNat, (r1 - r0).toNat, by omega, by omega⟩
    have hP := Place_main fl a n 100 (min height 1099511627776) hl (by omega) (by omega) (by omega) (by omega) (by omega)
    have hM := mplace_iso fl a n 100 (min height 1099511627776) hl (by omega) (by omega) (by omega) (by omega)
    have n1 := slotsN_len fl a (min height 1099511627776) n
    have n2 := feetN_len hl a n (by omega)
    have n3 := footSlots_len (bottom0 (yB fl a (min height 1099511627776) n) (min height 1099511627776) (feetN fl a n)) (feetN fl a n)
    have hS := samePage_iso (placeF fl a n 100 (min height 1099511627776)) (by simp only [placeF]; omega) (by simp only [placeF]; rw [n3]; omega)
    clear n1 n2 n3
    repeat (first
      | refine wpL_end ?_
      | refine wpL_nil ?_
      | refine wpA_seq ?_
      | refine wpA_region ?_
      | refine wpA_block ?_
      | (refine wpL_is rfl rfl rfl rfl rfl rfl (by decide) hfew (TreeL.cons (tree_pcs l) TreeL.nil) ?_; rintro _ rfl)
      | (refine wpL_is rfl rfl rfl rfl rfl rfl (by decide) hkn TreeL.nil ?_; rintro _ rfl)
      | (refine wpL_is rfl rfl rfl rfl rfl rfl (by decide) hP (TreeL.cons (tree_pcs fl) (TreeL.cons (tree_I _) (TreeL.cons (tree_I _) (TreeL.cons (tree_I _) (TreeL.cons (tree_I _) TreeL.nil))))) ?_; rintro _ rfl)
      | refine wpL_v rfl rfl (by decide) (OpV_indexArr rfl rfl rfl rfl (by decide)) ?_
      | refine wpL_v rfl rfl (by decide) (OpV_move rfl rfl) ?_
      | refine wpL_v rfl rfl (by decide) (OpV_assign rfl rfl) ?_
      | refine wpL_v rfl rfl (by decide) (OpV_cmp rfl rfl rfl rfl) ?_
      | refine wpL_v rfl rfl (by decide) (OpV_add rfl rfl rfl (by omega)) ?_
      | refine wpL_v rfl rfl (by decide) (OpV_sub rfl rfl rfl (by omega)) ?_
      | refine wpL_v rfl rfl (by decide) (OpV_len rfl rfl rfl) ?_
      | refine wpL_v rfl rfl (by decide) (OpV_nilCheck rfl rfl rfl) ?_
      | refine wpL_v rfl rfl (by decide) (OpV_fieldAddr rfl rfl rfl rfl) ?_
      | refine wpL_v rfl rfl (by decide) (OpV_load rfl rfl rfl) ?_
      | refine wpL_v rfl rfl (by decide) (OpV_not rfl rfl) ?_
      | refine wpL_v rfl rfl (by decide) (OpV_extract rfl rfl rfl) ?_
      | refine wpL_v rfl rfl (by decide) (OpV_pick_t rfl rfl (by first | rfl | exact decide_eq_true (by omega)) rfl) ?_
      | refine wpL_v rfl rfl (by decide) (OpV_pick_f rfl rfl (by first | rfl | exact decide_eq_false (by omega)) rfl) ?_
      | refine wpL_v rfl rfl (by decide) (OpV_build rfl rfl rfl rfl) ?_
      | refine wpL_v rfl rfl (by decide) (OpV_max rfl rfl rfl) ?_
      | refine wpL_v rfl rfl (by decide) (OpV_min rfl rfl rfl) ?_
      | refine wpL_v rfl rfl (by decide) (OpV_nilptr rfl rfl rfl) ?_
      | refine wpL_v rfl rfl (by decide) (OpV_beq rfl rfl rfl) ?_
      | refine wpL_v rfl rfl (by decide) (OpV_bne rfl rfl rfl) ?_
      | refine wpL_v rfl rfl (by decide) (OpV_makeFunc rfl rfl) ?_
      | refine wpL_loadH 0 hG rfl rfl (by decide) rfl rfl rfl rfl ?_
      | refine wpL_loadH 1 hG rfl rfl (by decide) rfl rfl rfl rfl ?_
      | refine wpL_loadH 2 hG rfl rfl (by decide) rfl rfl rfl rfl ?_
      | refine wpL_loadH 3 hG rfl rfl (by decide) rfl rfl rfl rfl ?_
      | refine wpL_loadH 4 hG rfl rfl (by decide) rfl rfl rfl rfl ?_
      | refine wpL_loadH 5 hG rfl rfl (by decide) rfl rfl rfl rfl ?_
      | (refine wpL_storeH 0 hG rfl rfl rfl rfl rfl rfl rfl rfl rfl rfl rfl ?_; intro G hG)
      | (refine wpL_storeH 1 hG rfl rfl rfl rfl rfl rfl rfl rfl rfl rfl rfl ?_; intro G hG)
      | (refine wpL_storeH 2 hG rfl rfl rfl rfl rfl rfl rfl rfl rfl rfl rfl ?_; intro G hG)
      | (refine wpL_storeH 3 hG rfl rfl rfl rfl rfl rfl rfl rfl rfl rfl rfl ?_; intro G hG)
      | (refine wpL_storeH 4 hG rfl rfl rfl rfl rfl rfl rfl rfl rfl rfl rfl ?_; intro G hG)
      | (refine wpL_storeH 5 hG rfl rfl rfl rfl rfl rfl rfl rfl rfl rfl rfl ?_; intro G hG)
      | (refine wpL_allocH hG rfl rfl (by decide) rfl rfl ?_; intro id G hG)
      | (refine wpL_boxH hG rfl rfl (by decide) rfl rfl rfl ?_; intro id G hG)
      | (refine wpL_sliceH hG rfl rfl (by decide) rfl rfl rfl rfl rfl rfl rfl rfl ?_; intro id G hG)
      | refine wpL_gt rfl rfl rfl rfl rfl (by decide) (by first | rfl | exact decide_eq_true (by omega) | exact decide_eq_false (by omega) | exact ndec_t (by omega) | exact ndec_f (by omega)) ?_
      | refine wpL_gf rfl rfl rfl rfl rfl (by decide) (by first | rfl | exact decide_eq_true (by omega) | exact decide_eq_false (by omega) | exact ndec_t (by omega) | exact ndec_f (by omega)) ?_
      | refine wpA_ct rfl (by first | rfl | exact decide_eq_true (by omega) | exact ndec_t (by omega)) ?_
      | refine wpA_cf rfl (by first | rfl | exact decide_eq_false (by omega) | exact ndec_f (by omega)) ?_
      | refine wpA_skip ?_
      | refine wpA_exit ?_
      | refine wpA_ret ?_
      | refine x_then_exit ?_
      | refine x_then_ret ?_
      | refine x_then_normal ?_
      | refine x_block_ret ?_
      | refine x_block_normal ?_
      | refine x_block_exit ?_
      | refine x_block_other rfl ?_
      | refine wpL_v rfl rfl (by decide) (OpV_pick_t rfl rfl (ndec_t (by omega)) rfl) ?_
      | refine wpL_v rfl rfl (by decide) (OpV_pick_f rfl rfl (ndec_f (by omega)) rfl) ?_)
    refine wpL_is rfl rfl rfl rfl rfl rfl (by decide) hP2 (TreeL.cons (tree_pcs fl) (TreeL.cons (tree_I _) (TreeL.cons (tree_I _) (TreeL.cons (tree_I _) (TreeL.cons (tree_I _) TreeL.nil))))) ?_
    rintro _ rfl
    repeat (first
      | refine wpL_v rfl rfl (by decide) (OpV_move rfl rfl) ?_
      | refine wpL_v rfl rfl (by decide) (OpV_assign rfl rfl) ?_
      | refine wpL_v rfl rfl (by decide) (OpV_cmp rfl rfl rfl rfl) ?_
      | refine wpL_v rfl rfl (by decide) (OpV_add rfl rfl rfl (by omega)) ?_
      | refine wpL_v rfl rfl (by decide) (OpV_sub rfl rfl rfl (by omega)) ?_
      | refine wpL_v rfl rfl (by decide) (OpV_len rfl rfl rfl) ?_
      | refine wpL_v rfl rfl (by decide) (OpV_nilCheck rfl rfl rfl) ?_
      | refine wpL_v rfl rfl (by decide) (OpV_fieldAddr rfl rfl rfl rfl) ?_
      | refine wpL_v rfl rfl (by decide) (OpV_load rfl rfl rfl) ?_
      | refine wpL_v rfl rfl (by decide) (OpV_not rfl rfl) ?_
      | refine wpL_v rfl rfl (by decide) (OpV_extract rfl rfl rfl) ?_
      | refine wpL_v rfl rfl (by decide) (OpV_pick_t rfl rfl (by first | rfl | exact decide_eq_true (by omega)) rfl) ?_
      | refine wpL_v rfl rfl (by decide) (OpV_pick_f rfl rfl (by first | rfl | exact decide_eq_false (by omega)) rfl) ?_
      | refine wpL_v rfl rfl (by decide) (OpV_build rfl rfl rfl rfl) ?_
      | refine wpL_v rfl rfl (by decide) (OpV_max rfl rfl rfl) ?_
      | refine wpL_v rfl rfl (by decide) (OpV_min rfl rfl rfl) ?_
      | refine wpL_v rfl rfl (by decide) (OpV_nilptr rfl rfl rfl) ?_
      | refine wpL_v rfl rfl (by decide) (OpV_beq rfl rfl rfl) ?_
      | refine wpL_v rfl rfl (by decide) (OpV_bne rfl rfl rfl) ?_
      | refine wpL_v rfl rfl (by decide) (OpV_makeFunc rfl rfl) ?_
      | refine wpL_loadH 0 hG rfl rfl (by decide) rfl rfl rfl rfl ?_
      | refine wpL_loadH 1 hG rfl rfl (by decide) rfl rfl rfl rfl ?_
      | refine wpL_loadH 2 hG rfl rfl (by decide) rfl rfl rfl rfl ?_
      | refine wpL_loadH 3 hG rfl rfl (by decide) rfl rfl rfl rfl ?_
      | refine wpL_loadH 4 hG rfl rfl (by decide) rfl rfl rfl rfl ?_
      | refine wpL_loadH 5 hG rfl rfl (by decide) rfl rfl rfl rfl ?_
      | (refine wpL_storeH 0 hG rfl rfl rfl rfl rfl rfl rfl rfl rfl rfl rfl ?_; intro G hG)
      | (refine wpL_storeH 1 hG rfl rfl rfl rfl rfl rfl rfl rfl rfl rfl rfl ?_; intro G hG)
      | (refine wpL_storeH 2 hG rfl rfl rfl rfl rfl rfl rfl rfl rfl rfl rfl ?_; intro G hG)
      | (refine wpL_storeH 3 hG rfl rfl rfl rfl rfl rfl rfl rfl rfl rfl rfl ?_; intro G hG)
      | (refine wpL_storeH 4 hG rfl rfl rfl rfl rfl rfl rfl rfl rfl rfl rfl ?_; intro G hG)
      | (refine wpL_storeH 5 hG rfl rfl rfl rfl rfl rfl rfl rfl rfl rfl rfl ?_; intro G hG)
      | (refine wpL_allocH hG rfl rfl (by decide) rfl rfl ?_; intro id G hG)
      | (refine wpL_boxH hG rfl rfl (by decide) rfl rfl rfl ?_; intro id G hG)
      | (refine wpL_sliceH hG rfl rfl (by decide) rfl rfl rfl rfl rfl rfl rfl rfl ?_; intro id G hG)
      | refine wpL_gt rfl rfl rfl rfl rfl (by decide) (by first | rfl | exact decide_eq_true (by omega) | exact decide_eq_false (by omega) | exact ndec_t (by omega) | exact ndec_f (by omega)) ?_
      | refine wpL_gf rfl rfl rfl rfl rfl (by decide) (by first | rfl | exact decide_eq_true (by omega) | exact decide_eq_false (by omega) | exact ndec_t (by omega) | exact ndec_f (by omega)) ?_)
    refine wpL_end ?_
    refine wpA_seq ?_
    refine wpA_cut2 (S := Nat × Nat) (fun x => [(0, pcs fl), (2, I (min height 1099511627776)), (4, .ptr x.1 0), (7, .ptr x.2 0), (8, I 0), (50, B false)]) (fun x G => Has G [(x.1, ⟨[I (a : Int), I ((a + n : Nat) : Int)], 35, true⟩), (x.2, ⟨encPage (placeF fl a n 100 (min height 1099511627776)), 31, true⟩)]) ?_ ?_
    · clear hfew hkn hP hP2
      rcases hf with ⟨rfl, hf⟩ | ⟨rfl, hf⟩
      · repeat (first
          | refine wpL_end ?_
          | refine wpL_nil ?_
          | refine wpA_seq ?_
          | refine wpA_region ?_
          | refine wpA_block ?_
          | refine wpL_v rfl rfl (by decide) (OpV_cmp rfl rfl rfl (congrArg some (decide_eq_true (by omega)))) ?_
          | refine wpL_v rfl rfl (by decide) (OpV_cmp rfl rfl rfl (congrArg some (decide_eq_false (by omega)))) ?_
          | refine wpL_v rfl rfl (by decide) (OpV_cmp rfl rfl rfl (congrArg some (ndec_t (by omega)))) ?_
          | refine wpL_v rfl rfl (by decide) (OpV_cmp rfl rfl rfl (congrArg some (ndec_f (by omega)))) ?_
          | refine wpL_v rfl rfl (by decide) (OpV_move rfl rfl) ?_
          | refine wpL_v rfl rfl (by decide) (OpV_assign rfl rfl) ?_
          | refine wpL_v rfl rfl (by decide) (OpV_cmp rfl rfl rfl rfl) ?_
          | refine wpL_v rfl rfl (by decide) (OpV_add rfl rfl rfl (by omega)) ?_
          | refine wpL_v rfl rfl (by decide) (OpV_sub rfl rfl rfl (by omega)) ?_
          | refine wpL_v rfl rfl (by decide) (OpV_len rfl rfl rfl) ?_
          | refine wpL_v rfl rfl (by decide) (OpV_nilCheck rfl rfl rfl) ?_
          | refine wpL_v rfl rfl (by decide) (OpV_fieldAddr rfl rfl rfl rfl) ?_
          | refine wpL_v rfl rfl (by decide) (OpV_load rfl rfl rfl) ?_
          | refine wpL_v rfl rfl (by decide) (OpV_not rfl rfl) ?_
          | refine wpL_v rfl rfl (by decide) (OpV_extract rfl rfl rfl) ?_
          | refine wpL_v rfl rfl (by decide) (OpV_pick_t rfl rfl (by first | rfl | exact decide_eq_true (by omega)) rfl) ?_
          | refine wpL_v rfl rfl (by decide) (OpV_pick_f rfl rfl (by first | rfl | exact decide_eq_false (by omega)) rfl) ?_
          | refine wpL_v rfl rfl (by decide) (OpV_build rfl rfl rfl rfl) ?_
          | refine wpL_v rfl rfl (by decide) (OpV_max rfl rfl rfl) ?_
          | refine wpL_v rfl rfl (by decide) (OpV_min rfl rfl rfl) ?_
          | refine wpL_v rfl rfl (by decide) (OpV_nilptr rfl rfl rfl) ?_
          | refine wpL_v rfl rfl (by decide) (OpV_beq rfl rfl rfl) ?_
          | refine wpL_v rfl rfl (by decide) (OpV_bne rfl rfl rfl) ?_
          | refine wpL_v rfl rfl (by decide) (OpV_makeFunc rfl rfl) ?_
          | refine wpL_loadH 0 hG rfl rfl (by decide) rfl rfl rfl rfl ?_
          | refine wpL_loadH 1 hG rfl rfl (by decide) rfl rfl rfl rfl ?_
          | refine wpL_loadH 2 hG rfl rfl (by decide) rfl rfl rfl rfl ?_
          | refine wpL_loadH 3 hG rfl rfl (by decide) rfl rfl rfl rfl ?_
          | refine wpL_loadH 4 hG rfl rfl (by decide) rfl rfl rfl rfl ?_
          | refine wpL_loadH 5 hG rfl rfl (by decide) rfl rfl rfl rfl ?_
          | (refine wpL_storeH 0 hG rfl rfl rfl rfl rfl rfl rfl rfl rfl rfl rfl ?_; intro G hG)
          | (refine wpL_storeH 1 hG rfl rfl rfl rfl rfl rfl rfl rfl rfl rfl rfl ?_; intro G hG)
          | (refine wpL_storeH 2 hG rfl rfl rfl rfl rfl rfl rfl rfl rfl rfl rfl ?_; intro G hG)
          | (refine wpL_storeH 3 hG rfl rfl rfl rfl rfl rfl rfl rfl rfl rfl rfl ?_; intro G hG)
          | (refine wpL_storeH 4 hG rfl rfl rfl rfl rfl rfl rfl rfl rfl rfl rfl ?_; intro G hG)
          | (refine wpL_storeH 5 hG rfl rfl rfl rfl rfl rfl rfl rfl rfl rfl rfl ?_; intro G hG)
          | (refine wpL_allocH hG rfl rfl (by decide) rfl rfl ?_; intro id G hG)
          | (refine wpL_boxH hG rfl rfl (by decide) rfl rfl rfl ?_; intro id G hG)
          | (refine wpL_sliceH hG rfl rfl (by decide) rfl rfl rfl rfl rfl rfl rfl rfl ?_; intro id G hG)
          | refine wpL_gt rfl rfl rfl rfl rfl (by decide) (by first | rfl | exact decide_eq_true (by omega) | exact decide_eq_false (by omega) | exact ndec_t (by omega) | exact ndec_f (by omega)) ?_
          | refine wpL_gf rfl rfl rfl rfl rfl (by decide) (by first | rfl | exact decide_eq_true (by omega) | exact decide_eq_false (by omega) | exact ndec_t (by omega) | exact ndec_f (by omega)) ?_
          | refine wpA_ct rfl (by first | rfl | exact decide_eq_true (by omega) | exact ndec_t (by omega)) ?_
          | refine wpA_cf rfl (by first | rfl | exact decide_eq_false (by omega) | exact ndec_f (by omega)) ?_
          | refine wpA_skip ?_
          | refine wpA_exit ?_
          | refine wpA_ret ?_
          | refine x_then_exit ?_
          | refine x_then_ret ?_
          | refine x_then_normal ?_
          | refine x_block_ret ?_
          | refine x_block_normal ?_
          | refine x_block_exit ?_
          | refine x_block_other rfl ?_
          | refine wpL_v rfl rfl (by decide) (OpV_pick_t rfl rfl (ndec_t (by omega)) rfl) ?_
          | refine wpL_v rfl rfl (by decide) (OpV_pick_f rfl rfl (ndec_f (by omega)) rfl) ?_)
        exact ⟨(_, _), .cons rfl (.cons rfl (.cons rfl (.cons rfl (.cons rfl (.cons rfl (.nil _)))))), hG.pick [2, 1] (by decide) rfl⟩
      · exfalso; omega
    rintro ⟨ar, pa⟩ G hG
    dsimp only at hG ⊢
    clear hfew hkn hP hP2 hf
    repeat (first
      | refine wpL_end ?_
      | refine wpL_nil ?_
      | refine wpA_seq ?_
      | refine wpA_region ?_
      | refine wpA_block ?_
      | refine wpL_v rfl rfl (by decide) (OpV_indexArr rfl rfl rfl rfl (by decide)) ?_
      | refine wpL_v rfl rfl (by decide) (OpV_cmp rfl rfl rfl (congrArg some (decide_eq_true (by omega)))) ?_
      | refine wpL_v rfl rfl (by decide) (OpV_cmp rfl rfl rfl (congrArg some (decide_eq_false (by omega)))) ?_
      | refine wpL_v rfl rfl (by decide) (OpV_cmp rfl rfl rfl (congrArg some (ndec_t (by omega)))) ?_
      | refine wpL_v rfl rfl (by decide) (OpV_cmp rfl rfl rfl (congrArg some (ndec_f (by omega)))) ?_
      | refine wpL_v rfl rfl (by decide) (OpV_move rfl rfl) ?_
      | refine wpL_v rfl rfl (by decide) (OpV_assign rfl rfl) ?_
      | refine wpL_v rfl rfl (by decide) (OpV_cmp rfl rfl rfl rfl) ?_
      | refine wpL_v rfl rfl (by decide) (OpV_add rfl rfl rfl (by omega)) ?_
      | refine wpL_v rfl rfl (by decide) (OpV_sub rfl rfl rfl (by omega)) ?_
      | refine wpL_v rfl rfl (by decide) (OpV_len rfl rfl rfl) ?_
      | refine wpL_v rfl rfl (by decide) (OpV_nilCheck rfl rfl rfl) ?_
      | refine wpL_v rfl rfl (by decide) (OpV_fieldAddr rfl rfl rfl rfl) ?_
      | refine wpL_v rfl rfl (by decide) (OpV_load rfl rfl rfl) ?_
      | refine wpL_v rfl rfl (by decide) (OpV_not rfl rfl) ?_
      | refine wpL_v rfl rfl (by decide) (OpV_extract rfl rfl rfl) ?_
      | refine wpL_v rfl rfl (by decide) (OpV_pick_t rfl rfl (by first | rfl | exact decide_eq_true (by omega)) rfl) ?_
      | refine wpL_v rfl rfl (by decide) (OpV_pick_f rfl rfl (by first | rfl | exact decide_eq_false (by omega)) rfl) ?_
      | refine wpL_v rfl rfl (by decide) (OpV_build rfl rfl rfl rfl) ?_
      | refine wpL_v rfl rfl (by decide) (OpV_max rfl rfl rfl) ?_
      | refine wpL_v rfl rfl (by decide) (OpV_min rfl rfl rfl) ?_
      | refine wpL_v rfl rfl (by decide) (OpV_nilptr rfl rfl rfl) ?_
      | refine wpL_v rfl rfl (by decide) (OpV_beq rfl rfl rfl) ?_
      | refine wpL_v rfl rfl (by decide) (OpV_bne rfl rfl rfl) ?_
      | refine wpL_v rfl rfl (by decide) (OpV_makeFunc rfl rfl) ?_
      | refine wpL_loadH 0 hG rfl rfl (by decide) rfl rfl rfl rfl ?_
      | refine wpL_loadH 1 hG rfl rfl (by decide) rfl rfl rfl rfl ?_
      | refine wpL_loadH 2 hG rfl rfl (by decide) rfl rfl rfl rfl ?_
      | refine wpL_loadH 3 hG rfl rfl (by decide) rfl rfl rfl rfl ?_
      | refine wpL_loadH 4 hG rfl rfl (by decide) rfl rfl rfl rfl ?_
      | refine wpL_loadH 5 hG rfl rfl (by decide) rfl rfl rfl rfl ?_
      | (refine wpL_storeH 0 hG rfl rfl rfl rfl rfl rfl rfl rfl rfl rfl rfl ?_; intro G hG)
      | (refine wpL_storeH 1 hG rfl rfl rfl rfl rfl rfl rfl rfl rfl rfl rfl ?_; intro G hG)
      | (refine wpL_storeH 2 hG rfl rfl rfl rfl rfl rfl rfl rfl rfl rfl rfl ?_; intro G hG)
      | (refine wpL_storeH 3 hG rfl rfl rfl rfl rfl rfl rfl rfl rfl rfl rfl ?_; intro G hG)
      | (refine wpL_storeH 4 hG rfl rfl rfl rfl rfl rfl rfl rfl rfl rfl rfl ?_; intro G hG)
      | (refine wpL_storeH 5 hG rfl rfl rfl rfl rfl rfl rfl rfl rfl rfl rfl ?_; intro G hG)
      | (refine wpL_allocH hG rfl rfl (by decide) rfl rfl ?_; intro id G hG)
      | (refine wpL_boxH hG rfl rfl (by decide) rfl rfl rfl ?_; intro id G hG)
      | (refine wpL_sliceH hG rfl rfl (by decide) rfl rfl rfl rfl rfl rfl rfl rfl ?_; intro id G hG)
      | refine wpL_gt rfl rfl rfl rfl rfl (by decide) (by first | rfl | exact decide_eq_true (by omega) | exact decide_eq_false (by omega) | exact ndec_t (by omega) | exact ndec_f (by omega)) ?_
      | refine wpL_gf rfl rfl rfl rfl rfl (by decide) (by first | rfl | exact decide_eq_true (by omega) | exact decide_eq_false (by omega) | exact ndec_t (by omega) | exact ndec_f (by omega)) ?_
      | refine wpA_ct rfl (by first | rfl | exact decide_eq_true (by omega) | exact ndec_t (by omega)) ?_
      | refine wpA_cf rfl (by first | rfl | exact decide_eq_false (by omega) | exact ndec_f (by omega)) ?_
      | refine wpA_skip ?_
      | refine wpA_exit ?_
      | refine wpA_ret ?_
      | refine x_then_exit ?_
      | refine x_then_ret ?_
      | refine x_then_normal ?_
      | refine x_block_ret ?_
      | refine x_block_normal ?_
      | refine x_block_exit ?_
      | refine x_block_other rfl ?_
      | refine wpL_v rfl rfl (by decide) (OpV_pick_t rfl rfl (ndec_t (by omega)) rfl) ?_
      | refine wpL_v rfl rfl (by decide) (OpV_pick_f rfl rfl (ndec_f (by omega)) rfl) ?_)
    refine wpA_yq mixed (by decide +kernel) ?_
    repeat (first
      | refine Y_q rfl rfl rfl (by decide) (OpV_load_at rfl rfl (hG.get 1 _ _ rfl) rfl) ?_
      | refine Y_q rfl rfl rfl (by decide) (OpV_load_at rfl rfl (hG.get 0 _ _ rfl) rfl) ?_
      | refine Y_q rfl rfl rfl (by decide) (OpV_indexArr rfl rfl rfl rfl (by decide)) ?_
      | refine Y_kq rfl rfl rfl (by decide) (Iso.K rfl rfl rfl rfl hM (TreeL.cons (tree_pcs fl) (TreeL.cons (tree_I _) (TreeL.cons (tree_I _) (TreeL.cons (tree_I _) (TreeL.cons (tree_I _) TreeL.nil)))))) ?_
      | refine Y_kq rfl rfl rfl (by decide) (Iso.K rfl rfl rfl rfl hS (TreeL.cons (Tree.agg (tree_encPage _)) (TreeL.cons (Tree.agg (tree_encPage _)) TreeL.nil))) ?_
      | refine Y_q rfl rfl rfl (by decide) (OpV_cmp rfl rfl rfl (congrArg some (decide_eq_true (by omega)))) ?_
      | refine Y_q rfl rfl rfl (by decide) (OpV_cmp rfl rfl rfl (congrArg some (decide_eq_false (by omega)))) ?_
      | refine Y_q rfl rfl rfl (by decide) (OpV_cmp rfl rfl rfl (congrArg some (ndec_t (by omega)))) ?_
      | refine Y_q rfl rfl rfl (by decide) (OpV_cmp rfl rfl rfl (congrArg some (ndec_f (by omega)))) ?_
      | refine Y_q rfl rfl rfl (by decide) (OpV_move rfl rfl) ?_
      | refine Y_q rfl rfl rfl (by decide) (OpV_assign rfl rfl) ?_
      | refine Y_q rfl rfl rfl (by decide) (OpV_cmp rfl rfl rfl rfl) ?_
      | refine Y_q rfl rfl rfl (by decide) (OpV_add rfl rfl rfl (by omega)) ?_
      | refine Y_q rfl rfl rfl (by decide) (OpV_sub rfl rfl rfl (by omega)) ?_
      | refine Y_q rfl rfl rfl (by decide) (OpV_len rfl rfl rfl) ?_
      | refine Y_q rfl rfl rfl (by decide) (OpV_nilCheck rfl rfl rfl) ?_
      | refine Y_q rfl rfl rfl (by decide) (OpV_fieldAddr rfl rfl rfl rfl) ?_
      | refine Y_q rfl rfl rfl (by decide) (OpV_load rfl rfl rfl) ?_
      | refine Y_q rfl rfl rfl (by decide) (OpV_not rfl rfl) ?_
      | refine Y_q rfl rfl rfl (by decide) (OpV_extract rfl rfl rfl) ?_
      | refine Y_q rfl rfl rfl (by decide) (OpV_build rfl rfl rfl rfl) ?_
      | refine Y_q rfl rfl rfl (by decide) (OpV_max rfl rfl rfl) ?_
      | refine Y_q rfl rfl rfl (by decide) (OpV_min rfl rfl rfl) ?_
      | refine Y_q rfl rfl rfl (by decide) (OpV_nilptr rfl rfl rfl) ?_
      | refine Y_q rfl rfl rfl (by decide) (OpV_beq rfl rfl rfl) ?_
      | refine Y_q rfl rfl rfl (by decide) (OpV_bne rfl rfl rfl) ?_
      | refine Y_q rfl rfl rfl (by decide) (OpV_pick_t rfl rfl (by first | rfl | exact decide_eq_true (by omega) | exact ndec_t (by omega)) rfl) ?_
      | refine Y_q rfl rfl rfl (by decide) (OpV_pick_f rfl rfl (by first | rfl | exact decide_eq_false (by omega) | exact ndec_f (by omega)) rfl) ?_
      | refine Y_gq (OpV_cmp rfl rfl rfl (congrArg some (decide_eq_true (by omega)))) rfl (by decide) rfl rfl rfl rfl (by decide) ?_
      | refine Y_gq (OpV_cmp rfl rfl rfl (congrArg some (decide_eq_false (by omega)))) rfl (by decide) rfl rfl rfl rfl (by decide) ?_
      | refine Y_gq (OpV_cmp rfl rfl rfl (congrArg some (ndec_t (by omega)))) rfl (by decide) rfl rfl rfl rfl (by decide) ?_
      | refine Y_gq (OpV_cmp rfl rfl rfl (congrArg some (ndec_f (by omega)))) rfl (by decide) rfl rfl rfl rfl (by decide) ?_
      | refine Y_gq (OpV_move rfl rfl) rfl (by decide) rfl rfl rfl rfl (by decide) ?_
      | refine Y_gq (OpV_assign rfl rfl) rfl (by decide) rfl rfl rfl rfl (by decide) ?_
      | refine Y_gq (OpV_cmp rfl rfl rfl rfl) rfl (by decide) rfl rfl rfl rfl (by decide) ?_
      | refine Y_gq (OpV_add rfl rfl rfl (by omega)) rfl (by decide) rfl rfl rfl rfl (by decide) ?_
      | refine Y_gq (OpV_sub rfl rfl rfl (by omega)) rfl (by decide) rfl rfl rfl rfl (by decide) ?_
      | refine Y_gq (OpV_len rfl rfl rfl) rfl (by decide) rfl rfl rfl rfl (by decide) ?_
      | refine Y_gq (OpV_nilCheck rfl rfl rfl) rfl (by decide) rfl rfl rfl rfl (by decide) ?_
      | refine Y_gq (OpV_fieldAddr rfl rfl rfl rfl) rfl (by decide) rfl rfl rfl rfl (by decide) ?_
      | refine Y_gq (OpV_load rfl rfl rfl) rfl (by decide) rfl rfl rfl rfl (by decide) ?_
      | refine Y_gq (OpV_not rfl rfl) rfl (by decide) rfl rfl rfl rfl (by decide) ?_
      | refine Y_gq (OpV_extract rfl rfl rfl) rfl (by decide) rfl rfl rfl rfl (by decide) ?_
      | refine Y_gq (OpV_build rfl rfl rfl rfl) rfl (by decide) rfl rfl rfl rfl (by decide) ?_
      | refine Y_gq (OpV_max rfl rfl rfl) rfl (by decide) rfl rfl rfl rfl (by decide) ?_
      | refine Y_gq (OpV_min rfl rfl rfl) rfl (by decide) rfl rfl rfl rfl (by decide) ?_
      | refine Y_gq (OpV_nilptr rfl rfl rfl) rfl (by decide) rfl rfl rfl rfl (by decide) ?_
      | refine Y_gq (OpV_beq rfl rfl rfl) rfl (by decide) rfl rfl rfl rfl (by decide) ?_
      | refine Y_gq (OpV_bne rfl rfl rfl) rfl (by decide) rfl rfl rfl rfl (by decide) ?_
      | refine Y_gq (OpV_pick_t rfl rfl (by first | rfl | exact decide_eq_true (by omega) | exact ndec_t (by omega)) rfl) rfl (by decide) rfl rfl rfl rfl (by decide) ?_
      | refine Y_gq (OpV_pick_f rfl rfl (by first | rfl | exact decide_eq_false (by omega) | exact ndec_f (by omega)) rfl) rfl (by decide) rfl rfl rfl rfl (by decide) ?_
      | refine Y_gn rfl (by decide) rfl rfl rfl rfl rfl (by decide) ?_
      | refine Y_end ?_)
    repeat (first
      | refine wpL_end ?_
      | refine wpL_nil ?_
      | refine wpA_seq ?_
      | refine wpA_region ?_
      | refine wpA_block ?_
      | refine wpL_v rfl rfl (by decide) (OpV_cmp rfl rfl rfl (congrArg some (decide_eq_true (by omega)))) ?_
      | refine wpL_v rfl rfl (by decide) (OpV_cmp rfl rfl rfl (congrArg some (decide_eq_false (by omega)))) ?_
      | refine wpL_v rfl rfl (by decide) (OpV_cmp rfl rfl rfl (congrArg some (ndec_t (by omega)))) ?_
      | refine wpL_v rfl rfl (by decide) (OpV_cmp rfl rfl rfl (congrArg some (ndec_f (by omega)))) ?_
      | refine wpL_v rfl rfl (by decide) (OpV_move rfl rfl) ?_
      | refine wpL_v rfl rfl (by decide) (OpV_assign rfl rfl) ?_
      | refine wpL_v rfl rfl (by decide) (OpV_cmp rfl rfl rfl rfl) ?_
      | refine wpL_v rfl rfl (by decide) (OpV_add rfl rfl rfl (by omega)) ?_
      | refine wpL_v rfl rfl (by decide) (OpV_sub rfl rfl rfl (by omega)) ?_
      | refine wpL_v rfl rfl (by decide) (OpV_len rfl rfl rfl) ?_
      | refine wpL_v rfl rfl (by decide) (OpV_nilCheck rfl rfl rfl) ?_
      | refine wpL_v rfl rfl (by decide) (OpV_fieldAddr rfl rfl rfl rfl) ?_
      | refine wpL_v rfl rfl (by decide) (OpV_load rfl rfl rfl) ?_
      | refine wpL_v rfl rfl (by decide) (OpV_not rfl rfl) ?_
      | refine wpL_v rfl rfl (by decide) (OpV_extract rfl rfl rfl) ?_
      | refine wpL_v rfl rfl (by decide) (OpV_pick_t rfl rfl (by first | rfl | exact decide_eq_true (by omega)) rfl) ?_
      | refine wpL_v rfl rfl (by decide) (OpV_pick_f rfl rfl (by first | rfl | exact decide_eq_false (by omega)) rfl) ?_
      | refine wpL_v rfl rfl (by decide) (OpV_build rfl rfl rfl rfl) ?_
      | refine wpL_v rfl rfl (by decide) (OpV_max rfl rfl rfl) ?_
      | refine wpL_v rfl rfl (by decide) (OpV_min rfl rfl rfl) ?_
      | refine wpL_v rfl rfl (by decide) (OpV_nilptr rfl rfl rfl) ?_
      | refine wpL_v rfl rfl (by decide) (OpV_beq rfl rfl rfl) ?_
      | refine wpL_v rfl rfl (by decide) (OpV_bne rfl rfl rfl) ?_
      | refine wpL_v rfl rfl (by decide) (OpV_makeFunc rfl rfl) ?_
      | refine wpL_loadH 0 hG rfl rfl (by decide) rfl rfl rfl rfl ?_
      | refine wpL_loadH 1 hG rfl rfl (by decide) rfl rfl rfl rfl ?_
      | refine wpL_loadH 2 hG rfl rfl (by decide) rfl rfl rfl rfl ?_
      | refine wpL_loadH 3 hG rfl rfl (by decide) rfl rfl rfl rfl ?_
      | refine wpL_loadH 4 hG rfl rfl (by decide) rfl rfl rfl rfl ?_
      | refine wpL_loadH 5 hG rfl rfl (by decide) rfl rfl rfl rfl ?_
      | (refine wpL_storeH 0 hG rfl rfl rfl rfl rfl rfl rfl rfl rfl rfl rfl ?_; intro G hG)
      | (refine wpL_storeH 1 hG rfl rfl rfl rfl rfl rfl rfl rfl rfl rfl rfl ?_; intro G hG)
      | (refine wpL_storeH 2 hG rfl rfl rfl rfl rfl rfl rfl rfl rfl rfl rfl ?_; intro G hG)
      | (refine wpL_storeH 3 hG rfl rfl rfl rfl rfl rfl rfl rfl rfl rfl rfl ?_; intro G hG)
      | (refine wpL_storeH 4 hG rfl rfl rfl rfl rfl rfl rfl rfl rfl rfl rfl ?_; intro G hG)
      | (refine wpL_storeH 5 hG rfl rfl rfl rfl rfl rfl rfl rfl rfl rfl rfl ?_; intro G hG)
      | (refine wpL_allocH hG rfl rfl (by decide) rfl rfl ?_; intro id G hG)
      | (refine wpL_boxH hG rfl rfl (by decide) rfl rfl rfl ?_; intro id G hG)
      | (refine wpL_sliceH hG rfl rfl (by decide) rfl rfl rfl rfl rfl rfl rfl rfl ?_; intro id G hG)
      | refine wpL_gt rfl rfl rfl rfl rfl (by decide) (by first | rfl | exact decide_eq_true (by omega) | exact decide_eq_false (by omega) | exact ndec_t (by omega) | exact ndec_f (by omega)) ?_
      | refine wpL_gf rfl rfl rfl rfl rfl (by decide) (by first | rfl | exact decide_eq_true (by omega) | exact decide_eq_false (by omega) | exact ndec_t (by omega) | exact ndec_f (by omega)) ?_
      | refine wpA_ct rfl (by first | rfl | exact decide_eq_true (by omega) | exact ndec_t (by omega)) ?_
      | refine wpA_cf rfl (by first | rfl | exact decide_eq_false (by omega) | exact ndec_f (by omega)) ?_
      | refine wpA_skip ?_
      | refine wpA_exit ?_
      | refine wpA_ret ?_
      | refine x_then_exit ?_
      | refine x_then_ret ?_
      | refine x_then_normal ?_
      | refine x_block_ret ?_
      | refine x_block_normal ?_
      | refine x_block_exit ?_
      | refine x_block_other rfl ?_
      | refine wpL_v rfl rfl (by decide) (OpV_pick_t rfl rfl (ndec_t (by omega)) rfl) ?_
      | refine wpL_v rfl rfl (by decide) (OpV_pick_f rfl rfl (ndec_f (by omega)) rfl) ?_)
    exact postI_1 rfl rfl (.refl _) (.v _) rfl
end Go.Proofs.Ytpkeceifnmmhcaa
