/- The walk of PaginateFits. -/
import Derived.Test.YtpkeceifnmmhcaaPgT
import Derived.Test.YtpkeceifnmmhcaaThSeventeen
namespace Go.Proofs.Ytpkeceifnmmhcaa
open Go.RowKit Go.Th
set_option linter.unusedVariables false
set_option maxRecDepth 20000

set_option maxHeartbeats 8000000 in
theorem fits_iso (l : List Piece) (height : Int) (hlm : l.length ≤ 9223372036854775807) (hh : height ≤ 9223372036854775807) : Iso Try.prog 3 [pcs l, I height] (fun p => p = B true) := by
  have hG := has_nil
  refine Iso_enter Try.func3 rfl rfl rfl ?_
  have hfew := few_iso l hlm
  have hkn := known_iso
  have hl := fewL_ok l
  have hl40 := fewL_len l
  generalize fewL l = fl at hfew hl hl40
  by_cases h1 : height < 1
  · skip
    repeat (first
      | refine wpL_end ?_
      | refine wpL_nil ?_
      | refine wpA_seq ?_
      | refine wpA_region ?_
      | refine wpA_block ?_
      | (refine wpL_is rfl rfl rfl rfl rfl rfl (by decide) hfew (TreeL.cons (tree_pcs l) TreeL.nil) ?_; rintro _ rfl)
      | (refine wpL_is rfl rfl rfl rfl rfl rfl (by decide) hkn TreeL.nil ?_; rintro _ rfl)
      | refine wpL_v rfl rfl (by decide) (OpV_move rfl rfl) ?_
      | refine wpL_v rfl rfl (by decide) (OpV_assign rfl rfl) ?_
      | refine wpL_v rfl rfl (by decide) (OpV_cmp rfl rfl rfl rfl) ?_
      | refine wpL_v rfl rfl (by decide) (OpV_add rfl rfl rfl (by omega)) ?_
      | refine wpL_v rfl rfl (by decide) (OpV_sub rfl rfl rfl (by omega)) ?_
      | refine wpL_v rfl rfl (by decide) (OpV_len rfl rfl rfl) ?_
      | refine wpL_v rfl rfl (by decide) (OpV_nilCheck rfl rfl rfl) ?_
      | refine wpL_v rfl rfl (by decide) (OpV_fieldAddr rfl rfl rfl rfl) ?_
      | refine wpL_v rfl rfl (by decide) (OpV_load rfl rfl rfl) ?_
      | refine wpL_v rfl rfl (by decide) (OpV_not rfl rfl) ?_
      | refine wpL_v rfl rfl (by decide) (OpV_extract rfl rfl rfl) ?_
      | refine wpL_v rfl rfl (by decide) (OpV_pick_t rfl rfl (by first | rfl | exact decide_eq_true (by omega)) rfl) ?_
      | refine wpL_v rfl rfl (by decide) (OpV_pick_f rfl rfl (by first | rfl | exact decide_eq_false (by omega)) rfl) ?_
      | refine wpL_v rfl rfl (by decide) (OpV_build rfl rfl rfl rfl) ?_
      | refine wpL_v rfl rfl (by decide) (OpV_max rfl rfl rfl) ?_
      | refine wpL_v rfl rfl (by decide) (OpV_min rfl rfl rfl) ?_
      | refine wpL_v rfl rfl (by decide) (OpV_nilptr rfl rfl rfl) ?_
      | refine wpL_v rfl rfl (by decide) (OpV_beq rfl rfl rfl) ?_
      | refine wpL_v rfl rfl (by decide) (OpV_bne rfl rfl rfl) ?_
      | refine wpL_v rfl rfl (by decide) (OpV_makeFunc rfl rfl) ?_
      | refine wpL_loadH 0 hG rfl rfl (by decide) rfl rfl rfl rfl ?_
      | refine wpL_loadH 1 hG rfl rfl (by decide) rfl rfl rfl rfl ?_
      | refine wpL_loadH 2 hG rfl rfl (by decide) rfl rfl rfl rfl ?_
      | refine wpL_loadH 3 hG rfl rfl (by decide) rfl rfl rfl rfl ?_
      | refine wpL_loadH 4 hG rfl rfl (by decide) rfl rfl rfl rfl ?_
      | refine wpL_loadH 5 hG rfl rfl (by decide) rfl rfl rfl rfl ?_
      | (refine wpL_storeH 0 hG rfl rfl rfl rfl rfl rfl rfl rfl rfl rfl rfl ?_; intro G hG)
      | (refine wpL_storeH 1 hG rfl rfl rfl rfl rfl rfl rfl rfl rfl rfl rfl ?_; intro G hG)
      | (refine wpL_storeH 2 hG rfl rfl rfl rfl rfl rfl rfl rfl rfl rfl rfl ?_; intro G hG)
      | (refine wpL_storeH 3 hG rfl rfl rfl rfl rfl rfl rfl rfl rfl rfl rfl ?_; intro G hG)
      | (refine wpL_storeH 4 hG rfl rfl rfl rfl rfl rfl rfl rfl rfl rfl rfl ?_; intro G hG)
      | (refine wpL_storeH 5 hG rfl rfl rfl rfl rfl rfl rfl rfl rfl rfl rfl ?_; intro G hG)
      | (refine wpL_allocH hG rfl rfl (by decide) rfl rfl ?_; intro id G hG)
      | (refine wpL_boxH hG rfl rfl (by decide) rfl rfl rfl ?_; intro id G hG)
      | (refine wpL_sliceH hG rfl rfl (by decide) rfl rfl rfl rfl rfl rfl rfl rfl ?_; intro id G hG)
      | refine wpL_gt rfl rfl rfl rfl rfl (by decide) (by first | rfl | exact decide_eq_true (by omega) | exact decide_eq_false (by omega) | exact ndec_t (by omega) | exact ndec_f (by omega)) ?_
      | refine wpL_gf rfl rfl rfl rfl rfl (by decide) (by first | rfl | exact decide_eq_true (by omega) | exact decide_eq_false (by omega) | exact ndec_t (by omega) | exact ndec_f (by omega)) ?_
      | refine wpA_ct rfl (by first | rfl | exact decide_eq_true (by omega) | exact ndec_t (by omega)) ?_
      | refine wpA_cf rfl (by first | rfl | exact decide_eq_false (by omega) | exact ndec_f (by omega)) ?_
      | refine wpA_skip ?_
      | refine wpA_exit ?_
      | refine wpA_ret ?_
      | refine x_then_exit ?_
      | refine x_then_ret ?_
      | refine x_then_normal ?_
      | refine x_block_ret ?_
      | refine x_block_normal ?_
      | refine x_block_exit ?_
      | refine x_block_other rfl ?_
      | refine wpL_v rfl rfl (by decide) (OpV_pick_t rfl rfl (ndec_t (by omega)) rfl) ?_
      | refine wpL_v rfl rfl (by decide) (OpV_pick_f rfl rfl (ndec_f (by omega)) rfl) ?_)
    exact postI_1 rfl rfl (.refl _) (.v _) rfl
  have hbl : (breaksL fl height).length ≤ 60 := by
    have := brk_len fl height fl.length 0
    simp only [breaksL, List.length_map]; omega
  have hbn := breaksL_none fl height
  have hen := endsN_int fl height
  have hpairs := @page_fits fl height
  have hfst := (endsN_pairs fl height).1
  have hlenE : (endsN fl height).length = (breaksL fl height).length + 1 := by
    have := congrArg List.length hen
    simpa using this.symm
  have hne : (breaksL fl height).length = 0 → fl.length = 0 := fun h => hbn (List.length_eq_zero_iff.1 h)
  generalize endsN fl height = es at hen hpairs hfst hlenE
  repeat (first
    | refine wpL_end ?_
    | refine wpL_nil ?_
    | refine wpA_seq ?_
    | refine wpA_region ?_
    | refine wpA_block ?_
    | (refine wpL_is rfl rfl rfl rfl rfl rfl (by decide) hfew (TreeL.cons (tree_pcs l) TreeL.nil) ?_; rintro _ rfl)
    | (refine wpL_is rfl rfl rfl rfl rfl rfl (by decide) hkn TreeL.nil ?_; rintro _ rfl)
    | refine wpL_v rfl rfl (by decide) (OpV_move rfl rfl) ?_
    | refine wpL_v rfl rfl (by decide) (OpV_assign rfl rfl) ?_
    | refine wpL_v rfl rfl (by decide) (OpV_cmp rfl rfl rfl rfl) ?_
    | refine wpL_v rfl rfl (by decide) (OpV_add rfl rfl rfl (by omega)) ?_
    | refine wpL_v rfl rfl (by decide) (OpV_sub rfl rfl rfl (by omega)) ?_
    | refine wpL_v rfl rfl (by decide) (OpV_len rfl rfl rfl) ?_
    | refine wpL_v rfl rfl (by decide) (OpV_nilCheck rfl rfl rfl) ?_
    | refine wpL_v rfl rfl (by decide) (OpV_fieldAddr rfl rfl rfl rfl) ?_
    | refine wpL_v rfl rfl (by decide) (OpV_load rfl rfl rfl) ?_
    | refine wpL_v rfl rfl (by decide) (OpV_not rfl rfl) ?_
    | refine wpL_v rfl rfl (by decide) (OpV_extract rfl rfl rfl) ?_
    | refine wpL_v rfl rfl (by decide) (OpV_pick_t rfl rfl (by first | rfl | exact decide_eq_true (by omega)) rfl) ?_
    | refine wpL_v rfl rfl (by decide) (OpV_pick_f rfl rfl (by first | rfl | exact decide_eq_false (by omega)) rfl) ?_
    | refine wpL_v rfl rfl (by decide) (OpV_build rfl rfl rfl rfl) ?_
    | refine wpL_v rfl rfl (by decide) (OpV_max rfl rfl rfl) ?_
    | refine wpL_v rfl rfl (by decide) (OpV_min rfl rfl rfl) ?_
    | refine wpL_v rfl rfl (by decide) (OpV_nilptr rfl rfl rfl) ?_
    | refine wpL_v rfl rfl (by decide) (OpV_beq rfl rfl rfl) ?_
    | refine wpL_v rfl rfl (by decide) (OpV_bne rfl rfl rfl) ?_
    | refine wpL_v rfl rfl (by decide) (OpV_makeFunc rfl rfl) ?_
    | refine wpL_loadH 0 hG rfl rfl (by decide) rfl rfl rfl rfl ?_
    | refine wpL_loadH 1 hG rfl rfl (by decide) rfl rfl rfl rfl ?_
    | refine wpL_loadH 2 hG rfl rfl (by decide) rfl rfl rfl rfl ?_
    | refine wpL_loadH 3 hG rfl rfl (by decide) rfl rfl rfl rfl ?_
    | refine wpL_loadH 4 hG rfl rfl (by decide) rfl rfl rfl rfl ?_
    | refine wpL_loadH 5 hG rfl rfl (by decide) rfl rfl rfl rfl ?_
    | (refine wpL_storeH 0 hG rfl rfl rfl rfl rfl rfl rfl rfl rfl rfl rfl ?_; intro G hG)
    | (refine wpL_storeH 1 hG rfl rfl rfl rfl rfl rfl rfl rfl rfl rfl rfl ?_; intro G hG)
    | (refine wpL_storeH 2 hG rfl rfl rfl rfl rfl rfl rfl rfl rfl rfl rfl ?_; intro G hG)
    | (refine wpL_storeH 3 hG rfl rfl rfl rfl rfl rfl rfl rfl rfl rfl rfl ?_; intro G hG)
    | (refine wpL_storeH 4 hG rfl rfl rfl rfl rfl rfl rfl rfl rfl rfl rfl ?_; intro G hG)
    | (refine wpL_storeH 5 hG rfl rfl rfl rfl rfl rfl rfl rfl rfl rfl rfl ?_; intro G hG)
    | (refine wpL_allocH hG rfl rfl (by decide) rfl rfl ?_; intro id G hG)
    | (refine wpL_boxH hG rfl rfl (by decide) rfl rfl rfl ?_; intro id G hG)
    | (refine wpL_sliceH hG rfl rfl (by decide) rfl rfl rfl rfl rfl rfl rfl rfl ?_; intro id G hG)
    | refine wpL_gt rfl rfl rfl rfl rfl (by decide) (by first | rfl | exact decide_eq_true (by omega) | exact decide_eq_false (by omega) | exact ndec_t (by omega) | exact ndec_f (by omega)) ?_
    | refine wpL_gf rfl rfl rfl rfl rfl (by decide) (by first | rfl | exact decide_eq_true (by omega) | exact decide_eq_false (by omega) | exact ndec_t (by omega) | exact ndec_f (by omega)) ?_
    | refine wpA_ct rfl (by first | rfl | exact decide_eq_true (by omega) | exact ndec_t (by omega)) ?_
    | refine wpA_cf rfl (by first | rfl | exact decide_eq_false (by omega) | exact ndec_f (by omega)) ?_
    | refine wpA_skip ?_
    | refine wpA_exit ?_
    | refine wpA_ret ?_
    | refine x_then_exit ?_
    | refine x_then_ret ?_
    | refine x_then_normal ?_
    | refine x_block_ret ?_
    | refine x_block_normal ?_
    | refine x_block_exit ?_
    | refine x_block_other rfl ?_
    | refine wpL_v rfl rfl (by decide) (OpV_pick_t rfl rfl (ndec_t (by omega)) rfl) ?_
    | refine wpL_v rfl rfl (by decide) (OpV_pick_f rfl rfl (ndec_f (by omega)) rfl) ?_)
  refine wpL_ac rfl rfl rfl rfl rfl rfl (by decide) (Breaks_ac fl height hl (by omega) hG) ?_
  rintro _ G ⟨bid, rfl, hG⟩
  repeat (first
    | refine wpL_v rfl rfl (by decide) (OpV_move rfl rfl) ?_
    | refine wpL_v rfl rfl (by decide) (OpV_assign rfl rfl) ?_
    | refine wpL_v rfl rfl (by decide) (OpV_cmp rfl rfl rfl rfl) ?_
    | refine wpL_v rfl rfl (by decide) (OpV_add rfl rfl rfl (by omega)) ?_
    | refine wpL_v rfl rfl (by decide) (OpV_sub rfl rfl rfl (by omega)) ?_
    | refine wpL_v rfl rfl (by decide) (OpV_len rfl rfl rfl) ?_
    | refine wpL_v rfl rfl (by decide) (OpV_nilCheck rfl rfl rfl) ?_
    | refine wpL_v rfl rfl (by decide) (OpV_fieldAddr rfl rfl rfl rfl) ?_
    | refine wpL_v rfl rfl (by decide) (OpV_load rfl rfl rfl) ?_
    | refine wpL_v rfl rfl (by decide) (OpV_not rfl rfl) ?_
    | refine wpL_v rfl rfl (by decide) (OpV_extract rfl rfl rfl) ?_
    | refine wpL_v rfl rfl (by decide) (OpV_pick_t rfl rfl (by first | rfl | exact decide_eq_true (by omega)) rfl) ?_
    | refine wpL_v rfl rfl (by decide) (OpV_pick_f rfl rfl (by first | rfl | exact decide_eq_false (by omega)) rfl) ?_
    | refine wpL_v rfl rfl (by decide) (OpV_build rfl rfl rfl rfl) ?_
    | refine wpL_v rfl rfl (by decide) (OpV_max rfl rfl rfl) ?_
    | refine wpL_v rfl rfl (by decide) (OpV_min rfl rfl rfl) ?_
    | refine wpL_v rfl rfl (by decide) (OpV_nilptr rfl rfl rfl) ?_
    | refine wpL_v rfl rfl (by decide) (OpV_beq rfl rfl rfl) ?_
    | refine wpL_v rfl rfl (by decide) (OpV_bne rfl rfl rfl) ?_
    | refine wpL_v rfl rfl (by decide) (OpV_makeFunc rfl rfl) ?_
    | refine wpL_loadH 0 hG rfl rfl (by decide) rfl rfl rfl rfl ?_
    | refine wpL_loadH 1 hG rfl rfl (by decide) rfl rfl rfl rfl ?_
    | refine wpL_loadH 2 hG rfl rfl (by decide) rfl rfl rfl rfl ?_
    | refine wpL_loadH 3 hG rfl rfl (by decide) rfl rfl rfl rfl ?_
    | refine wpL_loadH 4 hG rfl rfl (by decide) rfl rfl rfl rfl ?_
    | refine wpL_loadH 5 hG rfl rfl (by decide) rfl rfl rfl rfl ?_
    | (refine wpL_storeH 0 hG rfl rfl rfl rfl rfl rfl rfl rfl rfl rfl rfl ?_; intro G hG)
    | (refine wpL_storeH 1 hG rfl rfl rfl rfl rfl rfl rfl rfl rfl rfl rfl ?_; intro G hG)
    | (refine wpL_storeH 2 hG rfl rfl rfl rfl rfl rfl rfl rfl rfl rfl rfl ?_; intro G hG)
    | (refine wpL_storeH 3 hG rfl rfl rfl rfl rfl rfl rfl rfl rfl rfl rfl ?_; intro G hG)
    | (refine wpL_storeH 4 hG rfl rfl rfl rfl rfl rfl rfl rfl rfl rfl rfl ?_; intro G hG)
    | (refine wpL_storeH 5 hG rfl rfl rfl rfl rfl rfl rfl rfl rfl rfl rfl ?_; intro G hG)
    | (refine wpL_allocH hG rfl rfl (by decide) rfl rfl ?_; intro id G hG)
    | (refine wpL_boxH hG rfl rfl (by decide) rfl rfl rfl ?_; intro id G hG)
    | (refine wpL_sliceH hG rfl rfl (by decide) rfl rfl rfl rfl rfl rfl rfl rfl ?_; intro id G hG)
    | refine wpL_gt rfl rfl rfl rfl rfl (by decide) (by first | rfl | exact decide_eq_true (by omega) | exact decide_eq_false (by omega) | exact ndec_t (by omega) | exact ndec_f (by omega)) ?_
    | refine wpL_gf rfl rfl rfl rfl rfl (by decide) (by first | rfl | exact decide_eq_true (by omega) | exact decide_eq_false (by omega) | exact ndec_t (by omega) | exact ndec_f (by omega)) ?_)
  refine wpL_end ?_
  refine wpA_seq ?_
  refine wpA_cut2 (S := Unit) (fun _ => [(0, pcs fl), (1, I height), (5, .sl bid 0 (breaksL fl height).length 1), (36, B false)]) (fun _ G => Has G [(bid, ⟨(breaksL fl height).map I, 3, true⟩)]) ?_ ?_
  · by_cases hz : (breaksL fl height).length = 0
    · have hz2 := hne hz
      repeat (first
        | refine wpL_end ?_
        | refine wpL_nil ?_
        | refine wpA_seq ?_
        | refine wpA_region ?_
        | refine wpA_block ?_
        | refine wpL_v rfl rfl (by decide) (OpV_move rfl rfl) ?_
        | refine wpL_v rfl rfl (by decide) (OpV_assign rfl rfl) ?_
        | refine wpL_v rfl rfl (by decide) (OpV_cmp rfl rfl rfl rfl) ?_
        | refine wpL_v rfl rfl (by decide) (OpV_add rfl rfl rfl (by omega)) ?_
        | refine wpL_v rfl rfl (by decide) (OpV_sub rfl rfl rfl (by omega)) ?_
        | refine wpL_v rfl rfl (by decide) (OpV_len rfl rfl rfl) ?_
        | refine wpL_v rfl rfl (by decide) (OpV_nilCheck rfl rfl rfl) ?_
        | refine wpL_v rfl rfl (by decide) (OpV_fieldAddr rfl rfl rfl rfl) ?_
        | refine wpL_v rfl rfl (by decide) (OpV_load rfl rfl rfl) ?_
        | refine wpL_v rfl rfl (by decide) (OpV_not rfl rfl) ?_
        | refine wpL_v rfl rfl (by decide) (OpV_extract rfl rfl rfl) ?_
        | refine wpL_v rfl rfl (by decide) (OpV_pick_t rfl rfl (by first | rfl | exact decide_eq_true (by omega)) rfl) ?_
        | refine wpL_v rfl rfl (by decide) (OpV_pick_f rfl rfl (by first | rfl | exact decide_eq_false (by omega)) rfl) ?_
        | refine wpL_v rfl rfl (by decide) (OpV_build rfl rfl rfl rfl) ?_
        | refine wpL_v rfl rfl (by decide) (OpV_max rfl rfl rfl) ?_
        | refine wpL_v rfl rfl (by decide) (OpV_min rfl rfl rfl) ?_
        | refine wpL_v rfl rfl (by decide) (OpV_nilptr rfl rfl rfl) ?_
        | refine wpL_v rfl rfl (by decide) (OpV_beq rfl rfl rfl) ?_
        | refine wpL_v rfl rfl (by decide) (OpV_bne rfl rfl rfl) ?_
        | refine wpL_v rfl rfl (by decide) (OpV_makeFunc rfl rfl) ?_
        | refine wpL_loadH 0 hG rfl rfl (by decide) rfl rfl rfl rfl ?_
        | refine wpL_loadH 1 hG rfl rfl (by decide) rfl rfl rfl rfl ?_
        | refine wpL_loadH 2 hG rfl rfl (by decide) rfl rfl rfl rfl ?_
        | refine wpL_loadH 3 hG rfl rfl (by decide) rfl rfl rfl rfl ?_
        | refine wpL_loadH 4 hG rfl rfl (by decide) rfl rfl rfl rfl ?_
        | refine wpL_loadH 5 hG rfl rfl (by decide) rfl rfl rfl rfl ?_
        | (refine wpL_storeH 0 hG rfl rfl rfl rfl rfl rfl rfl rfl rfl rfl rfl ?_; intro G hG)
        | (refine wpL_storeH 1 hG rfl rfl rfl rfl rfl rfl rfl rfl rfl rfl rfl ?_; intro G hG)
        | (refine wpL_storeH 2 hG rfl rfl rfl rfl rfl rfl rfl rfl rfl rfl rfl ?_; intro G hG)
        | (refine wpL_storeH 3 hG rfl rfl rfl rfl rfl rfl rfl rfl rfl rfl rfl ?_; intro G hG)
        | (refine wpL_storeH 4 hG rfl rfl rfl rfl rfl rfl rfl rfl rfl rfl rfl ?_; intro G hG)
        | (refine wpL_storeH 5 hG rfl rfl rfl rfl rfl rfl rfl rfl rfl rfl rfl ?_; intro G hG)
        | (refine wpL_allocH hG rfl rfl (by decide) rfl rfl ?_; intro id G hG)
        | (refine wpL_boxH hG rfl rfl (by decide) rfl rfl rfl ?_; intro id G hG)
        | (refine wpL_sliceH hG rfl rfl (by decide) rfl rfl rfl rfl rfl rfl rfl rfl ?_; intro id G hG)
        | refine wpL_gt rfl rfl rfl rfl rfl (by decide) (by first | rfl | exact decide_eq_true (by omega) | exact decide_eq_false (by omega) | exact ndec_t (by omega) | exact ndec_f (by omega)) ?_
        | refine wpL_gf rfl rfl rfl rfl rfl (by decide) (by first | rfl | exact decide_eq_true (by omega) | exact decide_eq_false (by omega) | exact ndec_t (by omega) | exact ndec_f (by omega)) ?_
        | refine wpA_ct rfl (by first | rfl | exact decide_eq_true (by omega) | exact ndec_t (by omega)) ?_
        | refine wpA_cf rfl (by first | rfl | exact decide_eq_false (by omega) | exact ndec_f (by omega)) ?_
        | refine wpA_skip ?_
        | refine wpA_exit ?_
        | refine wpA_ret ?_
        | refine x_then_exit ?_
        | refine x_then_ret ?_
        | refine x_then_normal ?_
        | refine x_block_ret ?_
        | refine x_block_normal ?_
        | refine x_block_exit ?_
        | refine x_block_other rfl ?_
        | refine wpL_v rfl rfl (by decide) (OpV_pick_t rfl rfl (ndec_t (by omega)) rfl) ?_
        | refine wpL_v rfl rfl (by decide) (OpV_pick_f rfl rfl (ndec_f (by omega)) rfl) ?_)
      exact ⟨(), .cons rfl (.cons rfl (.cons rfl (.cons (congrArg (fun b => some (B b)) (decide_eq_false (by omega))) (.nil _)))), hG⟩
    · repeat (first
        | refine wpL_end ?_
        | refine wpL_nil ?_
        | refine wpA_seq ?_
        | refine wpA_region ?_
        | refine wpA_block ?_
        | refine wpL_v rfl rfl (by decide) (OpV_move rfl rfl) ?_
        | refine wpL_v rfl rfl (by decide) (OpV_assign rfl rfl) ?_
        | refine wpL_v rfl rfl (by decide) (OpV_cmp rfl rfl rfl rfl) ?_
        | refine wpL_v rfl rfl (by decide) (OpV_add rfl rfl rfl (by omega)) ?_
        | refine wpL_v rfl rfl (by decide) (OpV_sub rfl rfl rfl (by omega)) ?_
        | refine wpL_v rfl rfl (by decide) (OpV_len rfl rfl rfl) ?_
        | refine wpL_v rfl rfl (by decide) (OpV_nilCheck rfl rfl rfl) ?_
        | refine wpL_v rfl rfl (by decide) (OpV_fieldAddr rfl rfl rfl rfl) ?_
        | refine wpL_v rfl rfl (by decide) (OpV_load rfl rfl rfl) ?_
        | refine wpL_v rfl rfl (by decide) (OpV_not rfl rfl) ?_
        | refine wpL_v rfl rfl (by decide) (OpV_extract rfl rfl rfl) ?_
        | refine wpL_v rfl rfl (by decide) (OpV_pick_t rfl rfl (by first | rfl | exact decide_eq_true (by omega)) rfl) ?_
        | refine wpL_v rfl rfl (by decide) (OpV_pick_f rfl rfl (by first | rfl | exact decide_eq_false (by omega)) rfl) ?_
        | refine wpL_v rfl rfl (by decide) (OpV_build rfl rfl rfl rfl) ?_
        | refine wpL_v rfl rfl (by decide) (OpV_max rfl rfl rfl) ?_
        | refine wpL_v rfl rfl (by decide) (OpV_min rfl rfl rfl) ?_
        | refine wpL_v rfl rfl (by decide) (OpV_nilptr rfl rfl rfl) ?_
        | refine wpL_v rfl rfl (by decide) (OpV_beq rfl rfl rfl) ?_
        | refine wpL_v rfl rfl (by decide) (OpV_bne rfl rfl rfl) ?_
        | refine wpL_v rfl rfl (by decide) (OpV_makeFunc rfl rfl) ?_
        | refine wpL_loadH 0 hG rfl rfl (by decide) rfl rfl rfl rfl ?_
        | refine wpL_loadH 1 hG rfl rfl (by decide) rfl rfl rfl rfl ?_
        | refine wpL_loadH 2 hG rfl rfl (by decide) rfl rfl rfl rfl ?_
        | refine wpL_loadH 3 hG rfl rfl (by decide) rfl rfl rfl rfl ?_
        | refine wpL_loadH 4 hG rfl rfl (by decide) rfl rfl rfl rfl ?_
        | refine wpL_loadH 5 hG rfl rfl (by decide) rfl rfl rfl rfl ?_
        | (refine wpL_storeH 0 hG rfl rfl rfl rfl rfl rfl rfl rfl rfl rfl rfl ?_; intro G hG)
        | (refine wpL_storeH 1 hG rfl rfl rfl rfl rfl rfl rfl rfl rfl rfl rfl ?_; intro G hG)
        | (refine wpL_storeH 2 hG rfl rfl rfl rfl rfl rfl rfl rfl rfl rfl rfl ?_; intro G hG)
        | (refine wpL_storeH 3 hG rfl rfl rfl rfl rfl rfl rfl rfl rfl rfl rfl ?_; intro G hG)
        | (refine wpL_storeH 4 hG rfl rfl rfl rfl rfl rfl rfl rfl rfl rfl rfl ?_; intro G hG)
        | (refine wpL_storeH 5 hG rfl rfl rfl rfl rfl rfl rfl rfl rfl rfl rfl ?_; intro G hG)
        | (refine wpL_allocH hG rfl rfl (by decide) rfl rfl ?_; intro id G hG)
        | (refine wpL_boxH hG rfl rfl (by decide) rfl rfl rfl ?_; intro id G hG)
        | (refine wpL_sliceH hG rfl rfl (by decide) rfl rfl rfl rfl rfl rfl rfl rfl ?_; intro id G hG)
        | refine wpL_gt rfl rfl rfl rfl rfl (by decide) (by first | rfl | exact decide_eq_true (by omega) | exact decide_eq_false (by omega) | exact ndec_t (by omega) | exact ndec_f (by omega)) ?_
        | refine wpL_gf rfl rfl rfl rfl rfl (by decide) (by first | rfl | exact decide_eq_true (by omega) | exact decide_eq_false (by omega) | exact ndec_t (by omega) | exact ndec_f (by omega)) ?_
        | refine wpA_ct rfl (by first | rfl | exact decide_eq_true (by omega) | exact ndec_t (by omega)) ?_
        | refine wpA_cf rfl (by first | rfl | exact decide_eq_false (by omega) | exact ndec_f (by omega)) ?_
        | refine wpA_skip ?_
        | refine wpA_exit ?_
        | refine wpA_ret ?_
        | refine x_then_exit ?_
        | refine x_then_ret ?_
        | refine x_then_normal ?_
        | refine x_block_ret ?_
        | refine x_block_normal ?_
        | refine x_block_exit ?_
        | refine x_block_other rfl ?_
        | refine wpL_v rfl rfl (by decide) (OpV_pick_t rfl rfl (ndec_t (by omega)) rfl) ?_
        | refine wpL_v rfl rfl (by decide) (OpV_pick_f rfl rfl (ndec_f (by omega)) rfl) ?_)
      exact ⟨(), .cons rfl (.cons rfl (.cons rfl (.cons rfl (.nil _)))), hG⟩
  rintro _ G hG
  repeat (first
    | refine wpL_end ?_
    | refine wpL_nil ?_
    | refine wpA_seq ?_
    | refine wpA_region ?_
    | refine wpA_block ?_
    | (refine wpL_appendH 1 hG rfl rfl (by decide) rfl rfl rfl rfl rfl rfl (by simp) rfl (hG.cellsOf (k := 0) rfl rfl) rfl (by omega) (by omega) ?_; intro id2 G hG)
    | refine wpL_v rfl rfl (by decide) (OpV_move rfl rfl) ?_
    | refine wpL_v rfl rfl (by decide) (OpV_assign rfl rfl) ?_
    | refine wpL_v rfl rfl (by decide) (OpV_cmp rfl rfl rfl rfl) ?_
    | refine wpL_v rfl rfl (by decide) (OpV_add rfl rfl rfl (by omega)) ?_
    | refine wpL_v rfl rfl (by decide) (OpV_sub rfl rfl rfl (by omega)) ?_
    | refine wpL_v rfl rfl (by decide) (OpV_len rfl rfl rfl) ?_
    | refine wpL_v rfl rfl (by decide) (OpV_nilCheck rfl rfl rfl) ?_
    | refine wpL_v rfl rfl (by decide) (OpV_fieldAddr rfl rfl rfl rfl) ?_
    | refine wpL_v rfl rfl (by decide) (OpV_load rfl rfl rfl) ?_
    | refine wpL_v rfl rfl (by decide) (OpV_not rfl rfl) ?_
    | refine wpL_v rfl rfl (by decide) (OpV_extract rfl rfl rfl) ?_
    | refine wpL_v rfl rfl (by decide) (OpV_pick_t rfl rfl (by first | rfl | exact decide_eq_true (by omega)) rfl) ?_
    | refine wpL_v rfl rfl (by decide) (OpV_pick_f rfl rfl (by first | rfl | exact decide_eq_false (by omega)) rfl) ?_
    | refine wpL_v rfl rfl (by decide) (OpV_build rfl rfl rfl rfl) ?_
    | refine wpL_v rfl rfl (by decide) (OpV_max rfl rfl rfl) ?_
    | refine wpL_v rfl rfl (by decide) (OpV_min rfl rfl rfl) ?_
    | refine wpL_v rfl rfl (by decide) (OpV_nilptr rfl rfl rfl) ?_
    | refine wpL_v rfl rfl (by decide) (OpV_beq rfl rfl rfl) ?_
    | refine wpL_v rfl rfl (by decide) (OpV_bne rfl rfl rfl) ?_
    | refine wpL_v rfl rfl (by decide) (OpV_makeFunc rfl rfl) ?_
    | refine wpL_loadH 0 hG rfl rfl (by decide) rfl rfl rfl rfl ?_
    | refine wpL_loadH 1 hG rfl rfl (by decide) rfl rfl rfl rfl ?_
    | refine wpL_loadH 2 hG rfl rfl (by decide) rfl rfl rfl rfl ?_
    | refine wpL_loadH 3 hG rfl rfl (by decide) rfl rfl rfl rfl ?_
    | refine wpL_loadH 4 hG rfl rfl (by decide) rfl rfl rfl rfl ?_
    | refine wpL_loadH 5 hG rfl rfl (by decide) rfl rfl rfl rfl ?_
    | (refine wpL_storeH 0 hG rfl rfl rfl rfl rfl rfl rfl rfl rfl rfl rfl ?_; intro G hG)
    | (refine wpL_storeH 1 hG rfl rfl rfl rfl rfl rfl rfl rfl rfl rfl rfl ?_; intro G hG)
    | (refine wpL_storeH 2 hG rfl rfl rfl rfl rfl rfl rfl rfl rfl rfl rfl ?_; intro G hG)
    | (refine wpL_storeH 3 hG rfl rfl rfl rfl rfl rfl rfl rfl rfl rfl rfl ?_; intro G hG)
    | (refine wpL_storeH 4 hG rfl rfl rfl rfl rfl rfl rfl rfl rfl rfl rfl ?_; intro G hG)
    | (refine wpL_storeH 5 hG rfl rfl rfl rfl rfl rfl rfl rfl rfl rfl rfl ?_; intro G hG)
    | (refine wpL_allocH hG rfl rfl (by decide) rfl rfl ?_; intro id G hG)
    | (refine wpL_boxH hG rfl rfl (by decide) rfl rfl rfl ?_; intro id G hG)
    | (refine wpL_sliceH hG rfl rfl (by decide) rfl rfl rfl rfl rfl rfl rfl rfl ?_; intro id G hG)
    | refine wpL_gt rfl rfl rfl rfl rfl (by decide) (by first | rfl | exact decide_eq_true (by omega) | exact decide_eq_false (by omega) | exact ndec_t (by omega) | exact ndec_f (by omega)) ?_
    | refine wpL_gf rfl rfl rfl rfl rfl (by decide) (by first | rfl | exact decide_eq_true (by omega) | exact decide_eq_false (by omega) | exact ndec_t (by omega) | exact ndec_f (by omega)) ?_
    | refine wpA_ct rfl (by first | rfl | exact decide_eq_true (by omega) | exact ndec_t (by omega)) ?_
    | refine wpA_cf rfl (by first | rfl | exact decide_eq_false (by omega) | exact ndec_f (by omega)) ?_
    | refine wpA_skip ?_
    | refine wpA_exit ?_
    | refine wpA_ret ?_
    | refine x_then_exit ?_
    | refine x_then_ret ?_
    | refine x_then_normal ?_
    | refine x_block_ret ?_
    | refine x_block_normal ?_
    | refine x_block_exit ?_
    | refine x_block_other rfl ?_
    | refine wpL_v rfl rfl (by decide) (OpV_pick_t rfl rfl (ndec_t (by omega)) rfl) ?_
    | refine wpL_v rfl rfl (by decide) (OpV_pick_f rfl rfl (ndec_f (by omega)) rfl) ?_)
  have hc : (breaksL fl height).map I ++ [I fl.length] = (es.map Int.ofNat).map I := by rw [← hen]; simp
  refine wpA_altC 1 hG rfl (cs := (es.map Int.ofNat).map I) (by rw [← hc]; exact WkL.refl _) ?_
  intro G hG
  refine wpA_freeze 5 rfl (hG.get 1 _ _ rfl) (takeN_all (by simp only [List.length_map]; omega)) ?_
  clear hG hbn hkn hfew
  have hes : ∀ (k x : Nat), es[k]? = some x → takeN 1 (((es.map Int.ofNat).map I).drop (k * 1)) = some [I (x : Int)] := fun k x h => int_spot (l := es.map Int.ofNat) (by simp [h])
  refine wpA_loopS (S := Nat) (fun i => [(0, pcs fl), (1, I height), (5, .tr ((es.map Int.ofNat).map I) ((breaksL fl height).length + 1) 1), (7, I i)])
    (fun i G => i ≤ es.length) (fun i => es.length - i) 0
    (.cons rfl (.cons rfl (.cons rfl (.cons rfl (.nil _))))) (by omega) ?_
  rintro i G hi
  have hG := Has.nil G
  by_cases hil : i + 1 < es.length
  · obtain ⟨x, hx⟩ : ∃ x, es[i]? = some x := ⟨_, List.getElem?_eq_getElem (by omega)⟩
    obtain ⟨y, hy⟩ : ∃ y, es[i + 1]? = some y := ⟨_, List.getElem?_eq_getElem hil⟩
    obtain ⟨p1, p2, p3⟩ := hpairs hx hy
    have hp := Place_main fl x (y - x) 1 height hl (by omega) (by omega) (by omega) (by omega) hh
    rw [show x + (y - x) = y from by omega] at hp
    obtain ⟨sS, sF, us, ov, e0, hov⟩ : ∃ sS sF us ov, encPage (placeF fl x (y - x) 1 height) = [I 0, I 0, .v (.string .empty), I 1, I height, slotsP sS, slotsP sF, I us, I ov] ∧ ov = (placeF fl x (y - x) 1 height).over := ⟨_, _, _, _, rfl, rfl⟩
    rw [e0] at hp
    rw [← hov] at p3
    clear hov e0
    have hy2 := hes _ _ hy
    rw [show ((i + 1 : Nat) : Nat) * 1 = (i + 1) * 1 from rfl] at hy2
    repeat (first
      | refine wpL_end ?_
      | refine wpL_nil ?_
      | refine wpA_seq ?_
      | refine wpA_region ?_
      | refine wpA_block ?_
      | refine wpL_v rfl rfl (by decide) (OpV_move rfl rfl) ?_
      | refine wpL_v rfl rfl (by decide) (OpV_assign rfl rfl) ?_
      | refine wpL_v rfl rfl (by decide) (OpV_cmp rfl rfl rfl rfl) ?_
      | refine wpL_v rfl rfl (by decide) (OpV_add rfl rfl rfl (by omega)) ?_
      | refine wpL_v rfl rfl (by decide) (OpV_sub rfl rfl rfl (by omega)) ?_
      | refine wpL_v rfl rfl (by decide) (OpV_len rfl rfl rfl) ?_
      | refine wpL_v rfl rfl (by decide) (OpV_nilCheck rfl rfl rfl) ?_
      | refine wpL_v rfl rfl (by decide) (OpV_fieldAddr rfl rfl rfl rfl) ?_
      | refine wpL_v rfl rfl (by decide) (OpV_load rfl rfl rfl) ?_
      | refine wpL_v rfl rfl (by decide) (OpV_not rfl rfl) ?_
      | refine wpL_v rfl rfl (by decide) (OpV_extract rfl rfl rfl) ?_
      | refine wpL_v rfl rfl (by decide) (OpV_pick_t rfl rfl (by first | rfl | exact decide_eq_true (by omega)) rfl) ?_
      | refine wpL_v rfl rfl (by decide) (OpV_pick_f rfl rfl (by first | rfl | exact decide_eq_false (by omega)) rfl) ?_
      | refine wpL_v rfl rfl (by decide) (OpV_build rfl rfl rfl rfl) ?_
      | refine wpL_v rfl rfl (by decide) (OpV_max rfl rfl rfl) ?_
      | refine wpL_v rfl rfl (by decide) (OpV_min rfl rfl rfl) ?_
      | refine wpL_v rfl rfl (by decide) (OpV_nilptr rfl rfl rfl) ?_
      | refine wpL_v rfl rfl (by decide) (OpV_beq rfl rfl rfl) ?_
      | refine wpL_v rfl rfl (by decide) (OpV_bne rfl rfl rfl) ?_
      | refine wpL_v rfl rfl (by decide) (OpV_makeFunc rfl rfl) ?_
      | refine wpL_loadH 0 hG rfl rfl (by decide) rfl rfl rfl rfl ?_
      | refine wpL_loadH 1 hG rfl rfl (by decide) rfl rfl rfl rfl ?_
      | refine wpL_loadH 2 hG rfl rfl (by decide) rfl rfl rfl rfl ?_
      | refine wpL_loadH 3 hG rfl rfl (by decide) rfl rfl rfl rfl ?_
      | refine wpL_loadH 4 hG rfl rfl (by decide) rfl rfl rfl rfl ?_
      | refine wpL_loadH 5 hG rfl rfl (by decide) rfl rfl rfl rfl ?_
      | (refine wpL_storeH 0 hG rfl rfl rfl rfl rfl rfl rfl rfl rfl rfl rfl ?_; intro G hG)
      | (refine wpL_storeH 1 hG rfl rfl rfl rfl rfl rfl rfl rfl rfl rfl rfl ?_; intro G hG)
      | (refine wpL_storeH 2 hG rfl rfl rfl rfl rfl rfl rfl rfl rfl rfl rfl ?_; intro G hG)
      | (refine wpL_storeH 3 hG rfl rfl rfl rfl rfl rfl rfl rfl rfl rfl rfl ?_; intro G hG)
      | (refine wpL_storeH 4 hG rfl rfl rfl rfl rfl rfl rfl rfl rfl rfl rfl ?_; intro G hG)
      | (refine wpL_storeH 5 hG rfl rfl rfl rfl rfl rfl rfl rfl rfl rfl rfl ?_; intro G hG)
      | (refine wpL_allocH hG rfl rfl (by decide) rfl rfl ?_; intro id G hG)
      | (refine wpL_boxH hG rfl rfl (by decide) rfl rfl rfl ?_; intro id G hG)
      | (refine wpL_sliceH hG rfl rfl (by decide) rfl rfl rfl rfl rfl rfl rfl rfl ?_; intro id G hG)
      | refine wpL_gt rfl rfl rfl rfl rfl (by decide) (by first | rfl | exact decide_eq_true (by omega) | exact decide_eq_false (by omega) | exact ndec_t (by omega) | exact ndec_f (by omega)) ?_
      | refine wpL_gf rfl rfl rfl rfl rfl (by decide) (by first | rfl | exact decide_eq_true (by omega) | exact decide_eq_false (by omega) | exact ndec_t (by omega) | exact ndec_f (by omega)) ?_
      | refine wpA_ct rfl (by first | rfl | exact decide_eq_true (by omega) | exact ndec_t (by omega)) ?_
      | refine wpA_cf rfl (by first | rfl | exact decide_eq_false (by omega) | exact ndec_f (by omega)) ?_
      | refine wpA_skip ?_
      | refine wpA_exit ?_
      | refine wpA_ret ?_
      | refine x_then_exit ?_
      | refine x_then_ret ?_
      | refine x_then_normal ?_
      | refine x_block_ret ?_
      | refine x_block_normal ?_
      | refine x_block_exit ?_
      | refine x_block_other rfl ?_
      | refine wpL_v rfl rfl (by decide) (OpV_pick_t rfl rfl (ndec_t (by omega)) rfl) ?_
      | refine wpL_v rfl rfl (by decide) (OpV_pick_f rfl rfl (ndec_f (by omega)) rfl) ?_)
    obtain ⟨H1, e1⟩ : ∃ X, X = G ++ [some (Blk.mk [I 0, I 0, .v (.string .empty), I 0, I 0, .v (.slice none 0 0), .v (.slice none 0 0), I 0, I 0] 31 true)] := ⟨_, rfl⟩
    have hG1 : Has H1 [(G.length, Blk.mk [I 0, I 0, .v (.string .empty), I 0, I 0, .v (.slice none 0 0), .v (.slice none 0 0), I 0, I 0] 31 true)] := by rw [e1]; exact hG.new _
    obtain ⟨H2, e2⟩ : ∃ X, X = H1.set G.length (some (Blk.mk [I 0, I 0, .v (.string .empty), I 1, I height, slotsP sS, slotsP sF, I us, I ov] 31 true)) := ⟨_, rfl⟩
    have hG2 : Has H2 [(G.length, Blk.mk [I 0, I 0, .v (.string .empty), I 1, I height, slotsP sS, slotsP sF, I us, I ov] 31 true)] := by rw [e2]; exact hG1.set (k := 0) rfl _
    refine wpA_yL [H1, H2] H2 mixed (by decide +kernel) (N := 2) (by decide +kernel) rfl ?_
    repeat (first
      | refine Y_v rfl rfl rfl (by decide) (fun _ => OpV_index_tr rfl rfl rfl (by omega) (hes _ _ hx)) ?_
      | refine Y_v rfl rfl rfl (by decide) (fun _ => OpV_index_tr rfl rfl rfl (by omega) hy2) ?_
      | refine Y_v rfl rfl rfl (by decide) (fun _ => OpV_load rfl rfl rfl) ?_
      | refine Y_k rfl rfl rfl (by decide) (fun _ => Iso.K rfl rfl rfl rfl hp (TreeL.cons (tree_pcs fl) (TreeL.cons (tree_I _) (TreeL.cons (tree_I _) (TreeL.cons (tree_I _) (TreeL.cons (tree_I _) TreeL.nil)))))) ?_
      | refine Y_w 0 (by decide +kernel) rfl rfl rfl rfl (by decide) (OpW_alloc rfl rfl) e1 ?_
      | refine Y_s 1 (by decide +kernel) rfl rfl rfl rfl (OpS_store_at rfl rfl rfl (hG1.get 0 _ _ rfl) rfl rfl rfl rfl rfl) e2 ?_
      | refine Y_v rfl rfl rfl (by decide) (fun _ => OpV_cmp rfl rfl rfl (congrArg some (decide_eq_true (by omega)))) ?_
      | refine Y_v rfl rfl rfl (by decide) (fun _ => OpV_cmp rfl rfl rfl (congrArg some (decide_eq_false (by omega)))) ?_
      | refine Y_v rfl rfl rfl (by decide) (fun _ => OpV_cmp rfl rfl rfl (congrArg some (ndec_t (by omega)))) ?_
      | refine Y_v rfl rfl rfl (by decide) (fun _ => OpV_cmp rfl rfl rfl (congrArg some (ndec_f (by omega)))) ?_
      | refine Y_v rfl rfl rfl (by decide) (fun _ => OpV_move rfl rfl) ?_
      | refine Y_v rfl rfl rfl (by decide) (fun _ => OpV_assign rfl rfl) ?_
      | refine Y_v rfl rfl rfl (by decide) (fun _ => OpV_cmp rfl rfl rfl rfl) ?_
      | refine Y_v rfl rfl rfl (by decide) (fun _ => OpV_add rfl rfl rfl (by omega)) ?_
      | refine Y_v rfl rfl rfl (by decide) (fun _ => OpV_sub rfl rfl rfl (by omega)) ?_
      | refine Y_v rfl rfl rfl (by decide) (fun _ => OpV_len rfl rfl rfl) ?_
      | refine Y_v rfl rfl rfl (by decide) (fun _ => OpV_nilCheck rfl rfl rfl) ?_
      | refine Y_v rfl rfl rfl (by decide) (fun _ => OpV_fieldAddr rfl rfl rfl rfl) ?_
      | refine Y_v rfl rfl rfl (by decide) (fun _ => OpV_load rfl rfl rfl) ?_
      | refine Y_v rfl rfl rfl (by decide) (fun _ => OpV_not rfl rfl) ?_
      | refine Y_v rfl rfl rfl (by decide) (fun _ => OpV_extract rfl rfl rfl) ?_
      | refine Y_v rfl rfl rfl (by decide) (fun _ => OpV_build rfl rfl rfl rfl) ?_
      | refine Y_v rfl rfl rfl (by decide) (fun _ => OpV_max rfl rfl rfl) ?_
      | refine Y_v rfl rfl rfl (by decide) (fun _ => OpV_min rfl rfl rfl) ?_
      | refine Y_v rfl rfl rfl (by decide) (fun _ => OpV_beq rfl rfl rfl) ?_
      | refine Y_v rfl rfl rfl (by decide) (fun _ => OpV_bne rfl rfl rfl) ?_
      | refine Y_v rfl rfl rfl (by decide) (fun _ => OpV_pick_t rfl rfl (by first | rfl | exact decide_eq_true (by omega) | exact ndec_t (by omega)) rfl) ?_
      | refine Y_v rfl rfl rfl (by decide) (fun _ => OpV_pick_f rfl rfl (by first | rfl | exact decide_eq_false (by omega) | exact ndec_f (by omega)) rfl) ?_
      | refine Y_gv (fun _ => OpV_cmp rfl rfl rfl (congrArg some (decide_eq_true (by omega)))) rfl (by decide) rfl rfl rfl rfl (by decide) ?_
      | refine Y_gv (fun _ => OpV_cmp rfl rfl rfl (congrArg some (decide_eq_false (by omega)))) rfl (by decide) rfl rfl rfl rfl (by decide) ?_
      | refine Y_gv (fun _ => OpV_cmp rfl rfl rfl (congrArg some (ndec_t (by omega)))) rfl (by decide) rfl rfl rfl rfl (by decide) ?_
      | refine Y_gv (fun _ => OpV_cmp rfl rfl rfl (congrArg some (ndec_f (by omega)))) rfl (by decide) rfl rfl rfl rfl (by decide) ?_
      | refine Y_gv (fun _ => OpV_move rfl rfl) rfl (by decide) rfl rfl rfl rfl (by decide) ?_
      | refine Y_gv (fun _ => OpV_assign rfl rfl) rfl (by decide) rfl rfl rfl rfl (by decide) ?_
      | refine Y_gv (fun _ => OpV_cmp rfl rfl rfl rfl) rfl (by decide) rfl rfl rfl rfl (by decide) ?_
      | refine Y_gv (fun _ => OpV_add rfl rfl rfl (by omega)) rfl (by decide) rfl rfl rfl rfl (by decide) ?_
      | refine Y_gv (fun _ => OpV_sub rfl rfl rfl (by omega)) rfl (by decide) rfl rfl rfl rfl (by decide) ?_
      | refine Y_gv (fun _ => OpV_len rfl rfl rfl) rfl (by decide) rfl rfl rfl rfl (by decide) ?_
      | refine Y_gv (fun _ => OpV_nilCheck rfl rfl rfl) rfl (by decide) rfl rfl rfl rfl (by decide) ?_
      | refine Y_gv (fun _ => OpV_fieldAddr rfl rfl rfl rfl) rfl (by decide) rfl rfl rfl rfl (by decide) ?_
      | refine Y_gv (fun _ => OpV_load rfl rfl rfl) rfl (by decide) rfl rfl rfl rfl (by decide) ?_
      | refine Y_gv (fun _ => OpV_not rfl rfl) rfl (by decide) rfl rfl rfl rfl (by decide) ?_
      | refine Y_gv (fun _ => OpV_extract rfl rfl rfl) rfl (by decide) rfl rfl rfl rfl (by decide) ?_
      | refine Y_gv (fun _ => OpV_build rfl rfl rfl rfl) rfl (by decide) rfl rfl rfl rfl (by decide) ?_
      | refine Y_gv (fun _ => OpV_max rfl rfl rfl) rfl (by decide) rfl rfl rfl rfl (by decide) ?_
      | refine Y_gv (fun _ => OpV_min rfl rfl rfl) rfl (by decide) rfl rfl rfl rfl (by decide) ?_
      | refine Y_gv (fun _ => OpV_beq rfl rfl rfl) rfl (by decide) rfl rfl rfl rfl (by decide) ?_
      | refine Y_gv (fun _ => OpV_bne rfl rfl rfl) rfl (by decide) rfl rfl rfl rfl (by decide) ?_
      | refine Y_gv (fun _ => OpV_pick_t rfl rfl (by first | rfl | exact decide_eq_true (by omega) | exact ndec_t (by omega)) rfl) rfl (by decide) rfl rfl rfl rfl (by decide) ?_
      | refine Y_gv (fun _ => OpV_pick_f rfl rfl (by first | rfl | exact decide_eq_false (by omega) | exact ndec_f (by omega)) rfl) rfl (by decide) rfl rfl rfl rfl (by decide) ?_
      | refine Y_gn rfl (by decide) rfl rfl rfl rfl rfl (by decide) ?_
      | refine Y_end ?_)
    have hG := hG2
    refine wpA_seq ?_
    by_cases ho : 0 < ov
    · have p4 : ¬ 1 < y - x := fun h => by have := p3 h; omega
      refine wpA_yq mixed (by decide +kernel) ?_
      repeat (first
        | refine Y_gq (OpV_load_at rfl rfl (hG.get 0 _ _ rfl) rfl) rfl (by decide) rfl rfl rfl rfl (by decide) ?_
        | refine Y_gq (OpV_index_tr rfl rfl rfl (by omega) hy2) rfl (by decide) rfl rfl rfl rfl (by decide) ?_
        | refine Y_gq (OpV_index_tr rfl rfl rfl (by omega) (hes _ _ hx)) rfl (by decide) rfl rfl rfl rfl (by decide) ?_
        | refine Y_q rfl rfl rfl (by decide) (OpV_cmp rfl rfl rfl (congrArg some (decide_eq_true (by omega)))) ?_
        | refine Y_q rfl rfl rfl (by decide) (OpV_cmp rfl rfl rfl (congrArg some (decide_eq_false (by omega)))) ?_
        | refine Y_q rfl rfl rfl (by decide) (OpV_cmp rfl rfl rfl (congrArg some (ndec_t (by omega)))) ?_
        | refine Y_q rfl rfl rfl (by decide) (OpV_cmp rfl rfl rfl (congrArg some (ndec_f (by omega)))) ?_
        | refine Y_q rfl rfl rfl (by decide) (OpV_move rfl rfl) ?_
        | refine Y_q rfl rfl rfl (by decide) (OpV_assign rfl rfl) ?_
        | refine Y_q rfl rfl rfl (by decide) (OpV_cmp rfl rfl rfl rfl) ?_
        | refine Y_q rfl rfl rfl (by decide) (OpV_add rfl rfl rfl (by omega)) ?_
        | refine Y_q rfl rfl rfl (by decide) (OpV_sub rfl rfl rfl (by omega)) ?_
        | refine Y_q rfl rfl rfl (by decide) (OpV_len rfl rfl rfl) ?_
        | refine Y_q rfl rfl rfl (by decide) (OpV_nilCheck rfl rfl rfl) ?_
        | refine Y_q rfl rfl rfl (by decide) (OpV_fieldAddr rfl rfl rfl rfl) ?_
        | refine Y_q rfl rfl rfl (by decide) (OpV_load rfl rfl rfl) ?_
        | refine Y_q rfl rfl rfl (by decide) (OpV_not rfl rfl) ?_
        | refine Y_q rfl rfl rfl (by decide) (OpV_extract rfl rfl rfl) ?_
        | refine Y_q rfl rfl rfl (by decide) (OpV_build rfl rfl rfl rfl) ?_
        | refine Y_q rfl rfl rfl (by decide) (OpV_max rfl rfl rfl) ?_
        | refine Y_q rfl rfl rfl (by decide) (OpV_min rfl rfl rfl) ?_
        | refine Y_q rfl rfl rfl (by decide) (OpV_nilptr rfl rfl rfl) ?_
        | refine Y_q rfl rfl rfl (by decide) (OpV_beq rfl rfl rfl) ?_
        | refine Y_q rfl rfl rfl (by decide) (OpV_bne rfl rfl rfl) ?_
        | refine Y_q rfl rfl rfl (by decide) (OpV_pick_t rfl rfl (by first | rfl | exact decide_eq_true (by omega) | exact ndec_t (by omega)) rfl) ?_
        | refine Y_q rfl rfl rfl (by decide) (OpV_pick_f rfl rfl (by first | rfl | exact decide_eq_false (by omega) | exact ndec_f (by omega)) rfl) ?_
        | refine Y_gq (OpV_cmp rfl rfl rfl (congrArg some (decide_eq_true (by omega)))) rfl (by decide) rfl rfl rfl rfl (by decide) ?_
        | refine Y_gq (OpV_cmp rfl rfl rfl (congrArg some (decide_eq_false (by omega)))) rfl (by decide) rfl rfl rfl rfl (by decide) ?_
        | refine Y_gq (OpV_cmp rfl rfl rfl (congrArg some (ndec_t (by omega)))) rfl (by decide) rfl rfl rfl rfl (by decide) ?_
        | refine Y_gq (OpV_cmp rfl rfl rfl (congrArg some (ndec_f (by omega)))) rfl (by decide) rfl rfl rfl rfl (by decide) ?_
        | refine Y_gq (OpV_move rfl rfl) rfl (by decide) rfl rfl rfl rfl (by decide) ?_
        | refine Y_gq (OpV_assign rfl rfl) rfl (by decide) rfl rfl rfl rfl (by decide) ?_
        | refine Y_gq (OpV_cmp rfl rfl rfl rfl) rfl (by decide) rfl rfl rfl rfl (by decide) ?_
        | refine Y_gq (OpV_add rfl rfl rfl (by omega)) rfl (by decide) rfl rfl rfl rfl (by decide) ?_
        | refine Y_gq (OpV_sub rfl rfl rfl (by omega)) rfl (by decide) rfl rfl rfl rfl (by decide) ?_
        | refine Y_gq (OpV_len rfl rfl rfl) rfl (by decide) rfl rfl rfl rfl (by decide) ?_
        | refine Y_gq (OpV_nilCheck rfl rfl rfl) rfl (by decide) rfl rfl rfl rfl (by decide) ?_
        | refine Y_gq (OpV_fieldAddr rfl rfl rfl rfl) rfl (by decide) rfl rfl rfl rfl (by decide) ?_
        | refine Y_gq (OpV_load rfl rfl rfl) rfl (by decide) rfl rfl rfl rfl (by decide) ?_
        | refine Y_gq (OpV_not rfl rfl) rfl (by decide) rfl rfl rfl rfl (by decide) ?_
        | refine Y_gq (OpV_extract rfl rfl rfl) rfl (by decide) rfl rfl rfl rfl (by decide) ?_
        | refine Y_gq (OpV_build rfl rfl rfl rfl) rfl (by decide) rfl rfl rfl rfl (by decide) ?_
        | refine Y_gq (OpV_max rfl rfl rfl) rfl (by decide) rfl rfl rfl rfl (by decide) ?_
        | refine Y_gq (OpV_min rfl rfl rfl) rfl (by decide) rfl rfl rfl rfl (by decide) ?_
        | refine Y_gq (OpV_nilptr rfl rfl rfl) rfl (by decide) rfl rfl rfl rfl (by decide) ?_
        | refine Y_gq (OpV_beq rfl rfl rfl) rfl (by decide) rfl rfl rfl rfl (by decide) ?_
        | refine Y_gq (OpV_bne rfl rfl rfl) rfl (by decide) rfl rfl rfl rfl (by decide) ?_
        | refine Y_gq (OpV_pick_t rfl rfl (by first | rfl | exact decide_eq_true (by omega) | exact ndec_t (by omega)) rfl) rfl (by decide) rfl rfl rfl rfl (by decide) ?_
        | refine Y_gq (OpV_pick_f rfl rfl (by first | rfl | exact decide_eq_false (by omega) | exact ndec_f (by omega)) rfl) rfl (by decide) rfl rfl rfl rfl (by decide) ?_
        | refine Y_gn rfl (by decide) rfl rfl rfl rfl rfl (by decide) ?_
        | refine Y_end ?_)
      repeat (first
        | refine wpL_end ?_
        | refine wpL_nil ?_
        | refine wpA_seq ?_
        | refine wpA_region ?_
        | refine wpA_block ?_
        | refine wpL_v rfl rfl (by decide) (OpV_cmp rfl rfl rfl (congrArg some (decide_eq_true (by omega)))) ?_
        | refine wpL_v rfl rfl (by decide) (OpV_cmp rfl rfl rfl (congrArg some (decide_eq_false (by omega)))) ?_
        | refine wpL_v rfl rfl (by decide) (OpV_cmp rfl rfl rfl (congrArg some (ndec_t (by omega)))) ?_
        | refine wpL_v rfl rfl (by decide) (OpV_cmp rfl rfl rfl (congrArg some (ndec_f (by omega)))) ?_
        | refine wpL_v rfl rfl (by decide) (OpV_move rfl rfl) ?_
        | refine wpL_v rfl rfl (by decide) (OpV_assign rfl rfl) ?_
        | refine wpL_v rfl rfl (by decide) (OpV_cmp rfl rfl rfl rfl) ?_
        | refine wpL_v rfl rfl (by decide) (OpV_add rfl rfl rfl (by omega)) ?_
        | refine wpL_v rfl rfl (by decide) (OpV_sub rfl rfl rfl (by omega)) ?_
        | refine wpL_v rfl rfl (by decide) (OpV_len rfl rfl rfl) ?_
        | refine wpL_v rfl rfl (by decide) (OpV_nilCheck rfl rfl rfl) ?_
        | refine wpL_v rfl rfl (by decide) (OpV_fieldAddr rfl rfl rfl rfl) ?_
        | refine wpL_v rfl rfl (by decide) (OpV_load rfl rfl rfl) ?_
        | refine wpL_v rfl rfl (by decide) (OpV_not rfl rfl) ?_
        | refine wpL_v rfl rfl (by decide) (OpV_extract rfl rfl rfl) ?_
        | refine wpL_v rfl rfl (by decide) (OpV_pick_t rfl rfl (by first | rfl | exact decide_eq_true (by omega)) rfl) ?_
        | refine wpL_v rfl rfl (by decide) (OpV_pick_f rfl rfl (by first | rfl | exact decide_eq_false (by omega)) rfl) ?_
        | refine wpL_v rfl rfl (by decide) (OpV_build rfl rfl rfl rfl) ?_
        | refine wpL_v rfl rfl (by decide) (OpV_max rfl rfl rfl) ?_
        | refine wpL_v rfl rfl (by decide) (OpV_min rfl rfl rfl) ?_
        | refine wpL_v rfl rfl (by decide) (OpV_nilptr rfl rfl rfl) ?_
        | refine wpL_v rfl rfl (by decide) (OpV_beq rfl rfl rfl) ?_
        | refine wpL_v rfl rfl (by decide) (OpV_bne rfl rfl rfl) ?_
        | refine wpL_v rfl rfl (by decide) (OpV_makeFunc rfl rfl) ?_
        | refine wpL_loadH 0 hG rfl rfl (by decide) rfl rfl rfl rfl ?_
        | refine wpL_loadH 1 hG rfl rfl (by decide) rfl rfl rfl rfl ?_
        | refine wpL_loadH 2 hG rfl rfl (by decide) rfl rfl rfl rfl ?_
        | refine wpL_loadH 3 hG rfl rfl (by decide) rfl rfl rfl rfl ?_
        | refine wpL_loadH 4 hG rfl rfl (by decide) rfl rfl rfl rfl ?_
        | refine wpL_loadH 5 hG rfl rfl (by decide) rfl rfl rfl rfl ?_
        | (refine wpL_storeH 0 hG rfl rfl rfl rfl rfl rfl rfl rfl rfl rfl rfl ?_; intro G hG)
        | (refine wpL_storeH 1 hG rfl rfl rfl rfl rfl rfl rfl rfl rfl rfl rfl ?_; intro G hG)
        | (refine wpL_storeH 2 hG rfl rfl rfl rfl rfl rfl rfl rfl rfl rfl rfl ?_; intro G hG)
        | (refine wpL_storeH 3 hG rfl rfl rfl rfl rfl rfl rfl rfl rfl rfl rfl ?_; intro G hG)
        | (refine wpL_storeH 4 hG rfl rfl rfl rfl rfl rfl rfl rfl rfl rfl rfl ?_; intro G hG)
        | (refine wpL_storeH 5 hG rfl rfl rfl rfl rfl rfl rfl rfl rfl rfl rfl ?_; intro G hG)
        | (refine wpL_allocH hG rfl rfl (by decide) rfl rfl ?_; intro id G hG)
        | (refine wpL_boxH hG rfl rfl (by decide) rfl rfl rfl ?_; intro id G hG)
        | (refine wpL_sliceH hG rfl rfl (by decide) rfl rfl rfl rfl rfl rfl rfl rfl ?_; intro id G hG)
        | refine wpL_gt rfl rfl rfl rfl rfl (by decide) (by first | rfl | exact decide_eq_true (by omega) | exact decide_eq_false (by omega) | exact ndec_t (by omega) | exact ndec_f (by omega)) ?_
        | refine wpL_gf rfl rfl rfl rfl rfl (by decide) (by first | rfl | exact decide_eq_true (by omega) | exact decide_eq_false (by omega) | exact ndec_t (by omega) | exact ndec_f (by omega)) ?_
        | refine wpA_ct rfl (by first | rfl | exact decide_eq_true (by omega) | exact ndec_t (by omega)) ?_
        | refine wpA_cf rfl (by first | rfl | exact decide_eq_false (by omega) | exact ndec_f (by omega)) ?_
        | refine wpA_skip ?_
        | refine wpA_exit ?_
        | refine wpA_ret ?_
        | refine x_then_exit ?_
        | refine x_then_ret ?_
        | refine x_then_normal ?_
        | refine x_block_ret ?_
        | refine x_block_normal ?_
        | refine x_block_exit ?_
        | refine x_block_other rfl ?_
        | refine wpL_v rfl rfl (by decide) (OpV_pick_t rfl rfl (ndec_t (by omega)) rfl) ?_
        | refine wpL_v rfl rfl (by decide) (OpV_pick_f rfl rfl (ndec_f (by omega)) rfl) ?_)
      exact ⟨i + 1, by omega, .cons rfl (.cons rfl (.cons rfl (.cons rfl (.nil _)))), by omega⟩
    · refine wpA_yq mixed (by decide +kernel) ?_
      repeat (first
        | refine Y_gq (OpV_load_at rfl rfl (hG.get 0 _ _ rfl) rfl) rfl (by decide) rfl rfl rfl rfl (by decide) ?_
        | refine Y_q rfl rfl rfl (by decide) (OpV_cmp rfl rfl rfl (congrArg some (decide_eq_true (by omega)))) ?_
        | refine Y_q rfl rfl rfl (by decide) (OpV_cmp rfl rfl rfl (congrArg some (decide_eq_false (by omega)))) ?_
        | refine Y_q rfl rfl rfl (by decide) (OpV_cmp rfl rfl rfl (congrArg some (ndec_t (by omega)))) ?_
        | refine Y_q rfl rfl rfl (by decide) (OpV_cmp rfl rfl rfl (congrArg some (ndec_f (by omega)))) ?_
        | refine Y_q rfl rfl rfl (by decide) (OpV_move rfl rfl) ?_
        | refine Y_q rfl rfl rfl (by decide) (OpV_assign rfl rfl) ?_
        | refine Y_q rfl rfl rfl (by decide) (OpV_cmp rfl rfl rfl rfl) ?_
        | refine Y_q rfl rfl rfl (by decide) (OpV_add rfl rfl rfl (by omega)) ?_
        | refine Y_q rfl rfl rfl (by decide) (OpV_sub rfl rfl rfl (by omega)) ?_
        | refine Y_q rfl rfl rfl (by decide) (OpV_len rfl rfl rfl) ?_
        | refine Y_q rfl rfl rfl (by decide) (OpV_nilCheck rfl rfl rfl) ?_
        | refine Y_q rfl rfl rfl (by decide) (OpV_fieldAddr rfl rfl rfl rfl) ?_
        | refine Y_q rfl rfl rfl (by decide) (OpV_load rfl rfl rfl) ?_
        | refine Y_q rfl rfl rfl (by decide) (OpV_not rfl rfl) ?_
        | refine Y_q rfl rfl rfl (by decide) (OpV_extract rfl rfl rfl) ?_
        | refine Y_q rfl rfl rfl (by decide) (OpV_build rfl rfl rfl rfl) ?_
        | refine Y_q rfl rfl rfl (by decide) (OpV_max rfl rfl rfl) ?_
        | refine Y_q rfl rfl rfl (by decide) (OpV_min rfl rfl rfl) ?_
        | refine Y_q rfl rfl rfl (by decide) (OpV_nilptr rfl rfl rfl) ?_
        | refine Y_q rfl rfl rfl (by decide) (OpV_beq rfl rfl rfl) ?_
        | refine Y_q rfl rfl rfl (by decide) (OpV_bne rfl rfl rfl) ?_
        | refine Y_q rfl rfl rfl (by decide) (OpV_pick_t rfl rfl (by first | rfl | exact decide_eq_true (by omega) | exact ndec_t (by omega)) rfl) ?_
        | refine Y_q rfl rfl rfl (by decide) (OpV_pick_f rfl rfl (by first | rfl | exact decide_eq_false (by omega) | exact ndec_f (by omega)) rfl) ?_
        | refine Y_gq (OpV_cmp rfl rfl rfl (congrArg some (decide_eq_true (by omega)))) rfl (by decide) rfl rfl rfl rfl (by decide) ?_
        | refine Y_gq (OpV_cmp rfl rfl rfl (congrArg some (decide_eq_false (by omega)))) rfl (by decide) rfl rfl rfl rfl (by decide) ?_
        | refine Y_gq (OpV_cmp rfl rfl rfl (congrArg some (ndec_t (by omega)))) rfl (by decide) rfl rfl rfl rfl (by decide) ?_
        | refine Y_gq (OpV_cmp rfl rfl rfl (congrArg some (ndec_f (by omega)))) rfl (by decide) rfl rfl rfl rfl (by decide) ?_
        | refine Y_gq (OpV_move rfl rfl) rfl (by decide) rfl rfl rfl rfl (by decide) ?_
        | refine Y_gq (OpV_assign rfl rfl) rfl (by decide) rfl rfl rfl rfl (by decide) ?_
        | refine Y_gq (OpV_cmp rfl rfl rfl rfl) rfl (by decide) rfl rfl rfl rfl (by decide) ?_
        | refine Y_gq (OpV_add rfl rfl rfl (by omega)) rfl (by decide) rfl rfl rfl rfl (by decide) ?_
        | refine Y_gq (OpV_sub rfl rfl rfl (by omega)) rfl (by decide) rfl rfl rfl rfl (by decide) ?_
        | refine Y_gq (OpV_len rfl rfl rfl) rfl (by decide) rfl rfl rfl rfl (by decide) ?_
        | refine Y_gq (OpV_nilCheck rfl rfl rfl) rfl (by decide) rfl rfl rfl rfl (by decide) ?_
        | refine Y_gq (OpV_fieldAddr rfl rfl rfl rfl) rfl (by decide) rfl rfl rfl rfl (by decide) ?_
        | refine Y_gq (OpV_load rfl rfl rfl) rfl (by decide) rfl rfl rfl rfl (by decide) ?_
        | refine Y_gq (OpV_not rfl rfl) rfl (by decide) rfl rfl rfl rfl (by decide) ?_
        | refine Y_gq (OpV_extract rfl rfl rfl) rfl (by decide) rfl rfl rfl rfl (by decide) ?_
        | refine Y_gq (OpV_build rfl rfl rfl rfl) rfl (by decide) rfl rfl rfl rfl (by decide) ?_
        | refine Y_gq (OpV_max rfl rfl rfl) rfl (by decide) rfl rfl rfl rfl (by decide) ?_
        | refine Y_gq (OpV_min rfl rfl rfl) rfl (by decide) rfl rfl rfl rfl (by decide) ?_
        | refine Y_gq (OpV_nilptr rfl rfl rfl) rfl (by decide) rfl rfl rfl rfl (by decide) ?_
        | refine Y_gq (OpV_beq rfl rfl rfl) rfl (by decide) rfl rfl rfl rfl (by decide) ?_
        | refine Y_gq (OpV_bne rfl rfl rfl) rfl (by decide) rfl rfl rfl rfl (by decide) ?_
        | refine Y_gq (OpV_pick_t rfl rfl (by first | rfl | exact decide_eq_true (by omega) | exact ndec_t (by omega)) rfl) rfl (by decide) rfl rfl rfl rfl (by decide) ?_
        | refine Y_gq (OpV_pick_f rfl rfl (by first | rfl | exact decide_eq_false (by omega) | exact ndec_f (by omega)) rfl) rfl (by decide) rfl rfl rfl rfl (by decide) ?_
        | refine Y_gn rfl (by decide) rfl rfl rfl rfl rfl (by decide) ?_
        | refine Y_end ?_)
      repeat (first
        | refine wpL_end ?_
        | refine wpL_nil ?_
        | refine wpA_seq ?_
        | refine wpA_region ?_
        | refine wpA_block ?_
        | refine wpL_v rfl rfl (by decide) (OpV_cmp rfl rfl rfl (congrArg some (decide_eq_true (by omega)))) ?_
        | refine wpL_v rfl rfl (by decide) (OpV_cmp rfl rfl rfl (congrArg some (decide_eq_false (by omega)))) ?_
        | refine wpL_v rfl rfl (by decide) (OpV_cmp rfl rfl rfl (congrArg some (ndec_t (by omega)))) ?_
        | refine wpL_v rfl rfl (by decide) (OpV_cmp rfl rfl rfl (congrArg some (ndec_f (by omega)))) ?_
        | refine wpL_v rfl rfl (by decide) (OpV_move rfl rfl) ?_
        | refine wpL_v rfl rfl (by decide) (OpV_assign rfl rfl) ?_
        | refine wpL_v rfl rfl (by decide) (OpV_cmp rfl rfl rfl rfl) ?_
        | refine wpL_v rfl rfl (by decide) (OpV_add rfl rfl rfl (by omega)) ?_
        | refine wpL_v rfl rfl (by decide) (OpV_sub rfl rfl rfl (by omega)) ?_
        | refine wpL_v rfl rfl (by decide) (OpV_len rfl rfl rfl) ?_
        | refine wpL_v rfl rfl (by decide) (OpV_nilCheck rfl rfl rfl) ?_
        | refine wpL_v rfl rfl (by decide) (OpV_fieldAddr rfl rfl rfl rfl) ?_
        | refine wpL_v rfl rfl (by decide) (OpV_load rfl rfl rfl) ?_
        | refine wpL_v rfl rfl (by decide) (OpV_not rfl rfl) ?_
        | refine wpL_v rfl rfl (by decide) (OpV_extract rfl rfl rfl) ?_
        | refine wpL_v rfl rfl (by decide) (OpV_pick_t rfl rfl (by first | rfl | exact decide_eq_true (by omega)) rfl) ?_
        | refine wpL_v rfl rfl (by decide) (OpV_pick_f rfl rfl (by first | rfl | exact decide_eq_false (by omega)) rfl) ?_
        | refine wpL_v rfl rfl (by decide) (OpV_build rfl rfl rfl rfl) ?_
        | refine wpL_v rfl rfl (by decide) (OpV_max rfl rfl rfl) ?_
        | refine wpL_v rfl rfl (by decide) (OpV_min rfl rfl rfl) ?_
        | refine wpL_v rfl rfl (by decide) (OpV_nilptr rfl rfl rfl) ?_
        | refine wpL_v rfl rfl (by decide) (OpV_beq rfl rfl rfl) ?_
        | refine wpL_v rfl rfl (by decide) (OpV_bne rfl rfl rfl) ?_
        | refine wpL_v rfl rfl (by decide) (OpV_makeFunc rfl rfl) ?_
        | refine wpL_loadH 0 hG rfl rfl (by decide) rfl rfl rfl rfl ?_
        | refine wpL_loadH 1 hG rfl rfl (by decide) rfl rfl rfl rfl ?_
        | refine wpL_loadH 2 hG rfl rfl (by decide) rfl rfl rfl rfl ?_
        | refine wpL_loadH 3 hG rfl rfl (by decide) rfl rfl rfl rfl ?_
        | refine wpL_loadH 4 hG rfl rfl (by decide) rfl rfl rfl rfl ?_
        | refine wpL_loadH 5 hG rfl rfl (by decide) rfl rfl rfl rfl ?_
        | (refine wpL_storeH 0 hG rfl rfl rfl rfl rfl rfl rfl rfl rfl rfl rfl ?_; intro G hG)
        | (refine wpL_storeH 1 hG rfl rfl rfl rfl rfl rfl rfl rfl rfl rfl rfl ?_; intro G hG)
        | (refine wpL_storeH 2 hG rfl rfl rfl rfl rfl rfl rfl rfl rfl rfl rfl ?_; intro G hG)
        | (refine wpL_storeH 3 hG rfl rfl rfl rfl rfl rfl rfl rfl rfl rfl rfl ?_; intro G hG)
        | (refine wpL_storeH 4 hG rfl rfl rfl rfl rfl rfl rfl rfl rfl rfl rfl ?_; intro G hG)
        | (refine wpL_storeH 5 hG rfl rfl rfl rfl rfl rfl rfl rfl rfl rfl rfl ?_; intro G hG)
        | (refine wpL_allocH hG rfl rfl (by decide) rfl rfl ?_; intro id G hG)
        | (refine wpL_boxH hG rfl rfl (by decide) rfl rfl rfl ?_; intro id G hG)
        | (refine wpL_sliceH hG rfl rfl (by decide) rfl rfl rfl rfl rfl rfl rfl rfl ?_; intro id G hG)
        | refine wpL_gt rfl rfl rfl rfl rfl (by decide) (by first | rfl | exact decide_eq_true (by omega) | exact decide_eq_false (by omega) | exact ndec_t (by omega) | exact ndec_f (by omega)) ?_
        | refine wpL_gf rfl rfl rfl rfl rfl (by decide) (by first | rfl | exact decide_eq_true (by omega) | exact decide_eq_false (by omega) | exact ndec_t (by omega) | exact ndec_f (by omega)) ?_
        | refine wpA_ct rfl (by first | rfl | exact decide_eq_true (by omega) | exact ndec_t (by omega)) ?_
        | refine wpA_cf rfl (by first | rfl | exact decide_eq_false (by omega) | exact ndec_f (by omega)) ?_
        | refine wpA_skip ?_
        | refine wpA_exit ?_
        | refine wpA_ret ?_
        | refine x_then_exit ?_
        | refine x_then_ret ?_
        | refine x_then_normal ?_
        | refine x_block_ret ?_
        | refine x_block_normal ?_
        | refine x_block_exit ?_
        | refine x_block_other rfl ?_
        | refine wpL_v rfl rfl (by decide) (OpV_pick_t rfl rfl (ndec_t (by omega)) rfl) ?_
        | refine wpL_v rfl rfl (by decide) (OpV_pick_f rfl rfl (ndec_f (by omega)) rfl) ?_)
      exact ⟨i + 1, by omega, .cons rfl (.cons rfl (.cons rfl (.cons rfl (.nil _)))), by omega⟩
  · have hes0 := hes 0 0 hfst
    repeat (first
      | refine wpL_end ?_
      | refine wpL_nil ?_
      | refine wpA_seq ?_
      | refine wpA_region ?_
      | refine wpA_block ?_
      | refine wpL_v rfl rfl (by decide) (OpV_index_tr rfl rfl rfl (by omega) hes0) ?_
      | refine wpL_v rfl rfl (by decide) (OpV_cmp rfl rfl rfl (congrArg some (decide_eq_true (by omega)))) ?_
      | refine wpL_v rfl rfl (by decide) (OpV_cmp rfl rfl rfl (congrArg some (decide_eq_false (by omega)))) ?_
      | refine wpL_v rfl rfl (by decide) (OpV_cmp rfl rfl rfl (congrArg some (ndec_t (by omega)))) ?_
      | refine wpL_v rfl rfl (by decide) (OpV_cmp rfl rfl rfl (congrArg some (ndec_f (by omega)))) ?_
      | refine wpL_v rfl rfl (by decide) (OpV_move rfl rfl) ?_
      | refine wpL_v rfl rfl (by decide) (OpV_assign rfl rfl) ?_
      | refine wpL_v rfl rfl (by decide) (OpV_cmp rfl rfl rfl rfl) ?_
      | refine wpL_v rfl rfl (by decide) (OpV_add rfl rfl rfl (by omega)) ?_
      | refine wpL_v rfl rfl (by decide) (OpV_sub rfl rfl rfl (by omega)) ?_
      | refine wpL_v rfl rfl (by decide) (OpV_len rfl rfl rfl) ?_
      | refine wpL_v rfl rfl (by decide) (OpV_nilCheck rfl rfl rfl) ?_
      | refine wpL_v rfl rfl (by decide) (OpV_fieldAddr rfl rfl rfl rfl) ?_
      | refine wpL_v rfl rfl (by decide) (OpV_load rfl rfl rfl) ?_
      | refine wpL_v rfl rfl (by decide) (OpV_not rfl rfl) ?_
      | refine wpL_v rfl rfl (by decide) (OpV_extract rfl rfl rfl) ?_
      | refine wpL_v rfl rfl (by decide) (OpV_pick_t rfl rfl (by first | rfl | exact decide_eq_true (by omega)) rfl) ?_
      | refine wpL_v rfl rfl (by decide) (OpV_pick_f rfl rfl (by first | rfl | exact decide_eq_false (by omega)) rfl) ?_
      | refine wpL_v rfl rfl (by decide) (OpV_build rfl rfl rfl rfl) ?_
      | refine wpL_v rfl rfl (by decide) (OpV_max rfl rfl rfl) ?_
      | refine wpL_v rfl rfl (by decide) (OpV_min rfl rfl rfl) ?_
      | refine wpL_v rfl rfl (by decide) (OpV_nilptr rfl rfl rfl) ?_
      | refine wpL_v rfl rfl (by decide) (OpV_beq rfl rfl rfl) ?_
      | refine wpL_v rfl rfl (by decide) (OpV_bne rfl rfl rfl) ?_
      | refine wpL_v rfl rfl (by decide) (OpV_makeFunc rfl rfl) ?_
      | refine wpL_loadH 0 hG rfl rfl (by decide) rfl rfl rfl rfl ?_
      | refine wpL_loadH 1 hG rfl rfl (by decide) rfl rfl rfl rfl ?_
      | refine wpL_loadH 2 hG rfl rfl (by decide) rfl rfl rfl rfl ?_
      | refine wpL_loadH 3 hG rfl rfl (by decide) rfl rfl rfl rfl ?_
      | refine wpL_loadH 4 hG rfl rfl (by decide) rfl rfl rfl rfl ?_
      | refine wpL_loadH 5 hG rfl rfl (by decide) rfl rfl rfl rfl ?_
      | (refine wpL_storeH 0 hG rfl rfl rfl rfl rfl rfl rfl rfl rfl rfl rfl ?_; intro G hG)
      | (refine wpL_storeH 1 hG rfl rfl rfl rfl rfl rfl rfl rfl rfl rfl rfl ?_; intro G hG)
      | (refine wpL_storeH 2 hG rfl rfl rfl rfl rfl rfl rfl rfl rfl rfl rfl ?_; intro G hG)
      | (refine wpL_storeH 3 hG rfl rfl rfl rfl rfl rfl rfl rfl rfl rfl rfl ?_; intro G hG)
      | (refine wpL_storeH 4 hG rfl rfl rfl rfl rfl rfl rfl rfl rfl rfl rfl ?_; intro G hG)
      | (refine wpL_storeH 5 hG rfl rfl rfl rfl rfl rfl rfl rfl rfl rfl rfl ?_; intro G hG)
      | (refine wpL_allocH hG rfl rfl (by decide) rfl rfl ?_; intro id G hG)
      | (refine wpL_boxH hG rfl rfl (by decide) rfl rfl rfl ?_; intro id G hG)
      | (refine wpL_sliceH hG rfl rfl (by decide) rfl rfl rfl rfl rfl rfl rfl rfl ?_; intro id G hG)
      | refine wpL_gt rfl rfl rfl rfl rfl (by decide) (by first | rfl | exact decide_eq_true (by omega) | exact decide_eq_false (by omega) | exact ndec_t (by omega) | exact ndec_f (by omega)) ?_
      | refine wpL_gf rfl rfl rfl rfl rfl (by decide) (by first | rfl | exact decide_eq_true (by omega) | exact decide_eq_false (by omega) | exact ndec_t (by omega) | exact ndec_f (by omega)) ?_
      | refine wpA_ct rfl (by first | rfl | exact decide_eq_true (by omega) | exact ndec_t (by omega)) ?_
      | refine wpA_cf rfl (by first | rfl | exact decide_eq_false (by omega) | exact ndec_f (by omega)) ?_
      | refine wpA_skip ?_
      | refine wpA_exit ?_
      | refine wpA_ret ?_
      | refine x_then_exit ?_
      | refine x_then_ret ?_
      | refine x_then_normal ?_
      | refine x_block_ret ?_
      | refine x_block_normal ?_
      | refine x_block_exit ?_
      | refine x_block_other rfl ?_
      | refine wpL_v rfl rfl (by decide) (OpV_pick_t rfl rfl (ndec_t (by omega)) rfl) ?_
      | refine wpL_v rfl rfl (by decide) (OpV_pick_f rfl rfl (ndec_f (by omega)) rfl) ?_)
    exact postI_1 rfl rfl (.refl _) (.v _) rfl
end Go.Proofs.Ytpkeceifnmmhcaa
