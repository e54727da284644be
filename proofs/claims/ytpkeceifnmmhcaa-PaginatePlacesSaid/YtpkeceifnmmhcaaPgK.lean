/- Breaks: its contract. -/
import Derived.Test.YtpkeceifnmmhcaaPgJ
namespace Go.Proofs.Ytpkeceifnmmhcaa
open Go.RowKit Go.Th
set_option linter.unusedVariables false
set_option maxRecDepth 20000

def intsP (l : List Int) : PV := .tr (l.map I) l.length 1
theorem tree_ints (l : List Int) : ∀ c ∈ l.map I, Tree c := fun c hc => by
  obtain ⟨x, _, rfl⟩ := List.mem_map.1 hc
  exact tree_I x
theorem tree_intsP (l : List Int) : Tree (intsP l) := Tree.tr (tree_ints l)
theorem flat_one : ∀ l : List Int, l.flatMap (fun x : Int => [I x]) = l.map I
  | [] => rfl
  | a :: l => by simp [flat_one l]
theorem int_spot {l : List Int} {i : Nat} {x : Int} (h : l[i]? = some x) : takeN 1 ((l.map I).drop (i * 1)) = some [I x] := by
  have := flat_at (enc := fun x : Int => [I x]) (sz := 1) (fun _ => rfl) l i x h
  rwa [flat_one] at this

theorem Breaks_err (l : List Piece) (height : Int) (hh : height < 1) : Iso Try.prog 15 [pcs l, I height] (fun p => p = .tup [.v (.slice none 0 0), I 32]) := by
  have hG := has_nil
  refine Iso_enter Try.func15 rfl rfl rfl ?_
  repeat (first
    | refine wpL_end ?_
    | refine wpL_nil ?_
    | refine wpA_seq ?_
    | refine wpA_region ?_
    | refine wpA_block ?_
    | refine wpL_v rfl rfl (by decide) (OpV_move rfl rfl) ?_
    | refine wpL_v rfl rfl (by decide) (OpV_assign rfl rfl) ?_
    | refine wpL_v rfl rfl (by decide) (OpV_cmp rfl rfl rfl rfl) ?_
    | refine wpL_v rfl rfl (by decide) (OpV_add rfl rfl rfl (by omega)) ?_
    | refine wpL_v rfl rfl (by decide) (OpV_sub rfl rfl rfl (by omega)) ?_
    | refine wpL_v rfl rfl (by decide) (OpV_len rfl rfl rfl) ?_
    | refine wpL_v rfl rfl (by decide) (OpV_nilCheck rfl rfl rfl) ?_
    | refine wpL_v rfl rfl (by decide) (OpV_fieldAddr rfl rfl rfl rfl) ?_
    | refine wpL_v rfl rfl (by decide) (OpV_load rfl rfl rfl) ?_
    | refine wpL_v rfl rfl (by decide) (OpV_not rfl rfl) ?_
    | refine wpL_v rfl rfl (by decide) (OpV_extract rfl rfl rfl) ?_
    | refine wpL_v rfl rfl (by decide) (OpV_pick_t rfl rfl (by first | rfl | exact decide_eq_true (by omega)) rfl) ?_
    | refine wpL_v rfl rfl (by decide) (OpV_pick_f rfl rfl (by first | rfl | exact decide_eq_false (by omega)) rfl) ?_
    | refine wpL_v rfl rfl (by decide) (OpV_build rfl rfl rfl rfl) ?_
    | refine wpL_v rfl rfl (by decide) (OpV_max rfl rfl rfl) ?_
    | refine wpL_v rfl rfl (by decide) (OpV_min rfl rfl rfl) ?_
    | refine wpL_v rfl rfl (by decide) (OpV_nilptr rfl rfl rfl) ?_
    | refine wpL_v rfl rfl (by decide) (OpV_beq rfl rfl rfl) ?_
    | refine wpL_v rfl rfl (by decide) (OpV_bne rfl rfl rfl) ?_
    | refine wpL_v rfl rfl (by decide) (OpV_makeFunc rfl rfl) ?_
    | refine wpL_loadH 0 hG rfl rfl (by decide) rfl rfl rfl rfl ?_
    | refine wpL_loadH 1 hG rfl rfl (by decide) rfl rfl rfl rfl ?_
    | refine wpL_loadH 2 hG rfl rfl (by decide) rfl rfl rfl rfl ?_
    | refine wpL_loadH 3 hG rfl rfl (by decide) rfl rfl rfl rfl ?_
    | refine wpL_loadH 4 hG rfl rfl (by decide) rfl rfl rfl rfl ?_
    | refine wpL_loadH 5 hG rfl rfl (by decide) rfl rfl rfl rfl ?_
    | (refine wpL_storeH 0 hG rfl rfl rfl rfl rfl rfl rfl rfl rfl rfl rfl ?_; intro G hG)
    | (refine wpL_storeH 1 hG rfl rfl rfl rfl rfl rfl rfl rfl rfl rfl rfl ?_; intro G hG)
    | (refine wpL_storeH 2 hG rfl rfl rfl rfl rfl rfl rfl rfl rfl rfl rfl ?_; intro G hG)
    | (refine wpL_storeH 3 hG rfl rfl rfl rfl rfl rfl rfl rfl rfl rfl rfl ?_; intro G hG)
    | (refine wpL_storeH 4 hG rfl rfl rfl rfl rfl rfl rfl rfl rfl rfl rfl ?_; intro G hG)
    | (refine wpL_storeH 5 hG rfl rfl rfl rfl rfl rfl rfl rfl rfl rfl rfl ?_; intro G hG)
    | (refine wpL_allocH hG rfl rfl (by decide) rfl rfl ?_; intro id G hG)
    | (refine wpL_boxH hG rfl rfl (by decide) rfl rfl rfl ?_; intro id G hG)
    | (refine wpL_sliceH hG rfl rfl (by decide) rfl rfl rfl rfl rfl rfl rfl rfl ?_; intro id G hG)
    | refine wpL_gt rfl rfl rfl rfl rfl (by decide) (by first | rfl | exact decide_eq_true (by omega) | exact decide_eq_false (by omega) | exact ndec_t (by omega) | exact ndec_f (by omega)) ?_
    | refine wpL_gf rfl rfl rfl rfl rfl (by decide) (by first | rfl | exact decide_eq_true (by omega) | exact decide_eq_false (by omega) | exact ndec_t (by omega) | exact ndec_f (by omega)) ?_
    | refine wpA_ct rfl (by first | rfl | exact decide_eq_true (by omega) | exact ndec_t (by omega)) ?_
    | refine wpA_cf rfl (by first | rfl | exact decide_eq_false (by omega) | exact ndec_f (by omega)) ?_
    | refine wpA_skip ?_
    | refine wpA_exit ?_
    | refine wpA_ret ?_
    | refine x_then_exit ?_
    | refine x_then_ret ?_
    | refine x_then_normal ?_
    | refine x_block_ret ?_
    | refine x_block_normal ?_
    | refine x_block_exit ?_
    | refine x_block_other rfl ?_
    | refine wpL_v rfl rfl (by decide) (OpV_pick_t rfl rfl (ndec_t (by omega)) rfl) ?_
    | refine wpL_v rfl rfl (by decide) (OpV_pick_f rfl rfl (ndec_f (by omega)) rfl) ?_)
  exact postI_2 rfl rfl rfl (.refl _) (.refl _) (.v _) (tree_I 32) rfl

theorem Breaks_ok (l : List Piece) (height : Int) (hl : allOk l) (hh : 1 ≤ height) : Iso Try.prog 15 [pcs l, I height] (fun p => p = .tup [intsP (breaksL l height), I 0]) := by
  have hG := has_nil
  refine Iso_enter Try.func15 rfl rfl rfl ?_
  repeat (first
    | refine wpL_end ?_
    | refine wpL_nil ?_
    | refine wpA_seq ?_
    | refine wpA_region ?_
    | refine wpA_block ?_
    | refine wpL_v rfl rfl (by decide) (OpV_move rfl rfl) ?_
    | refine wpL_v rfl rfl (by decide) (OpV_assign rfl rfl) ?_
    | refine wpL_v rfl rfl (by decide) (OpV_cmp rfl rfl rfl rfl) ?_
    | refine wpL_v rfl rfl (by decide) (OpV_add rfl rfl rfl (by omega)) ?_
    | refine wpL_v rfl rfl (by decide) (OpV_sub rfl rfl rfl (by omega)) ?_
    | refine wpL_v rfl rfl (by decide) (OpV_len rfl rfl rfl) ?_
    | refine wpL_v rfl rfl (by decide) (OpV_nilCheck rfl rfl rfl) ?_
    | refine wpL_v rfl rfl (by decide) (OpV_fieldAddr rfl rfl rfl rfl) ?_
    | refine wpL_v rfl rfl (by decide) (OpV_load rfl rfl rfl) ?_
    | refine wpL_v rfl rfl (by decide) (OpV_not rfl rfl) ?_
    | refine wpL_v rfl rfl (by decide) (OpV_extract rfl rfl rfl) ?_
    | refine wpL_v rfl rfl (by decide) (OpV_pick_t rfl rfl (by first | rfl | exact decide_eq_true (by omega)) rfl) ?_
    | refine wpL_v rfl rfl (by decide) (OpV_pick_f rfl rfl (by first | rfl | exact decide_eq_false (by omega)) rfl) ?_
    | refine wpL_v rfl rfl (by decide) (OpV_build rfl rfl rfl rfl) ?_
    | refine wpL_v rfl rfl (by decide) (OpV_max rfl rfl rfl) ?_
    | refine wpL_v rfl rfl (by decide) (OpV_min rfl rfl rfl) ?_
    | refine wpL_v rfl rfl (by decide) (OpV_nilptr rfl rfl rfl) ?_
    | refine wpL_v rfl rfl (by decide) (OpV_beq rfl rfl rfl) ?_
    | refine wpL_v rfl rfl (by decide) (OpV_bne rfl rfl rfl) ?_
    | refine wpL_v rfl rfl (by decide) (OpV_makeFunc rfl rfl) ?_
    | refine wpL_loadH 0 hG rfl rfl (by decide) rfl rfl rfl rfl ?_
    | refine wpL_loadH 1 hG rfl rfl (by decide) rfl rfl rfl rfl ?_
    | refine wpL_loadH 2 hG rfl rfl (by decide) rfl rfl rfl rfl ?_
    | refine wpL_loadH 3 hG rfl rfl (by decide) rfl rfl rfl rfl ?_
    | refine wpL_loadH 4 hG rfl rfl (by decide) rfl rfl rfl rfl ?_
    | refine wpL_loadH 5 hG rfl rfl (by decide) rfl rfl rfl rfl ?_
    | (refine wpL_storeH 0 hG rfl rfl rfl rfl rfl rfl rfl rfl rfl rfl rfl ?_; intro G hG)
    | (refine wpL_storeH 1 hG rfl rfl rfl rfl rfl rfl rfl rfl rfl rfl rfl ?_; intro G hG)
    | (refine wpL_storeH 2 hG rfl rfl rfl rfl rfl rfl rfl rfl rfl rfl rfl ?_; intro G hG)
    | (refine wpL_storeH 3 hG rfl rfl rfl rfl rfl rfl rfl rfl rfl rfl rfl ?_; intro G hG)
    | (refine wpL_storeH 4 hG rfl rfl rfl rfl rfl rfl rfl rfl rfl rfl rfl ?_; intro G hG)
    | (refine wpL_storeH 5 hG rfl rfl rfl rfl rfl rfl rfl rfl rfl rfl rfl ?_; intro G hG)
    | (refine wpL_allocH hG rfl rfl (by decide) rfl rfl ?_; intro id G hG)
    | (refine wpL_boxH hG rfl rfl (by decide) rfl rfl rfl ?_; intro id G hG)
    | (refine wpL_sliceH hG rfl rfl (by decide) rfl rfl rfl rfl rfl rfl rfl rfl ?_; intro id G hG)
    | refine wpL_gt rfl rfl rfl rfl rfl (by decide) (by first | rfl | exact decide_eq_true (by omega) | exact decide_eq_false (by omega) | exact ndec_t (by omega) | exact ndec_f (by omega)) ?_
    | refine wpL_gf rfl rfl rfl rfl rfl (by decide) (by first | rfl | exact decide_eq_true (by omega) | exact decide_eq_false (by omega) | exact ndec_t (by omega) | exact ndec_f (by omega)) ?_
    | refine wpA_ct rfl (by first | rfl | exact decide_eq_true (by omega) | exact ndec_t (by omega)) ?_
    | refine wpA_cf rfl (by first | rfl | exact decide_eq_false (by omega) | exact ndec_f (by omega)) ?_
    | refine wpA_skip ?_
    | refine wpA_exit ?_
    | refine wpA_ret ?_
    | refine x_then_exit ?_
    | refine x_then_ret ?_
    | refine x_then_normal ?_
    | refine x_block_ret ?_
    | refine x_block_normal ?_
    | refine x_block_exit ?_
    | refine x_block_other rfl ?_
    | refine wpL_v rfl rfl (by decide) (OpV_pick_t rfl rfl (ndec_t (by omega)) rfl) ?_
    | refine wpL_v rfl rfl (by decide) (OpV_pick_f rfl rfl (ndec_f (by omega)) rfl) ?_)
  refine wpL_ac rfl rfl rfl rfl rfl rfl (by decide) (starts_ac _ l height hG) ?_
  rintro _ G ⟨id1, id2, rfl, hG⟩
  refine wpL_ac rfl rfl rfl rfl rfl rfl (by decide) (collect_ac _ l height hl (hG.get 1 _ _ rfl) (hG.get 0 _ _ rfl)) ?_
  rintro _ G2 ⟨rfl, rfl⟩
  have hG := hG.new (Blk.mk ((breaksL l height).map I) 3 true)
  repeat (first
    | refine wpL_end ?_
    | refine wpL_nil ?_
    | refine wpA_seq ?_
    | refine wpA_region ?_
    | refine wpA_block ?_
    | refine wpL_v rfl rfl (by decide) (OpV_move rfl rfl) ?_
    | refine wpL_v rfl rfl (by decide) (OpV_assign rfl rfl) ?_
    | refine wpL_v rfl rfl (by decide) (OpV_cmp rfl rfl rfl rfl) ?_
    | refine wpL_v rfl rfl (by decide) (OpV_add rfl rfl rfl (by omega)) ?_
    | refine wpL_v rfl rfl (by decide) (OpV_sub rfl rfl rfl (by omega)) ?_
    | refine wpL_v rfl rfl (by decide) (OpV_len rfl rfl rfl) ?_
    | refine wpL_v rfl rfl (by decide) (OpV_nilCheck rfl rfl rfl) ?_
    | refine wpL_v rfl rfl (by decide) (OpV_fieldAddr rfl rfl rfl rfl) ?_
    | refine wpL_v rfl rfl (by decide) (OpV_load rfl rfl rfl) ?_
    | refine wpL_v rfl rfl (by decide) (OpV_not rfl rfl) ?_
    | refine wpL_v rfl rfl (by decide) (OpV_extract rfl rfl rfl) ?_
    | refine wpL_v rfl rfl (by decide) (OpV_pick_t rfl rfl (by first | rfl | exact decide_eq_true (by omega)) rfl) ?_
    | refine wpL_v rfl rfl (by decide) (OpV_pick_f rfl rfl (by first | rfl | exact decide_eq_false (by omega)) rfl) ?_
    | refine wpL_v rfl rfl (by decide) (OpV_build rfl rfl rfl rfl) ?_
    | refine wpL_v rfl rfl (by decide) (OpV_max rfl rfl rfl) ?_
    | refine wpL_v rfl rfl (by decide) (OpV_min rfl rfl rfl) ?_
    | refine wpL_v rfl rfl (by decide) (OpV_nilptr rfl rfl rfl) ?_
    | refine wpL_v rfl rfl (by decide) (OpV_beq rfl rfl rfl) ?_
    | refine wpL_v rfl rfl (by decide) (OpV_bne rfl rfl rfl) ?_
    | refine wpL_v rfl rfl (by decide) (OpV_makeFunc rfl rfl) ?_
    | refine wpL_loadH 0 hG rfl rfl (by decide) rfl rfl rfl rfl ?_
    | refine wpL_loadH 1 hG rfl rfl (by decide) rfl rfl rfl rfl ?_
    | refine wpL_loadH 2 hG rfl rfl (by decide) rfl rfl rfl rfl ?_
    | refine wpL_loadH 3 hG rfl rfl (by decide) rfl rfl rfl rfl ?_
    | refine wpL_loadH 4 hG rfl rfl (by decide) rfl rfl rfl rfl ?_
    | refine wpL_loadH 5 hG rfl rfl (by decide) rfl rfl rfl rfl ?_
    | (refine wpL_storeH 0 hG rfl rfl rfl rfl rfl rfl rfl rfl rfl rfl rfl ?_; intro G hG)
    | (refine wpL_storeH 1 hG rfl rfl rfl rfl rfl rfl rfl rfl rfl rfl rfl ?_; intro G hG)
    | (refine wpL_storeH 2 hG rfl rfl rfl rfl rfl rfl rfl rfl rfl rfl rfl ?_; intro G hG)
    | (refine wpL_storeH 3 hG rfl rfl rfl rfl rfl rfl rfl rfl rfl rfl rfl ?_; intro G hG)
    | (refine wpL_storeH 4 hG rfl rfl rfl rfl rfl rfl rfl rfl rfl rfl rfl ?_; intro G hG)
    | (refine wpL_storeH 5 hG rfl rfl rfl rfl rfl rfl rfl rfl rfl rfl rfl ?_; intro G hG)
    | (refine wpL_allocH hG rfl rfl (by decide) rfl rfl ?_; intro id G hG)
    | (refine wpL_boxH hG rfl rfl (by decide) rfl rfl rfl ?_; intro id G hG)
    | (refine wpL_sliceH hG rfl rfl (by decide) rfl rfl rfl rfl rfl rfl rfl rfl ?_; intro id G hG)
    | refine wpL_gt rfl rfl rfl rfl rfl (by decide) (by first | rfl | exact decide_eq_true (by omega) | exact decide_eq_false (by omega) | exact ndec_t (by omega) | exact ndec_f (by omega)) ?_
    | refine wpL_gf rfl rfl rfl rfl rfl (by decide) (by first | rfl | exact decide_eq_true (by omega) | exact decide_eq_false (by omega) | exact ndec_t (by omega) | exact ndec_f (by omega)) ?_
    | refine wpA_ct rfl (by first | rfl | exact decide_eq_true (by omega) | exact ndec_t (by omega)) ?_
    | refine wpA_cf rfl (by first | rfl | exact decide_eq_false (by omega) | exact ndec_f (by omega)) ?_
    | refine wpA_skip ?_
    | refine wpA_exit ?_
    | refine wpA_ret ?_
    | refine x_then_exit ?_
    | refine x_then_ret ?_
    | refine x_then_normal ?_
    | refine x_block_ret ?_
    | refine x_block_normal ?_
    | refine x_block_exit ?_
    | refine x_block_other rfl ?_
    | refine wpL_v rfl rfl (by decide) (OpV_pick_t rfl rfl (ndec_t (by omega)) rfl) ?_
    | refine wpL_v rfl rfl (by decide) (OpV_pick_f rfl rfl (ndec_f (by omega)) rfl) ?_)
  exact postI_2 rfl rfl rfl (.own hG (k := 0) rfl (by simp)) (.refl _) (tree_intsP _) (tree_I 0) rfl
end Go.Proofs.Ytpkeceifnmmhcaa
