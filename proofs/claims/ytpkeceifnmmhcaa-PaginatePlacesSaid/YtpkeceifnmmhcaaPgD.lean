/- The walk of Fill. -/
import Derived.Test.YtpkeceifnmmhcaaPgC
namespace Go.Proofs.Ytpkeceifnmmhcaa
open Go.Th
set_option linter.unusedVariables false
set_option maxRecDepth 20000

/-- What Fill answers. -/
def fillR (l : List Piece) (a height : Int) : Int × Int := if a < 0 ∨ (l.length : Int) ≤ a then (0, 2) else if height < 1 then (0, 32) else (fillF l a.toNat height, 0)

theorem Fill_iso (l : List Piece) (a : Int) (height : Int) (hl : allOk l) :
    Iso Try.prog 19 [pcs l, I a, I height] (fun p => p = .tup [I (fillR l a height).1, I (fillR l a height).2]) := by
  refine Iso_enter Try.func19 rfl rfl rfl ?_
  by_cases h1 : a < 0
  · have e : fillR l a height = (0, 2) := by simp [fillR, h1]
    rw [e]
    repeat (first
      | refine wpL_end ?_
      | refine wpL_nil ?_
      | refine wpA_seq ?_
      | refine wpA_region ?_
      | refine wpA_block ?_
      | refine wpL_v rfl rfl (by decide) (OpV_move rfl rfl) ?_
      | refine wpL_v rfl rfl (by decide) (OpV_assign rfl rfl) ?_
      | refine wpL_v rfl rfl (by decide) (OpV_cmp rfl rfl rfl rfl) ?_
      | refine wpL_v rfl rfl (by decide) (OpV_add rfl rfl rfl (by omega)) ?_
      | refine wpL_v rfl rfl (by decide) (OpV_sub rfl rfl rfl (by omega)) ?_
      | refine wpL_v rfl rfl (by decide) (OpV_len rfl rfl rfl) ?_
      | refine wpL_v rfl rfl (by decide) (OpV_nilCheck rfl rfl rfl) ?_
      | refine wpL_v rfl rfl (by decide) (OpV_fieldAddr rfl rfl rfl rfl) ?_
      | refine wpL_v rfl rfl (by decide) (OpV_load rfl rfl rfl) ?_
      | refine wpL_v rfl rfl (by decide) (OpV_load_at rfl rfl (get_new _ _) rfl) ?_
      | refine wpL_v rfl rfl (by decide) (OpV_not rfl rfl) ?_
      | refine wpL_v rfl rfl (by decide) (OpV_extract rfl rfl rfl) ?_
      | refine wpL_v rfl rfl (by decide) (OpV_pick_t rfl rfl (by first | rfl | exact decide_eq_true (by omega)) rfl) ?_
      | refine wpL_v rfl rfl (by decide) (OpV_pick_f rfl rfl (by first | rfl | exact decide_eq_false (by omega)) rfl) ?_
      | refine wpL_v rfl rfl (by decide) (OpV_build rfl rfl rfl rfl) ?_
      | refine wpL_v rfl rfl (by decide) (OpV_max rfl rfl rfl) ?_
      | refine wpL_v rfl rfl (by decide) (OpV_min rfl rfl rfl) ?_
      | refine wpL_v rfl rfl (by decide) (OpV_nilptr rfl rfl rfl) ?_
      | refine wpL_v rfl rfl (by decide) (OpV_beq rfl rfl rfl) ?_
      | refine wpL_v rfl rfl (by decide) (OpV_bne rfl rfl rfl) ?_
      | refine wpL_v rfl rfl (by decide) (OpV_makeFunc rfl rfl) ?_
      | refine wpL_w rfl rfl (by decide) (OpW_alloc rfl rfl) ?_
      | refine wpL_w rfl rfl (by decide) (OpW_box rfl rfl rfl) ?_
      | refine wpL_w rfl rfl (by decide) (OpW_buildSlice rfl rfl rfl rfl rfl rfl rfl rfl) ?_
      | refine wpL_s rfl rfl (OpS_store_new rfl rfl rfl rfl rfl rfl rfl) ?_
      | refine wpL_s rfl rfl (OpS_store_new1 rfl rfl rfl rfl rfl rfl rfl) ?_
      | refine wpL_s rfl rfl (OpS_store rfl rfl rfl rfl rfl rfl) ?_
      | refine wpL_gt rfl rfl rfl rfl rfl (by decide) (by first | rfl | exact decide_eq_true (by omega) | exact decide_eq_false (by omega)) ?_
      | refine wpL_gf rfl rfl rfl rfl rfl (by decide) (by first | rfl | exact decide_eq_true (by omega) | exact decide_eq_false (by omega)) ?_
      | refine wpA_ct rfl (by first | rfl | exact decide_eq_true (by omega)) ?_
      | refine wpA_cf rfl (by first | rfl | exact decide_eq_false (by omega)) ?_
      | refine wpA_skip ?_
      | refine wpA_exit ?_
      | refine wpA_ret ?_
      | refine x_then_exit ?_
      | refine x_then_ret ?_
      | refine x_then_normal ?_
      | refine x_block_ret ?_
      | refine x_block_normal ?_
      | refine x_block_exit ?_
      | refine x_block_other rfl ?_)
    exact postI_2 rfl rfl rfl (.refl _) (.refl _) (.v _) (.v _) rfl
  by_cases h2 : (l.length : Int) ≤ a
  · have e : fillR l a height = (0, 2) := by simp [fillR, h2]
    rw [e]
    repeat (first
      | refine wpL_end ?_
      | refine wpL_nil ?_
      | refine wpA_seq ?_
      | refine wpA_region ?_
      | refine wpA_block ?_
      | refine wpL_v rfl rfl (by decide) (OpV_move rfl rfl) ?_
      | refine wpL_v rfl rfl (by decide) (OpV_assign rfl rfl) ?_
      | refine wpL_v rfl rfl (by decide) (OpV_cmp rfl rfl rfl rfl) ?_
      | refine wpL_v rfl rfl (by decide) (OpV_add rfl rfl rfl (by omega)) ?_
      | refine wpL_v rfl rfl (by decide) (OpV_sub rfl rfl rfl (by omega)) ?_
      | refine wpL_v rfl rfl (by decide) (OpV_len rfl rfl rfl) ?_
      | refine wpL_v rfl rfl (by decide) (OpV_nilCheck rfl rfl rfl) ?_
      | refine wpL_v rfl rfl (by decide) (OpV_fieldAddr rfl rfl rfl rfl) ?_
      | refine wpL_v rfl rfl (by decide) (OpV_load rfl rfl rfl) ?_
      | refine wpL_v rfl rfl (by decide) (OpV_load_at rfl rfl (get_new _ _) rfl) ?_
      | refine wpL_v rfl rfl (by decide) (OpV_not rfl rfl) ?_
      | refine wpL_v rfl rfl (by decide) (OpV_extract rfl rfl rfl) ?_
      | refine wpL_v rfl rfl (by decide) (OpV_pick_t rfl rfl (by first | rfl | exact decide_eq_true (by omega)) rfl) ?_
      | refine wpL_v rfl rfl (by decide) (OpV_pick_f rfl rfl (by first | rfl | exact decide_eq_false (by omega)) rfl) ?_
      | refine wpL_v rfl rfl (by decide) (OpV_build rfl rfl rfl rfl) ?_
      | refine wpL_v rfl rfl (by decide) (OpV_max rfl rfl rfl) ?_
      | refine wpL_v rfl rfl (by decide) (OpV_min rfl rfl rfl) ?_
      | refine wpL_v rfl rfl (by decide) (OpV_nilptr rfl rfl rfl) ?_
      | refine wpL_v rfl rfl (by decide) (OpV_beq rfl rfl rfl) ?_
      | refine wpL_v rfl rfl (by decide) (OpV_bne rfl rfl rfl) ?_
      | refine wpL_v rfl rfl (by decide) (OpV_makeFunc rfl rfl) ?_
      | refine wpL_w rfl rfl (by decide) (OpW_alloc rfl rfl) ?_
      | refine wpL_w rfl rfl (by decide) (OpW_box rfl rfl rfl) ?_
      | refine wpL_w rfl rfl (by decide) (OpW_buildSlice rfl rfl rfl rfl rfl rfl rfl rfl) ?_
      | refine wpL_s rfl rfl (OpS_store_new rfl rfl rfl rfl rfl rfl rfl) ?_
      | refine wpL_s rfl rfl (OpS_store_new1 rfl rfl rfl rfl rfl rfl rfl) ?_
      | refine wpL_s rfl rfl (OpS_store rfl rfl rfl rfl rfl rfl) ?_
      | refine wpL_gt rfl rfl rfl rfl rfl (by decide) (by first | rfl | exact decide_eq_true (by omega) | exact decide_eq_false (by omega)) ?_
      | refine wpL_gf rfl rfl rfl rfl rfl (by decide) (by first | rfl | exact decide_eq_true (by omega) | exact decide_eq_false (by omega)) ?_
      | refine wpA_ct rfl (by first | rfl | exact decide_eq_true (by omega)) ?_
      | refine wpA_cf rfl (by first | rfl | exact decide_eq_false (by omega)) ?_
      | refine wpA_skip ?_
      | refine wpA_exit ?_
      | refine wpA_ret ?_
      | refine x_then_exit ?_
      | refine x_then_ret ?_
      | refine x_then_normal ?_
      | refine x_block_ret ?_
      | refine x_block_normal ?_
      | refine x_block_exit ?_
      | refine x_block_other rfl ?_)
    exact postI_2 rfl rfl rfl (.refl _) (.refl _) (.v _) (.v _) rfl
  by_cases h3 : height < 1
  · have e : fillR l a height = (0, 32) := by simp [fillR, h1, h2, h3]
    rw [e]
    repeat (first
      | refine wpL_end ?_
      | refine wpL_nil ?_
      | refine wpA_seq ?_
      | refine wpA_region ?_
      | refine wpA_block ?_
      | refine wpL_v rfl rfl (by decide) (OpV_move rfl rfl) ?_
      | refine wpL_v rfl rfl (by decide) (OpV_assign rfl rfl) ?_
      | refine wpL_v rfl rfl (by decide) (OpV_cmp rfl rfl rfl rfl) ?_
      | refine wpL_v rfl rfl (by decide) (OpV_add rfl rfl rfl (by omega)) ?_
      | refine wpL_v rfl rfl (by decide) (OpV_sub rfl rfl rfl (by omega)) ?_
      | refine wpL_v rfl rfl (by decide) (OpV_len rfl rfl rfl) ?_
      | refine wpL_v rfl rfl (by decide) (OpV_nilCheck rfl rfl rfl) ?_
      | refine wpL_v rfl rfl (by decide) (OpV_fieldAddr rfl rfl rfl rfl) ?_
      | refine wpL_v rfl rfl (by decide) (OpV_load rfl rfl rfl) ?_
      | refine wpL_v rfl rfl (by decide) (OpV_load_at rfl rfl (get_new _ _) rfl) ?_
      | refine wpL_v rfl rfl (by decide) (OpV_not rfl rfl) ?_
      | refine wpL_v rfl rfl (by decide) (OpV_extract rfl rfl rfl) ?_
      | refine wpL_v rfl rfl (by decide) (OpV_pick_t rfl rfl (by first | rfl | exact decide_eq_true (by omega)) rfl) ?_
      | refine wpL_v rfl rfl (by decide) (OpV_pick_f rfl rfl (by first | rfl | exact decide_eq_false (by omega)) rfl) ?_
      | refine wpL_v rfl rfl (by decide) (OpV_build rfl rfl rfl rfl) ?_
      | refine wpL_v rfl rfl (by decide) (OpV_max rfl rfl rfl) ?_
      | refine wpL_v rfl rfl (by decide) (OpV_min rfl rfl rfl) ?_
      | refine wpL_v rfl rfl (by decide) (OpV_nilptr rfl rfl rfl) ?_
      | refine wpL_v rfl rfl (by decide) (OpV_beq rfl rfl rfl) ?_
      | refine wpL_v rfl rfl (by decide) (OpV_bne rfl rfl rfl) ?_
      | refine wpL_v rfl rfl (by decide) (OpV_makeFunc rfl rfl) ?_
      | refine wpL_w rfl rfl (by decide) (OpW_alloc rfl rfl) ?_
      | refine wpL_w rfl rfl (by decide) (OpW_box rfl rfl rfl) ?_
      | refine wpL_w rfl rfl (by decide) (OpW_buildSlice rfl rfl rfl rfl rfl rfl rfl rfl) ?_
      | refine wpL_s rfl rfl (OpS_store_new rfl rfl rfl rfl rfl rfl rfl) ?_
      | refine wpL_s rfl rfl (OpS_store_new1 rfl rfl rfl rfl rfl rfl rfl) ?_
      | refine wpL_s rfl rfl (OpS_store rfl rfl rfl rfl rfl rfl) ?_
      | refine wpL_gt rfl rfl rfl rfl rfl (by decide) (by first | rfl | exact decide_eq_true (by omega) | exact decide_eq_false (by omega)) ?_
      | refine wpL_gf rfl rfl rfl rfl rfl (by decide) (by first | rfl | exact decide_eq_true (by omega) | exact decide_eq_false (by omega)) ?_
      | refine wpA_ct rfl (by first | rfl | exact decide_eq_true (by omega)) ?_
      | refine wpA_cf rfl (by first | rfl | exact decide_eq_false (by omega)) ?_
      | refine wpA_skip ?_
      | refine wpA_exit ?_
      | refine wpA_ret ?_
      | refine x_then_exit ?_
      | refine x_then_ret ?_
      | refine x_then_normal ?_
      | refine x_block_ret ?_
      | refine x_block_normal ?_
      | refine x_block_exit ?_
      | refine x_block_other rfl ?_)
    exact postI_2 rfl rfl rfl (.refl _) (.refl _) (.v _) (.v _) rfl
  have e : fillR l a height = ((fillF l a.toNat height : Int), 0) := by simp [fillR, h1, h2, h3]
  rw [e]
  obtain ⟨n, rfl⟩ : ∃ n : Nat, a = n := ⟨a.toNat, by omega⟩
  have hf := fill_iso l n height hl (by omega)
  repeat (first
    | refine wpL_end ?_
    | refine wpL_nil ?_
    | refine wpA_seq ?_
    | refine wpA_region ?_
    | refine wpA_block ?_
    | refine wpL_is rfl rfl rfl rfl rfl rfl (by decide) hf (TreeL.cons (tree_pcs l) (TreeL.cons (tree_I _) (TreeL.cons (tree_I _) TreeL.nil))) ?_
    | refine wpL_v rfl rfl (by decide) (OpV_move rfl rfl) ?_
    | refine wpL_v rfl rfl (by decide) (OpV_assign rfl rfl) ?_
    | refine wpL_v rfl rfl (by decide) (OpV_cmp rfl rfl rfl rfl) ?_
    | refine wpL_v rfl rfl (by decide) (OpV_add rfl rfl rfl (by omega)) ?_
    | refine wpL_v rfl rfl (by decide) (OpV_sub rfl rfl rfl (by omega)) ?_
    | refine wpL_v rfl rfl (by decide) (OpV_len rfl rfl rfl) ?_
    | refine wpL_v rfl rfl (by decide) (OpV_nilCheck rfl rfl rfl) ?_
    | refine wpL_v rfl rfl (by decide) (OpV_fieldAddr rfl rfl rfl rfl) ?_
    | refine wpL_v rfl rfl (by decide) (OpV_load rfl rfl rfl) ?_
    | refine wpL_v rfl rfl (by decide) (OpV_load_at rfl rfl (get_new _ _) rfl) ?_
    | refine wpL_v rfl rfl (by decide) (OpV_not rfl rfl) ?_
    | refine wpL_v rfl rfl (by decide) (OpV_extract rfl rfl rfl) ?_
    | refine wpL_v rfl rfl (by decide) (OpV_pick_t rfl rfl (by first | rfl | exact decide_eq_true (by omega)) rfl) ?_
    | refine wpL_v rfl rfl (by decide) (OpV_pick_f rfl rfl (by first | rfl | exact decide_eq_false (by omega)) rfl) ?_
    | refine wpL_v rfl rfl (by decide) (OpV_build rfl rfl rfl rfl) ?_
    | refine wpL_v rfl rfl (by decide) (OpV_max rfl rfl rfl) ?_
    | refine wpL_v rfl rfl (by decide) (OpV_min rfl rfl rfl) ?_
    | refine wpL_v rfl rfl (by decide) (OpV_nilptr rfl rfl rfl) ?_
    | refine wpL_v rfl rfl (by decide) (OpV_beq rfl rfl rfl) ?_
    | refine wpL_v rfl rfl (by decide) (OpV_bne rfl rfl rfl) ?_
    | refine wpL_v rfl rfl (by decide) (OpV_makeFunc rfl rfl) ?_
    | refine wpL_w rfl rfl (by decide) (OpW_alloc rfl rfl) ?_
    | refine wpL_w rfl rfl (by decide) (OpW_box rfl rfl rfl) ?_
    | refine wpL_w rfl rfl (by decide) (OpW_buildSlice rfl rfl rfl rfl rfl rfl rfl rfl) ?_
    | refine wpL_s rfl rfl (OpS_store_new rfl rfl rfl rfl rfl rfl rfl) ?_
    | refine wpL_s rfl rfl (OpS_store_new1 rfl rfl rfl rfl rfl rfl rfl) ?_
    | refine wpL_s rfl rfl (OpS_store rfl rfl rfl rfl rfl rfl) ?_
    | refine wpL_gt rfl rfl rfl rfl rfl (by decide) (by first | rfl | exact decide_eq_true (by omega) | exact decide_eq_false (by omega)) ?_
    | refine wpL_gf rfl rfl rfl rfl rfl (by decide) (by first | rfl | exact decide_eq_true (by omega) | exact decide_eq_false (by omega)) ?_
    | refine wpA_ct rfl (by first | rfl | exact decide_eq_true (by omega)) ?_
    | refine wpA_cf rfl (by first | rfl | exact decide_eq_false (by omega)) ?_
    | refine wpA_skip ?_
    | refine wpA_exit ?_
    | refine wpA_ret ?_
    | refine x_then_exit ?_
    | refine x_then_ret ?_
    | refine x_then_normal ?_
    | refine x_block_ret ?_
    | refine x_block_normal ?_
    | refine x_block_exit ?_
    | refine x_block_other rfl ?_)
  rintro _ rfl
  repeat (first
    | refine wpL_end ?_
    | refine wpL_nil ?_
    | refine wpA_seq ?_
    | refine wpA_region ?_
    | refine wpA_block ?_
    | refine wpL_v rfl rfl (by decide) (OpV_move rfl rfl) ?_
    | refine wpL_v rfl rfl (by decide) (OpV_assign rfl rfl) ?_
    | refine wpL_v rfl rfl (by decide) (OpV_cmp rfl rfl rfl rfl) ?_
    | refine wpL_v rfl rfl (by decide) (OpV_add rfl rfl rfl (by omega)) ?_
    | refine wpL_v rfl rfl (by decide) (OpV_sub rfl rfl rfl (by omega)) ?_
    | refine wpL_v rfl rfl (by decide) (OpV_len rfl rfl rfl) ?_
    | refine wpL_v rfl rfl (by decide) (OpV_nilCheck rfl rfl rfl) ?_
    | refine wpL_v rfl rfl (by decide) (OpV_fieldAddr rfl rfl rfl rfl) ?_
    | refine wpL_v rfl rfl (by decide) (OpV_load rfl rfl rfl) ?_
    | refine wpL_v rfl rfl (by decide) (OpV_load_at rfl rfl (get_new _ _) rfl) ?_
    | refine wpL_v rfl rfl (by decide) (OpV_not rfl rfl) ?_
    | refine wpL_v rfl rfl (by decide) (OpV_extract rfl rfl rfl) ?_
    | refine wpL_v rfl rfl (by decide) (OpV_pick_t rfl rfl (by first | rfl | exact decide_eq_true (by omega)) rfl) ?_
    | refine wpL_v rfl rfl (by decide) (OpV_pick_f rfl rfl (by first | rfl | exact decide_eq_false (by omega)) rfl) ?_
    | refine wpL_v rfl rfl (by decide) (OpV_build rfl rfl rfl rfl) ?_
    | refine wpL_v rfl rfl (by decide) (OpV_max rfl rfl rfl) ?_
    | refine wpL_v rfl rfl (by decide) (OpV_min rfl rfl rfl) ?_
    | refine wpL_v rfl rfl (by decide) (OpV_nilptr rfl rfl rfl) ?_
    | refine wpL_v rfl rfl (by decide) (OpV_beq rfl rfl rfl) ?_
    | refine wpL_v rfl rfl (by decide) (OpV_bne rfl rfl rfl) ?_
    | refine wpL_v rfl rfl (by decide) (OpV_makeFunc rfl rfl) ?_
    | refine wpL_w rfl rfl (by decide) (OpW_alloc rfl rfl) ?_
    | refine wpL_w rfl rfl (by decide) (OpW_box rfl rfl rfl) ?_
    | refine wpL_w rfl rfl (by decide) (OpW_buildSlice rfl rfl rfl rfl rfl rfl rfl rfl) ?_
    | refine wpL_s rfl rfl (OpS_store_new rfl rfl rfl rfl rfl rfl rfl) ?_
    | refine wpL_s rfl rfl (OpS_store_new1 rfl rfl rfl rfl rfl rfl rfl) ?_
    | refine wpL_s rfl rfl (OpS_store rfl rfl rfl rfl rfl rfl) ?_
    | refine wpL_gt rfl rfl rfl rfl rfl (by decide) (by first | rfl | exact decide_eq_true (by omega) | exact decide_eq_false (by omega)) ?_
    | refine wpL_gf rfl rfl rfl rfl rfl (by decide) (by first | rfl | exact decide_eq_true (by omega) | exact decide_eq_false (by omega)) ?_
    | refine wpA_ct rfl (by first | rfl | exact decide_eq_true (by omega)) ?_
    | refine wpA_cf rfl (by first | rfl | exact decide_eq_false (by omega)) ?_
    | refine wpA_skip ?_
    | refine wpA_exit ?_
    | refine wpA_ret ?_
    | refine x_then_exit ?_
    | refine x_then_ret ?_
    | refine x_then_normal ?_
    | refine x_block_ret ?_
    | refine x_block_normal ?_
    | refine x_block_exit ?_
    | refine x_block_other rfl ?_)
  exact postI_2 rfl rfl rfl (.refl _) (.refl _) (.v _) (.v _) rfl
end Go.Proofs.Ytpkeceifnmmhcaa
