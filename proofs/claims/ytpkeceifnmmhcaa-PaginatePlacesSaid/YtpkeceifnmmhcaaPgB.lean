/- The walks of layer 48: the filler's height, the first piece of a page. -/
import Derived.Test.YtpkeceifnmmhcaaPgA
namespace Go.Proofs.Ytpkeceifnmmhcaa
open Go.Th
set_option linter.unusedVariables false
set_option maxRecDepth 20000

def fillH (r t nn f : Int) : Int := r + t + nn + (if 0 < f then 120 else 0)

theorem height_ac (H : Heap) (id : Nat) (r t nn f : Int) (h : H[id]? = some (some (filler r t nn f))) (hr : small r)
    (ht : 0 ≤ t ∧ t ≤ 1000000000000) (hn : 0 ≤ nn ∧ nn ≤ 1000000000000) (hf : 0 ≤ f ∧ f ≤ 1000000) :
    AC Try.prog 61 [.ptr id 0] H (fun x H' => x = I (fillH r t nn f) ∧ H' = H) := by
  simp only [small] at hr
  refine AC_enter Try.func61 rfl rfl rfl ?_
  repeat (first
    | refine wpL_end ?_
    | refine wpL_nil ?_
    | refine wpA_seq ?_
    | refine wpA_region ?_
    | refine wpA_block ?_
    | refine wpL_v rfl rfl (by decide) (OpV_move rfl rfl) ?_
    | refine wpL_v rfl rfl (by decide) (OpV_assign rfl rfl) ?_
    | refine wpL_v rfl rfl (by decide) (OpV_cmp rfl rfl rfl rfl) ?_
    | refine wpL_v rfl rfl (by decide) (OpV_add rfl rfl rfl (by omega)) ?_
    | refine wpL_v rfl rfl (by decide) (OpV_sub rfl rfl rfl (by omega)) ?_
    | refine wpL_v rfl rfl (by decide) (OpV_len rfl rfl rfl) ?_
    | refine wpL_v rfl rfl (by decide) (OpV_nilCheck rfl rfl rfl) ?_
    | refine wpL_v rfl rfl (by decide) (OpV_fieldAddr rfl rfl rfl rfl) ?_
    | refine wpL_v rfl rfl (by decide) (OpV_load rfl rfl rfl) ?_
    | refine wpL_v rfl rfl (by decide) (OpV_load_at rfl rfl (get_new _ _) rfl) ?_
    | refine wpL_v rfl rfl (by decide) (OpV_not rfl rfl) ?_
    | refine wpL_v rfl rfl (by decide) (OpV_extract rfl rfl rfl) ?_
    | refine wpL_v rfl rfl (by decide) (OpV_pick_t rfl rfl (by first | rfl | exact decide_eq_true (by omega)) rfl) ?_
    | refine wpL_v rfl rfl (by decide) (OpV_pick_f rfl rfl (by first | rfl | exact decide_eq_false (by omega)) rfl) ?_
    | refine wpL_v rfl rfl (by decide) (OpV_build rfl rfl rfl rfl) ?_
    | refine wpL_v rfl rfl (by decide) (OpV_max rfl rfl rfl) ?_
    | refine wpL_v rfl rfl (by decide) (OpV_min rfl rfl rfl) ?_
    | refine wpL_v rfl rfl (by decide) (OpV_nilptr rfl rfl rfl) ?_
    | refine wpL_v rfl rfl (by decide) (OpV_beq rfl rfl rfl) ?_
    | refine wpL_v rfl rfl (by decide) (OpV_bne rfl rfl rfl) ?_
    | refine wpL_v rfl rfl (by decide) (OpV_makeFunc rfl rfl) ?_
    | refine wpL_w rfl rfl (by decide) (OpW_alloc rfl rfl) ?_
    | refine wpL_w rfl rfl (by decide) (OpW_box rfl rfl rfl) ?_
    | refine wpL_w rfl rfl (by decide) (OpW_buildSlice rfl rfl rfl rfl rfl rfl rfl rfl) ?_
    | refine wpL_s rfl rfl (OpS_store_new rfl rfl rfl rfl rfl rfl rfl) ?_
    | refine wpL_s rfl rfl (OpS_store_new1 rfl rfl rfl rfl rfl rfl rfl) ?_
    | refine wpL_s rfl rfl (OpS_store rfl rfl rfl rfl rfl rfl) ?_
    | refine wpL_gt rfl rfl rfl rfl rfl (by decide) (by first | rfl | exact decide_eq_true (by omega) | exact decide_eq_false (by omega)) ?_
    | refine wpL_gf rfl rfl rfl rfl rfl (by decide) (by first | rfl | exact decide_eq_true (by omega) | exact decide_eq_false (by omega)) ?_
    | refine wpA_ct rfl (by first | rfl | exact decide_eq_true (by omega)) ?_
    | refine wpA_cf rfl (by first | rfl | exact decide_eq_false (by omega)) ?_
    | refine wpA_skip ?_
    | refine wpA_exit ?_
    | refine wpA_ret ?_
    | refine x_then_exit ?_
    | refine x_then_ret ?_
    | refine x_then_normal ?_
    | refine x_block_ret ?_
    | refine x_block_normal ?_
    | refine x_block_exit ?_
    | refine x_block_other rfl ?_)
  refine wpA_dq mixed (by decide +kernel) ?_
  repeat (first
    | refine D_q rfl rfl rfl (by decide) (OpV_load_at rfl rfl h rfl) ?_
    | refine D_q rfl rfl rfl (by decide) (OpV_move rfl rfl) ?_
    | refine D_q rfl rfl rfl (by decide) (OpV_assign rfl rfl) ?_
    | refine D_q rfl rfl rfl (by decide) (OpV_cmp rfl rfl rfl rfl) ?_
    | refine D_q rfl rfl rfl (by decide) (OpV_add rfl rfl rfl (by omega)) ?_
    | refine D_q rfl rfl rfl (by decide) (OpV_sub rfl rfl rfl (by omega)) ?_
    | refine D_q rfl rfl rfl (by decide) (OpV_len rfl rfl rfl) ?_
    | refine D_q rfl rfl rfl (by decide) (OpV_nilCheck rfl rfl rfl) ?_
    | refine D_q rfl rfl rfl (by decide) (OpV_fieldAddr rfl rfl rfl rfl) ?_
    | refine D_q rfl rfl rfl (by decide) (OpV_load rfl rfl rfl) ?_
    | refine D_q rfl rfl rfl (by decide) (OpV_load_at rfl rfl (get_new _ _) rfl) ?_
    | refine D_q rfl rfl rfl (by decide) (OpV_not rfl rfl) ?_
    | refine D_q rfl rfl rfl (by decide) (OpV_extract rfl rfl rfl) ?_
    | refine D_q rfl rfl rfl (by decide) (OpV_pick_t rfl rfl (by first | rfl | exact decide_eq_true (by omega)) rfl) ?_
    | refine D_q rfl rfl rfl (by decide) (OpV_pick_f rfl rfl (by first | rfl | exact decide_eq_false (by omega)) rfl) ?_
    | refine D_q rfl rfl rfl (by decide) (OpV_build rfl rfl rfl rfl) ?_
    | refine D_q rfl rfl rfl (by decide) (OpV_max rfl rfl rfl) ?_
    | refine D_q rfl rfl rfl (by decide) (OpV_min rfl rfl rfl) ?_
    | refine D_q rfl rfl rfl (by decide) (OpV_nilptr rfl rfl rfl) ?_
    | refine D_q rfl rfl rfl (by decide) (OpV_beq rfl rfl rfl) ?_
    | refine D_q rfl rfl rfl (by decide) (OpV_bne rfl rfl rfl) ?_
    | refine D_q rfl rfl rfl (by decide) (OpV_makeFunc rfl rfl) ?_
    | refine D_gq rfl rfl rfl rfl rfl (by decide) (OpV_move rfl rfl) ?_
    | refine D_gq rfl rfl rfl rfl rfl (by decide) (OpV_assign rfl rfl) ?_
    | refine D_gq rfl rfl rfl rfl rfl (by decide) (OpV_cmp rfl rfl rfl rfl) ?_
    | refine D_gq rfl rfl rfl rfl rfl (by decide) (OpV_add rfl rfl rfl (by omega)) ?_
    | refine D_gq rfl rfl rfl rfl rfl (by decide) (OpV_sub rfl rfl rfl (by omega)) ?_
    | refine D_gq rfl rfl rfl rfl rfl (by decide) (OpV_len rfl rfl rfl) ?_
    | refine D_gq rfl rfl rfl rfl rfl (by decide) (OpV_nilCheck rfl rfl rfl) ?_
    | refine D_gq rfl rfl rfl rfl rfl (by decide) (OpV_fieldAddr rfl rfl rfl rfl) ?_
    | refine D_gq rfl rfl rfl rfl rfl (by decide) (OpV_load rfl rfl rfl) ?_
    | refine D_gq rfl rfl rfl rfl rfl (by decide) (OpV_not rfl rfl) ?_
    | refine D_gq rfl rfl rfl rfl rfl (by decide) (OpV_extract rfl rfl rfl) ?_
    | refine D_gn rfl rfl rfl rfl rfl rfl (by decide) ?_
    | refine D_end ?_)
  refine wpA_cut (S := Unit) (fun _ => [(3, I (fillH r t nn f))]) (fun _ G => G = H) ?_ ?_
  · by_cases h0 : 0 < f
    · have e : fillH r t nn f = r + t + nn + 120 := by simp [fillH, h0]
      rw [e]
      repeat (first
        | refine wpL_end ?_
        | refine wpL_nil ?_
        | refine wpA_seq ?_
        | refine wpA_region ?_
        | refine wpA_block ?_
        | refine wpL_v rfl rfl (by decide) (OpV_load_at rfl rfl h rfl) ?_
        | refine wpL_v rfl rfl (by decide) (OpV_move rfl rfl) ?_
        | refine wpL_v rfl rfl (by decide) (OpV_assign rfl rfl) ?_
        | refine wpL_v rfl rfl (by decide) (OpV_cmp rfl rfl rfl rfl) ?_
        | refine wpL_v rfl rfl (by decide) (OpV_add rfl rfl rfl (by omega)) ?_
        | refine wpL_v rfl rfl (by decide) (OpV_sub rfl rfl rfl (by omega)) ?_
        | refine wpL_v rfl rfl (by decide) (OpV_len rfl rfl rfl) ?_
        | refine wpL_v rfl rfl (by decide) (OpV_nilCheck rfl rfl rfl) ?_
        | refine wpL_v rfl rfl (by decide) (OpV_fieldAddr rfl rfl rfl rfl) ?_
        | refine wpL_v rfl rfl (by decide) (OpV_load rfl rfl rfl) ?_
        | refine wpL_v rfl rfl (by decide) (OpV_load_at rfl rfl (get_new _ _) rfl) ?_
        | refine wpL_v rfl rfl (by decide) (OpV_not rfl rfl) ?_
        | refine wpL_v rfl rfl (by decide) (OpV_extract rfl rfl rfl) ?_
        | refine wpL_v rfl rfl (by decide) (OpV_pick_t rfl rfl (by first | rfl | exact decide_eq_true (by omega)) rfl) ?_
        | refine wpL_v rfl rfl (by decide) (OpV_pick_f rfl rfl (by first | rfl | exact decide_eq_false (by omega)) rfl) ?_
        | refine wpL_v rfl rfl (by decide) (OpV_build rfl rfl rfl rfl) ?_
        | refine wpL_v rfl rfl (by decide) (OpV_max rfl rfl rfl) ?_
        | refine wpL_v rfl rfl (by decide) (OpV_min rfl rfl rfl) ?_
        | refine wpL_v rfl rfl (by decide) (OpV_nilptr rfl rfl rfl) ?_
        | refine wpL_v rfl rfl (by decide) (OpV_beq rfl rfl rfl) ?_
        | refine wpL_v rfl rfl (by decide) (OpV_bne rfl rfl rfl) ?_
        | refine wpL_v rfl rfl (by decide) (OpV_makeFunc rfl rfl) ?_
        | refine wpL_w rfl rfl (by decide) (OpW_alloc rfl rfl) ?_
        | refine wpL_w rfl rfl (by decide) (OpW_box rfl rfl rfl) ?_
        | refine wpL_w rfl rfl (by decide) (OpW_buildSlice rfl rfl rfl rfl rfl rfl rfl rfl) ?_
        | refine wpL_s rfl rfl (OpS_store_new rfl rfl rfl rfl rfl rfl rfl) ?_
        | refine wpL_s rfl rfl (OpS_store_new1 rfl rfl rfl rfl rfl rfl rfl) ?_
        | refine wpL_s rfl rfl (OpS_store rfl rfl rfl rfl rfl rfl) ?_
        | refine wpL_gt rfl rfl rfl rfl rfl (by decide) (by first | rfl | exact decide_eq_true (by omega) | exact decide_eq_false (by omega)) ?_
        | refine wpL_gf rfl rfl rfl rfl rfl (by decide) (by first | rfl | exact decide_eq_true (by omega) | exact decide_eq_false (by omega)) ?_
        | refine wpA_ct rfl (by first | rfl | exact decide_eq_true (by omega)) ?_
        | refine wpA_cf rfl (by first | rfl | exact decide_eq_false (by omega)) ?_
        | refine wpA_skip ?_
        | refine wpA_exit ?_
        | refine wpA_ret ?_
        | refine x_then_exit ?_
        | refine x_then_ret ?_
        | refine x_then_normal ?_
        | refine x_block_ret ?_
        | refine x_block_normal ?_
        | refine x_block_exit ?_
        | refine x_block_other rfl ?_)
      exact ⟨(), .cons rfl (.nil _), rfl⟩
    · have e : fillH r t nn f = r + t + nn := by simp [fillH, h0]
      rw [e]
      repeat (first
        | refine wpL_end ?_
        | refine wpL_nil ?_
        | refine wpA_seq ?_
        | refine wpA_region ?_
        | refine wpA_block ?_
        | refine wpL_v rfl rfl (by decide) (OpV_load_at rfl rfl h rfl) ?_
        | refine wpL_v rfl rfl (by decide) (OpV_move rfl rfl) ?_
        | refine wpL_v rfl rfl (by decide) (OpV_assign rfl rfl) ?_
        | refine wpL_v rfl rfl (by decide) (OpV_cmp rfl rfl rfl rfl) ?_
        | refine wpL_v rfl rfl (by decide) (OpV_add rfl rfl rfl (by omega)) ?_
        | refine wpL_v rfl rfl (by decide) (OpV_sub rfl rfl rfl (by omega)) ?_
        | refine wpL_v rfl rfl (by decide) (OpV_len rfl rfl rfl) ?_
        | refine wpL_v rfl rfl (by decide) (OpV_nilCheck rfl rfl rfl) ?_
        | refine wpL_v rfl rfl (by decide) (OpV_fieldAddr rfl rfl rfl rfl) ?_
        | refine wpL_v rfl rfl (by decide) (OpV_load rfl rfl rfl) ?_
        | refine wpL_v rfl rfl (by decide) (OpV_load_at rfl rfl (get_new _ _) rfl) ?_
        | refine wpL_v rfl rfl (by decide) (OpV_not rfl rfl) ?_
        | refine wpL_v rfl rfl (by decide) (OpV_extract rfl rfl rfl) ?_
        | refine wpL_v rfl rfl (by decide) (OpV_pick_t rfl rfl (by first | rfl | exact decide_eq_true (by omega)) rfl) ?_
        | refine wpL_v rfl rfl (by decide) (OpV_pick_f rfl rfl (by first | rfl | exact decide_eq_false (by omega)) rfl) ?_
        | refine wpL_v rfl rfl (by decide) (OpV_build rfl rfl rfl rfl) ?_
        | refine wpL_v rfl rfl (by decide) (OpV_max rfl rfl rfl) ?_
        | refine wpL_v rfl rfl (by decide) (OpV_min rfl rfl rfl) ?_
        | refine wpL_v rfl rfl (by decide) (OpV_nilptr rfl rfl rfl) ?_
        | refine wpL_v rfl rfl (by decide) (OpV_beq rfl rfl rfl) ?_
        | refine wpL_v rfl rfl (by decide) (OpV_bne rfl rfl rfl) ?_
        | refine wpL_v rfl rfl (by decide) (OpV_makeFunc rfl rfl) ?_
        | refine wpL_w rfl rfl (by decide) (OpW_alloc rfl rfl) ?_
        | refine wpL_w rfl rfl (by decide) (OpW_box rfl rfl rfl) ?_
        | refine wpL_w rfl rfl (by decide) (OpW_buildSlice rfl rfl rfl rfl rfl rfl rfl rfl) ?_
        | refine wpL_s rfl rfl (OpS_store_new rfl rfl rfl rfl rfl rfl rfl) ?_
        | refine wpL_s rfl rfl (OpS_store_new1 rfl rfl rfl rfl rfl rfl rfl) ?_
        | refine wpL_s rfl rfl (OpS_store rfl rfl rfl rfl rfl rfl) ?_
        | refine wpL_gt rfl rfl rfl rfl rfl (by decide) (by first | rfl | exact decide_eq_true (by omega) | exact decide_eq_false (by omega)) ?_
        | refine wpL_gf rfl rfl rfl rfl rfl (by decide) (by first | rfl | exact decide_eq_true (by omega) | exact decide_eq_false (by omega)) ?_
        | refine wpA_ct rfl (by first | rfl | exact decide_eq_true (by omega)) ?_
        | refine wpA_cf rfl (by first | rfl | exact decide_eq_false (by omega)) ?_
        | refine wpA_skip ?_
        | refine wpA_exit ?_
        | refine wpA_ret ?_
        | refine x_then_exit ?_
        | refine x_then_ret ?_
        | refine x_then_normal ?_
        | refine x_block_ret ?_
        | refine x_block_normal ?_
        | refine x_block_exit ?_
        | refine x_block_other rfl ?_)
      exact ⟨(), .cons rfl (.nil _), rfl⟩
  rintro ⟨⟩ G rfl
  repeat (first
    | refine wpL_end ?_
    | refine wpL_nil ?_
    | refine wpA_seq ?_
    | refine wpA_region ?_
    | refine wpA_block ?_
    | refine wpL_v rfl rfl (by decide) (OpV_move rfl rfl) ?_
    | refine wpL_v rfl rfl (by decide) (OpV_assign rfl rfl) ?_
    | refine wpL_v rfl rfl (by decide) (OpV_cmp rfl rfl rfl rfl) ?_
    | refine wpL_v rfl rfl (by decide) (OpV_add rfl rfl rfl (by omega)) ?_
    | refine wpL_v rfl rfl (by decide) (OpV_sub rfl rfl rfl (by omega)) ?_
    | refine wpL_v rfl rfl (by decide) (OpV_len rfl rfl rfl) ?_
    | refine wpL_v rfl rfl (by decide) (OpV_nilCheck rfl rfl rfl) ?_
    | refine wpL_v rfl rfl (by decide) (OpV_fieldAddr rfl rfl rfl rfl) ?_
    | refine wpL_v rfl rfl (by decide) (OpV_load rfl rfl rfl) ?_
    | refine wpL_v rfl rfl (by decide) (OpV_load_at rfl rfl (get_new _ _) rfl) ?_
    | refine wpL_v rfl rfl (by decide) (OpV_not rfl rfl) ?_
    | refine wpL_v rfl rfl (by decide) (OpV_extract rfl rfl rfl) ?_
    | refine wpL_v rfl rfl (by decide) (OpV_pick_t rfl rfl (by first | rfl | exact decide_eq_true (by omega)) rfl) ?_
    | refine wpL_v rfl rfl (by decide) (OpV_pick_f rfl rfl (by first | rfl | exact decide_eq_false (by omega)) rfl) ?_
    | refine wpL_v rfl rfl (by decide) (OpV_build rfl rfl rfl rfl) ?_
    | refine wpL_v rfl rfl (by decide) (OpV_max rfl rfl rfl) ?_
    | refine wpL_v rfl rfl (by decide) (OpV_min rfl rfl rfl) ?_
    | refine wpL_v rfl rfl (by decide) (OpV_nilptr rfl rfl rfl) ?_
    | refine wpL_v rfl rfl (by decide) (OpV_beq rfl rfl rfl) ?_
    | refine wpL_v rfl rfl (by decide) (OpV_bne rfl rfl rfl) ?_
    | refine wpL_v rfl rfl (by decide) (OpV_makeFunc rfl rfl) ?_
    | refine wpL_w rfl rfl (by decide) (OpW_alloc rfl rfl) ?_
    | refine wpL_w rfl rfl (by decide) (OpW_box rfl rfl rfl) ?_
    | refine wpL_w rfl rfl (by decide) (OpW_buildSlice rfl rfl rfl rfl rfl rfl rfl rfl) ?_
    | refine wpL_s rfl rfl (OpS_store_new rfl rfl rfl rfl rfl rfl rfl) ?_
    | refine wpL_s rfl rfl (OpS_store_new1 rfl rfl rfl rfl rfl rfl rfl) ?_
    | refine wpL_s rfl rfl (OpS_store rfl rfl rfl rfl rfl rfl) ?_
    | refine wpL_gt rfl rfl rfl rfl rfl (by decide) (by first | rfl | exact decide_eq_true (by omega) | exact decide_eq_false (by omega)) ?_
    | refine wpL_gf rfl rfl rfl rfl rfl (by decide) (by first | rfl | exact decide_eq_true (by omega) | exact decide_eq_false (by omega)) ?_
    | refine wpA_ct rfl (by first | rfl | exact decide_eq_true (by omega)) ?_
    | refine wpA_cf rfl (by first | rfl | exact decide_eq_false (by omega)) ?_
    | refine wpA_skip ?_
    | refine wpA_exit ?_
    | refine wpA_ret ?_
    | refine x_then_exit ?_
    | refine x_then_ret ?_
    | refine x_then_normal ?_
    | refine x_block_ret ?_
    | refine x_block_normal ?_
    | refine x_block_exit ?_
    | refine x_block_other rfl ?_)
  exact postA_1 rfl rfl ⟨rfl, rfl⟩

/-- The header rows that a page begins with. -/
def repOf (p : Piece) (height : Int) : Int := if height < fillH p.rep p.height (sumFeet p.feet) p.feet.length then 0 else p.rep

theorem begin_ac (H : Heap) (p : Piece) (height : Int) (hp : p.ok) :
    AC Try.prog 40 [.agg (encPiece p), I height] H (fun x H' => ∃ id, x = .ptr id 0 ∧ H.length ≤ id ∧ H'[id]? = some (some (filler (repOf p height) p.height (sumFeet p.feet) p.feet.length)) ∧ HExt H H') := by
  have hs := sumFeet_take_le p.feet p.feet.length hp.foot hp.feet
  rw [List.take_length] at hs
  have hh := hp.height
  have hfl := hp.feet
  simp only [small] at hh
  refine AC_enter Try.func40 rfl rfl rfl ?_
  have g0 : (H ++ [some (Blk.mk (encPiece p) 43 true)])[H.length]? = some (some (Blk.mk (encPiece p) 43 true)) := get_new _ _
  have g1 : (H ++ [some (Blk.mk (encPiece p) 43 true)] ++ [some (filler p.rep 0 0 0)])[H.length]? = some (some (Blk.mk (encPiece p) 43 true)) := get_app g0
  have g2 := get_new (H ++ [some (Blk.mk (encPiece p) 43 true)]) (some (filler p.rep 0 0 0))
  have hx := add_ac _ _ p.rep 0 0 0 0 p (.v (.pointer none)) g2 hp (.inl ⟨rfl, rfl⟩) (by omega) (by omega) (by omega)
  repeat (first
    | refine wpL_end ?_
    | refine wpL_nil ?_
    | refine wpA_seq ?_
    | refine wpA_region ?_
    | refine wpA_block ?_
    | refine wpL_v rfl rfl (by decide) (OpV_load_at rfl rfl g1 rfl) ?_
    | refine wpL_v rfl rfl (by decide) (OpV_move rfl rfl) ?_
    | refine wpL_v rfl rfl (by decide) (OpV_assign rfl rfl) ?_
    | refine wpL_v rfl rfl (by decide) (OpV_cmp rfl rfl rfl rfl) ?_
    | refine wpL_v rfl rfl (by decide) (OpV_add rfl rfl rfl (by omega)) ?_
    | refine wpL_v rfl rfl (by decide) (OpV_sub rfl rfl rfl (by omega)) ?_
    | refine wpL_v rfl rfl (by decide) (OpV_len rfl rfl rfl) ?_
    | refine wpL_v rfl rfl (by decide) (OpV_nilCheck rfl rfl rfl) ?_
    | refine wpL_v rfl rfl (by decide) (OpV_fieldAddr rfl rfl rfl rfl) ?_
    | refine wpL_v rfl rfl (by decide) (OpV_load rfl rfl rfl) ?_
    | refine wpL_v rfl rfl (by decide) (OpV_load_at rfl rfl (get_new _ _) rfl) ?_
    | refine wpL_v rfl rfl (by decide) (OpV_not rfl rfl) ?_
    | refine wpL_v rfl rfl (by decide) (OpV_extract rfl rfl rfl) ?_
    | refine wpL_v rfl rfl (by decide) (OpV_pick_t rfl rfl (by first | rfl | exact decide_eq_true (by omega)) rfl) ?_
    | refine wpL_v rfl rfl (by decide) (OpV_pick_f rfl rfl (by first | rfl | exact decide_eq_false (by omega)) rfl) ?_
    | refine wpL_v rfl rfl (by decide) (OpV_build rfl rfl rfl rfl) ?_
    | refine wpL_v rfl rfl (by decide) (OpV_max rfl rfl rfl) ?_
    | refine wpL_v rfl rfl (by decide) (OpV_min rfl rfl rfl) ?_
    | refine wpL_v rfl rfl (by decide) (OpV_nilptr rfl rfl rfl) ?_
    | refine wpL_v rfl rfl (by decide) (OpV_beq rfl rfl rfl) ?_
    | refine wpL_v rfl rfl (by decide) (OpV_bne rfl rfl rfl) ?_
    | refine wpL_v rfl rfl (by decide) (OpV_makeFunc rfl rfl) ?_
    | refine wpL_w rfl rfl (by decide) (OpW_alloc rfl rfl) ?_
    | refine wpL_w rfl rfl (by decide) (OpW_box rfl rfl rfl) ?_
    | refine wpL_w rfl rfl (by decide) (OpW_buildSlice rfl rfl rfl rfl rfl rfl rfl rfl) ?_
    | refine wpL_s rfl rfl (OpS_store_new rfl rfl rfl rfl rfl rfl rfl) ?_
    | refine wpL_s rfl rfl (OpS_store_new1 rfl rfl rfl rfl rfl rfl rfl) ?_
    | refine wpL_s rfl rfl (OpS_store rfl rfl rfl rfl rfl rfl) ?_
    | refine wpL_gt rfl rfl rfl rfl rfl (by decide) (by first | rfl | exact decide_eq_true (by omega) | exact decide_eq_false (by omega)) ?_
    | refine wpL_gf rfl rfl rfl rfl rfl (by decide) (by first | rfl | exact decide_eq_true (by omega) | exact decide_eq_false (by omega)) ?_
    | refine wpA_ct rfl (by first | rfl | exact decide_eq_true (by omega)) ?_
    | refine wpA_cf rfl (by first | rfl | exact decide_eq_false (by omega)) ?_
    | refine wpA_skip ?_
    | refine wpA_exit ?_
    | refine wpA_ret ?_
    | refine x_then_exit ?_
    | refine x_then_ret ?_
    | refine x_then_normal ?_
    | refine x_block_ret ?_
    | refine x_block_normal ?_
    | refine x_block_exit ?_
    | refine x_block_other rfl ?_)
  refine wpL_ac rfl rfl rfl rfl rfl rfl (by decide) hx ?_
  rintro _ H2 ⟨rfl, h2⟩
  have hl : (H ++ [some (Blk.mk (encPiece p) 43 true)]).length < (H ++ [some (Blk.mk (encPiece p) 43 true)] ++ [some (filler p.rep 0 0 0)]).length := by simp
  have g3 : H2[(H ++ [some (Blk.mk (encPiece p) 43 true)]).length]? = some (some (filler p.rep (0 + 0 + p.height) (0 + sumFeet p.feet) (0 + p.feet.length))) := by rw [h2]; exact AH_get hl
  have g4 : HExt H H2 := by
    rw [h2]
    exact AH_but.ext ((HExt.app _ _).trans (HExt.app _ _)) (by simp)
  have g5 : H.length ≤ (H ++ [some (Blk.mk (encPiece p) 43 true)]).length := by simp
  simp only [Int.zero_add] at g3
  have hy := height_ac H2 _ _ _ _ _ g3 hp.rep (by omega) (by omega) (by omega)
  repeat (first
    | refine wpL_end ?_
    | refine wpL_nil ?_
    | refine wpA_seq ?_
    | refine wpA_region ?_
    | refine wpA_block ?_
    | refine wpL_v rfl rfl (by decide) (OpV_move rfl rfl) ?_
    | refine wpL_v rfl rfl (by decide) (OpV_assign rfl rfl) ?_
    | refine wpL_v rfl rfl (by decide) (OpV_cmp rfl rfl rfl rfl) ?_
    | refine wpL_v rfl rfl (by decide) (OpV_add rfl rfl rfl (by omega)) ?_
    | refine wpL_v rfl rfl (by decide) (OpV_sub rfl rfl rfl (by omega)) ?_
    | refine wpL_v rfl rfl (by decide) (OpV_len rfl rfl rfl) ?_
    | refine wpL_v rfl rfl (by decide) (OpV_nilCheck rfl rfl rfl) ?_
    | refine wpL_v rfl rfl (by decide) (OpV_fieldAddr rfl rfl rfl rfl) ?_
    | refine wpL_v rfl rfl (by decide) (OpV_load rfl rfl rfl) ?_
    | refine wpL_v rfl rfl (by decide) (OpV_load_at rfl rfl (get_new _ _) rfl) ?_
    | refine wpL_v rfl rfl (by decide) (OpV_not rfl rfl) ?_
    | refine wpL_v rfl rfl (by decide) (OpV_extract rfl rfl rfl) ?_
    | refine wpL_v rfl rfl (by decide) (OpV_pick_t rfl rfl (by first | rfl | exact decide_eq_true (by omega)) rfl) ?_
    | refine wpL_v rfl rfl (by decide) (OpV_pick_f rfl rfl (by first | rfl | exact decide_eq_false (by omega)) rfl) ?_
    | refine wpL_v rfl rfl (by decide) (OpV_build rfl rfl rfl rfl) ?_
    | refine wpL_v rfl rfl (by decide) (OpV_max rfl rfl rfl) ?_
    | refine wpL_v rfl rfl (by decide) (OpV_min rfl rfl rfl) ?_
    | refine wpL_v rfl rfl (by decide) (OpV_nilptr rfl rfl rfl) ?_
    | refine wpL_v rfl rfl (by decide) (OpV_beq rfl rfl rfl) ?_
    | refine wpL_v rfl rfl (by decide) (OpV_bne rfl rfl rfl) ?_
    | refine wpL_v rfl rfl (by decide) (OpV_makeFunc rfl rfl) ?_
    | refine wpL_w rfl rfl (by decide) (OpW_alloc rfl rfl) ?_
    | refine wpL_w rfl rfl (by decide) (OpW_box rfl rfl rfl) ?_
    | refine wpL_w rfl rfl (by decide) (OpW_buildSlice rfl rfl rfl rfl rfl rfl rfl rfl) ?_
    | refine wpL_s rfl rfl (OpS_store_new rfl rfl rfl rfl rfl rfl rfl) ?_
    | refine wpL_s rfl rfl (OpS_store_new1 rfl rfl rfl rfl rfl rfl rfl) ?_
    | refine wpL_s rfl rfl (OpS_store rfl rfl rfl rfl rfl rfl) ?_
    | refine wpL_gt rfl rfl rfl rfl rfl (by decide) (by first | rfl | exact decide_eq_true (by omega) | exact decide_eq_false (by omega)) ?_
    | refine wpL_gf rfl rfl rfl rfl rfl (by decide) (by first | rfl | exact decide_eq_true (by omega) | exact decide_eq_false (by omega)) ?_
    | refine wpA_ct rfl (by first | rfl | exact decide_eq_true (by omega)) ?_
    | refine wpA_cf rfl (by first | rfl | exact decide_eq_false (by omega)) ?_
    | refine wpA_skip ?_
    | refine wpA_exit ?_
    | refine wpA_ret ?_
    | refine x_then_exit ?_
    | refine x_then_ret ?_
    | refine x_then_normal ?_
    | refine x_block_ret ?_
    | refine x_block_normal ?_
    | refine x_block_exit ?_
    | refine x_block_other rfl ?_)
  refine wpL_ac rfl rfl rfl rfl rfl rfl (by decide) hy ?_
  rintro _ H3 ⟨rfl, rfl⟩
  refine wpL_v rfl rfl (by decide) (OpV_move rfl rfl) ?_
  refine wpL_v rfl rfl (by decide) (OpV_cmp rfl rfl rfl rfl) ?_
  refine wpL_end ?_
  refine wpA_cut2 (S := Unit) (fun _ => [(5, .ptr (H ++ [some (Blk.mk (encPiece p) 43 true)]).length 0)]) (fun _ G => G[(H ++ [some (Blk.mk (encPiece p) 43 true)]).length]? = some (some (filler (repOf p height) p.height (sumFeet p.feet) p.feet.length)) ∧ HExt H G) ?_ ?_
  · by_cases h0 : height < fillH p.rep p.height (sumFeet p.feet) p.feet.length
    · have e : repOf p height = 0 := by simp [repOf, h0]
      rw [e]
      repeat (first
        | refine wpL_end ?_
        | refine wpL_nil ?_
        | refine wpA_seq ?_
        | refine wpA_region ?_
        | refine wpA_block ?_
        | refine wpL_s rfl rfl (OpS_store_at rfl rfl rfl g3 rfl rfl rfl rfl rfl) ?_
        | refine wpL_v rfl rfl (by decide) (OpV_move rfl rfl) ?_
        | refine wpL_v rfl rfl (by decide) (OpV_assign rfl rfl) ?_
        | refine wpL_v rfl rfl (by decide) (OpV_cmp rfl rfl rfl rfl) ?_
        | refine wpL_v rfl rfl (by decide) (OpV_add rfl rfl rfl (by omega)) ?_
        | refine wpL_v rfl rfl (by decide) (OpV_sub rfl rfl rfl (by omega)) ?_
        | refine wpL_v rfl rfl (by decide) (OpV_len rfl rfl rfl) ?_
        | refine wpL_v rfl rfl (by decide) (OpV_nilCheck rfl rfl rfl) ?_
        | refine wpL_v rfl rfl (by decide) (OpV_fieldAddr rfl rfl rfl rfl) ?_
        | refine wpL_v rfl rfl (by decide) (OpV_load rfl rfl rfl) ?_
        | refine wpL_v rfl rfl (by decide) (OpV_load_at rfl rfl (get_new _ _) rfl) ?_
        | refine wpL_v rfl rfl (by decide) (OpV_not rfl rfl) ?_
        | refine wpL_v rfl rfl (by decide) (OpV_extract rfl rfl rfl) ?_
        | refine wpL_v rfl rfl (by decide) (OpV_pick_t rfl rfl (by first | rfl | exact decide_eq_true (by omega)) rfl) ?_
        | refine wpL_v rfl rfl (by decide) (OpV_pick_f rfl rfl (by first | rfl | exact decide_eq_false (by omega)) rfl) ?_
        | refine wpL_v rfl rfl (by decide) (OpV_build rfl rfl rfl rfl) ?_
        | refine wpL_v rfl rfl (by decide) (OpV_max rfl rfl rfl) ?_
        | refine wpL_v rfl rfl (by decide) (OpV_min rfl rfl rfl) ?_
        | refine wpL_v rfl rfl (by decide) (OpV_nilptr rfl rfl rfl) ?_
        | refine wpL_v rfl rfl (by decide) (OpV_beq rfl rfl rfl) ?_
        | refine wpL_v rfl rfl (by decide) (OpV_bne rfl rfl rfl) ?_
        | refine wpL_v rfl rfl (by decide) (OpV_makeFunc rfl rfl) ?_
        | refine wpL_w rfl rfl (by decide) (OpW_alloc rfl rfl) ?_
        | refine wpL_w rfl rfl (by decide) (OpW_box rfl rfl rfl) ?_
        | refine wpL_w rfl rfl (by decide) (OpW_buildSlice rfl rfl rfl rfl rfl rfl rfl rfl) ?_
        | refine wpL_s rfl rfl (OpS_store_new rfl rfl rfl rfl rfl rfl rfl) ?_
        | refine wpL_s rfl rfl (OpS_store_new1 rfl rfl rfl rfl rfl rfl rfl) ?_
        | refine wpL_s rfl rfl (OpS_store rfl rfl rfl rfl rfl rfl) ?_
        | refine wpL_gt rfl rfl rfl rfl rfl (by decide) (by first | rfl | exact decide_eq_true (by omega) | exact decide_eq_false (by omega)) ?_
        | refine wpL_gf rfl rfl rfl rfl rfl (by decide) (by first | rfl | exact decide_eq_true (by omega) | exact decide_eq_false (by omega)) ?_
        | refine wpA_ct rfl (by first | rfl | exact decide_eq_true (by omega)) ?_
        | refine wpA_cf rfl (by first | rfl | exact decide_eq_false (by omega)) ?_
        | refine wpA_skip ?_
        | refine wpA_exit ?_
        | refine wpA_ret ?_
        | refine x_then_exit ?_
        | refine x_then_ret ?_
        | refine x_then_normal ?_
        | refine x_block_ret ?_
        | refine x_block_normal ?_
        | refine x_block_exit ?_
        | refine x_block_other rfl ?_)
      exact ⟨(), .cons rfl (.nil _), get_set g3, (HBut.set _ _ _).ext g4 g5⟩
    · have e : repOf p height = p.rep := by simp [repOf, h0]
      rw [e]
      repeat (first
        | refine wpL_end ?_
        | refine wpL_nil ?_
        | refine wpA_seq ?_
        | refine wpA_region ?_
        | refine wpA_block ?_
        | refine wpL_v rfl rfl (by decide) (OpV_move rfl rfl) ?_
        | refine wpL_v rfl rfl (by decide) (OpV_assign rfl rfl) ?_
        | refine wpL_v rfl rfl (by decide) (OpV_cmp rfl rfl rfl rfl) ?_
        | refine wpL_v rfl rfl (by decide) (OpV_add rfl rfl rfl (by omega)) ?_
        | refine wpL_v rfl rfl (by decide) (OpV_sub rfl rfl rfl (by omega)) ?_
        | refine wpL_v rfl rfl (by decide) (OpV_len rfl rfl rfl) ?_
        | refine wpL_v rfl rfl (by decide) (OpV_nilCheck rfl rfl rfl) ?_
        | refine wpL_v rfl rfl (by decide) (OpV_fieldAddr rfl rfl rfl rfl) ?_
        | refine wpL_v rfl rfl (by decide) (OpV_load rfl rfl rfl) ?_
        | refine wpL_v rfl rfl (by decide) (OpV_load_at rfl rfl (get_new _ _) rfl) ?_
        | refine wpL_v rfl rfl (by decide) (OpV_not rfl rfl) ?_
        | refine wpL_v rfl rfl (by decide) (OpV_extract rfl rfl rfl) ?_
        | refine wpL_v rfl rfl (by decide) (OpV_pick_t rfl rfl (by first | rfl | exact decide_eq_true (by omega)) rfl) ?_
        | refine wpL_v rfl rfl (by decide) (OpV_pick_f rfl rfl (by first | rfl | exact decide_eq_false (by omega)) rfl) ?_
        | refine wpL_v rfl rfl (by decide) (OpV_build rfl rfl rfl rfl) ?_
        | refine wpL_v rfl rfl (by decide) (OpV_max rfl rfl rfl) ?_
        | refine wpL_v rfl rfl (by decide) (OpV_min rfl rfl rfl) ?_
        | refine wpL_v rfl rfl (by decide) (OpV_nilptr rfl rfl rfl) ?_
        | refine wpL_v rfl rfl (by decide) (OpV_beq rfl rfl rfl) ?_
        | refine wpL_v rfl rfl (by decide) (OpV_bne rfl rfl rfl) ?_
        | refine wpL_v rfl rfl (by decide) (OpV_makeFunc rfl rfl) ?_
        | refine wpL_w rfl rfl (by decide) (OpW_alloc rfl rfl) ?_
        | refine wpL_w rfl rfl (by decide) (OpW_box rfl rfl rfl) ?_
        | refine wpL_w rfl rfl (by decide) (OpW_buildSlice rfl rfl rfl rfl rfl rfl rfl rfl) ?_
        | refine wpL_s rfl rfl (OpS_store_new rfl rfl rfl rfl rfl rfl rfl) ?_
        | refine wpL_s rfl rfl (OpS_store_new1 rfl rfl rfl rfl rfl rfl rfl) ?_
        | refine wpL_s rfl rfl (OpS_store rfl rfl rfl rfl rfl rfl) ?_
        | refine wpL_gt rfl rfl rfl rfl rfl (by decide) (by first | rfl | exact decide_eq_true (by omega) | exact decide_eq_false (by omega)) ?_
        | refine wpL_gf rfl rfl rfl rfl rfl (by decide) (by first | rfl | exact decide_eq_true (by omega) | exact decide_eq_false (by omega)) ?_
        | refine wpA_ct rfl (by first | rfl | exact decide_eq_true (by omega)) ?_
        | refine wpA_cf rfl (by first | rfl | exact decide_eq_false (by omega)) ?_
        | refine wpA_skip ?_
        | refine wpA_exit ?_
        | refine wpA_ret ?_
        | refine x_then_exit ?_
        | refine x_then_ret ?_
        | refine x_then_normal ?_
        | refine x_block_ret ?_
        | refine x_block_normal ?_
        | refine x_block_exit ?_
        | refine x_block_other rfl ?_)
      exact ⟨(), .cons rfl (.nil _), g3, g4⟩
  rintro ⟨⟩ G ⟨h7, h8⟩
  repeat (first
    | refine wpL_end ?_
    | refine wpL_nil ?_
    | refine wpA_seq ?_
    | refine wpA_region ?_
    | refine wpA_block ?_
    | refine wpL_v rfl rfl (by decide) (OpV_move rfl rfl) ?_
    | refine wpL_v rfl rfl (by decide) (OpV_assign rfl rfl) ?_
    | refine wpL_v rfl rfl (by decide) (OpV_cmp rfl rfl rfl rfl) ?_
    | refine wpL_v rfl rfl (by decide) (OpV_add rfl rfl rfl (by omega)) ?_
    | refine wpL_v rfl rfl (by decide) (OpV_sub rfl rfl rfl (by omega)) ?_
    | refine wpL_v rfl rfl (by decide) (OpV_len rfl rfl rfl) ?_
    | refine wpL_v rfl rfl (by decide) (OpV_nilCheck rfl rfl rfl) ?_
    | refine wpL_v rfl rfl (by decide) (OpV_fieldAddr rfl rfl rfl rfl) ?_
    | refine wpL_v rfl rfl (by decide) (OpV_load rfl rfl rfl) ?_
    | refine wpL_v rfl rfl (by decide) (OpV_load_at rfl rfl (get_new _ _) rfl) ?_
    | refine wpL_v rfl rfl (by decide) (OpV_not rfl rfl) ?_
    | refine wpL_v rfl rfl (by decide) (OpV_extract rfl rfl rfl) ?_
    | refine wpL_v rfl rfl (by decide) (OpV_pick_t rfl rfl (by first | rfl | exact decide_eq_true (by omega)) rfl) ?_
    | refine wpL_v rfl rfl (by decide) (OpV_pick_f rfl rfl (by first | rfl | exact decide_eq_false (by omega)) rfl) ?_
    | refine wpL_v rfl rfl (by decide) (OpV_build rfl rfl rfl rfl) ?_
    | refine wpL_v rfl rfl (by decide) (OpV_max rfl rfl rfl) ?_
    | refine wpL_v rfl rfl (by decide) (OpV_min rfl rfl rfl) ?_
    | refine wpL_v rfl rfl (by decide) (OpV_nilptr rfl rfl rfl) ?_
    | refine wpL_v rfl rfl (by decide) (OpV_beq rfl rfl rfl) ?_
    | refine wpL_v rfl rfl (by decide) (OpV_bne rfl rfl rfl) ?_
    | refine wpL_v rfl rfl (by decide) (OpV_makeFunc rfl rfl) ?_
    | refine wpL_w rfl rfl (by decide) (OpW_alloc rfl rfl) ?_
    | refine wpL_w rfl rfl (by decide) (OpW_box rfl rfl rfl) ?_
    | refine wpL_w rfl rfl (by decide) (OpW_buildSlice rfl rfl rfl rfl rfl rfl rfl rfl) ?_
    | refine wpL_s rfl rfl (OpS_store_new rfl rfl rfl rfl rfl rfl rfl) ?_
    | refine wpL_s rfl rfl (OpS_store_new1 rfl rfl rfl rfl rfl rfl rfl) ?_
    | refine wpL_s rfl rfl (OpS_store rfl rfl rfl rfl rfl rfl) ?_
    | refine wpL_gt rfl rfl rfl rfl rfl (by decide) (by first | rfl | exact decide_eq_true (by omega) | exact decide_eq_false (by omega)) ?_
    | refine wpL_gf rfl rfl rfl rfl rfl (by decide) (by first | rfl | exact decide_eq_true (by omega) | exact decide_eq_false (by omega)) ?_
    | refine wpA_ct rfl (by first | rfl | exact decide_eq_true (by omega)) ?_
    | refine wpA_cf rfl (by first | rfl | exact decide_eq_false (by omega)) ?_
    | refine wpA_skip ?_
    | refine wpA_exit ?_
    | refine wpA_ret ?_
    | refine x_then_exit ?_
    | refine x_then_ret ?_
    | refine x_then_normal ?_
    | refine x_block_ret ?_
    | refine x_block_normal ?_
    | refine x_block_exit ?_
    | refine x_block_other rfl ?_)
  exact postA_1 rfl rfl ⟨_, rfl, g5, h7, h8⟩
end Go.Proofs.Ytpkeceifnmmhcaa
