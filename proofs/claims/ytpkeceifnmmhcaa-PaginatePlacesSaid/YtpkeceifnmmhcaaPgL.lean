/- The walk of few. -/
import Derived.Test.YtpkeceifnmmhcaaPgK
import Derived.Test.YtpkeceifnmmhcaaThFifteen
namespace Go.Proofs.Ytpkeceifnmmhcaa
open Go.RowKit Go.Th
set_option linter.unusedVariables false
set_option maxRecDepth 20000

def clamp (x : Int) : Int := min (max x 0) 1073741824
theorem clamp_small (x : Int) : small (clamp x) := by unfold clamp small; omega
def fewF (f : Foot) : Foot := ⟨clamp f.id, clamp f.h⟩
def fewP (p : Piece) : Piece := ⟨clamp p.flow, clamp p.block, clamp p.part, clamp p.fr, clamp p.tt, clamp p.height, clamp p.before, clamp p.after, clamp p.rep, (p.feet.take 5).map fewF, p.force, p.kept⟩
def fewL (l : List Piece) : List Piece := (l.take 40).map fewP

theorem fewP_ok (p : Piece) : (fewP p).ok := by
  refine ⟨clamp_small _, clamp_small _, clamp_small _, clamp_small _, clamp_small _, clamp_small _, clamp_small _, clamp_small _, clamp_small _, ?_, ?_⟩
  · simp only [fewP, List.length_map, List.length_take]; omega
  · intro f hf
    obtain ⟨g, _, rfl⟩ := List.mem_map.1 hf
    exact ⟨clamp_small _, clamp_small _⟩
theorem fewL_ok (l : List Piece) : allOk (fewL l) := by
  refine ⟨?_, ?_⟩
  · simp only [fewL, List.length_map, List.length_take]; omega
  · intro p hp
    obtain ⟨q, _, rfl⟩ := List.mem_map.1 hp
    exact fewP_ok q
theorem fewL_len (l : List Piece) : (fewL l).length ≤ 40 := by simp only [fewL, List.length_map, List.length_take]; omega

theorem few1_iso (x : Int) : Iso Try.prog 37 [I x] (fun p => p = I (clamp x)) := by
  refine Iso_enter Try.func37 rfl rfl rfl ?_
  repeat (first
    | refine wpL_end ?_
    | refine wpL_nil ?_
    | refine wpA_seq ?_
    | refine wpA_region ?_
    | refine wpA_block ?_
    | refine wpL_v rfl rfl (by decide) (OpV_move rfl rfl) ?_
    | refine wpL_v rfl rfl (by decide) (OpV_assign rfl rfl) ?_
    | refine wpL_v rfl rfl (by decide) (OpV_cmp rfl rfl rfl rfl) ?_
    | refine wpL_v rfl rfl (by decide) (OpV_add rfl rfl rfl (by omega)) ?_
    | refine wpL_v rfl rfl (by decide) (OpV_sub rfl rfl rfl (by omega)) ?_
    | refine wpL_v rfl rfl (by decide) (OpV_len rfl rfl rfl) ?_
    | refine wpL_v rfl rfl (by decide) (OpV_nilCheck rfl rfl rfl) ?_
    | refine wpL_v rfl rfl (by decide) (OpV_fieldAddr rfl rfl rfl rfl) ?_
    | refine wpL_v rfl rfl (by decide) (OpV_load rfl rfl rfl) ?_
    | refine wpL_v rfl rfl (by decide) (OpV_load_at rfl rfl (get_new _ _) rfl) ?_
    | refine wpL_v rfl rfl (by decide) (OpV_not rfl rfl) ?_
    | refine wpL_v rfl rfl (by decide) (OpV_extract rfl rfl rfl) ?_
    | refine wpL_v rfl rfl (by decide) (OpV_pick_t rfl rfl (by first | rfl | exact decide_eq_true (by omega)) rfl) ?_
    | refine wpL_v rfl rfl (by decide) (OpV_pick_f rfl rfl (by first | rfl | exact decide_eq_false (by omega)) rfl) ?_
    | refine wpL_v rfl rfl (by decide) (OpV_build rfl rfl rfl rfl) ?_
    | refine wpL_v rfl rfl (by decide) (OpV_max rfl rfl rfl) ?_
    | refine wpL_v rfl rfl (by decide) (OpV_min rfl rfl rfl) ?_
    | refine wpL_v rfl rfl (by decide) (OpV_nilptr rfl rfl rfl) ?_
    | refine wpL_v rfl rfl (by decide) (OpV_beq rfl rfl rfl) ?_
    | refine wpL_v rfl rfl (by decide) (OpV_bne rfl rfl rfl) ?_
    | refine wpL_v rfl rfl (by decide) (OpV_makeFunc rfl rfl) ?_
    | refine wpL_w rfl rfl (by decide) (OpW_alloc rfl rfl) ?_
    | refine wpL_w rfl rfl (by decide) (OpW_box rfl rfl rfl) ?_
    | refine wpL_w rfl rfl (by decide) (OpW_buildSlice rfl rfl rfl rfl rfl rfl rfl rfl) ?_
    | refine wpL_s rfl rfl (OpS_store_new rfl rfl rfl rfl rfl rfl rfl) ?_
    | refine wpL_s rfl rfl (OpS_store_new1 rfl rfl rfl rfl rfl rfl rfl) ?_
    | refine wpL_s rfl rfl (OpS_store rfl rfl rfl rfl rfl rfl) ?_
    | refine wpL_gt rfl rfl rfl rfl rfl (by decide) (by first | rfl | exact decide_eq_true (by omega) | exact decide_eq_false (by omega)) ?_
    | refine wpL_gf rfl rfl rfl rfl rfl (by decide) (by first | rfl | exact decide_eq_true (by omega) | exact decide_eq_false (by omega)) ?_
    | refine wpA_ct rfl (by first | rfl | exact decide_eq_true (by omega)) ?_
    | refine wpA_cf rfl (by first | rfl | exact decide_eq_false (by omega)) ?_
    | refine wpA_skip ?_
    | refine wpA_exit ?_
    | refine wpA_ret ?_
    | refine x_then_exit ?_
    | refine x_then_ret ?_
    | refine x_then_normal ?_
    | refine x_block_ret ?_
    | refine x_block_normal ?_
    | refine x_block_exit ?_
    | refine x_block_other rfl ?_)
  exact postI_1 rfl rfl (.refl _) (.v _) rfl

set_option maxHeartbeats 8000000 in
theorem few_iso (l : List Piece) (hlm : l.length ≤ 9223372036854775807) : Iso Try.prog 13 [pcs l] (fun p => p = pcs (fewL l)) := by
  have hG := has_nil
  refine Iso_enter Try.func13 rfl rfl rfl ?_
  repeat (first
    | refine wpL_end ?_
    | refine wpL_nil ?_
    | refine wpA_seq ?_
    | refine wpA_region ?_
    | refine wpA_block ?_
    | refine wpL_v rfl rfl (by decide) (OpV_move rfl rfl) ?_
    | refine wpL_v rfl rfl (by decide) (OpV_assign rfl rfl) ?_
    | refine wpL_v rfl rfl (by decide) (OpV_cmp rfl rfl rfl rfl) ?_
    | refine wpL_v rfl rfl (by decide) (OpV_add rfl rfl rfl (by omega)) ?_
    | refine wpL_v rfl rfl (by decide) (OpV_sub rfl rfl rfl (by omega)) ?_
    | refine wpL_v rfl rfl (by decide) (OpV_len rfl rfl rfl) ?_
    | refine wpL_v rfl rfl (by decide) (OpV_nilCheck rfl rfl rfl) ?_
    | refine wpL_v rfl rfl (by decide) (OpV_fieldAddr rfl rfl rfl rfl) ?_
    | refine wpL_v rfl rfl (by decide) (OpV_load rfl rfl rfl) ?_
    | refine wpL_v rfl rfl (by decide) (OpV_not rfl rfl) ?_
    | refine wpL_v rfl rfl (by decide) (OpV_extract rfl rfl rfl) ?_
    | refine wpL_v rfl rfl (by decide) (OpV_pick_t rfl rfl (by first | rfl | exact decide_eq_true (by omega)) rfl) ?_
    | refine wpL_v rfl rfl (by decide) (OpV_pick_f rfl rfl (by first | rfl | exact decide_eq_false (by omega)) rfl) ?_
    | refine wpL_v rfl rfl (by decide) (OpV_build rfl rfl rfl rfl) ?_
    | refine wpL_v rfl rfl (by decide) (OpV_max rfl rfl rfl) ?_
    | refine wpL_v rfl rfl (by decide) (OpV_min rfl rfl rfl) ?_
    | refine wpL_v rfl rfl (by decide) (OpV_nilptr rfl rfl rfl) ?_
    | refine wpL_v rfl rfl (by decide) (OpV_beq rfl rfl rfl) ?_
    | refine wpL_v rfl rfl (by decide) (OpV_bne rfl rfl rfl) ?_
    | refine wpL_v rfl rfl (by decide) (OpV_makeFunc rfl rfl) ?_
    | refine wpL_loadH 0 hG rfl rfl (by decide) rfl rfl rfl rfl ?_
    | refine wpL_loadH 1 hG rfl rfl (by decide) rfl rfl rfl rfl ?_
    | refine wpL_loadH 2 hG rfl rfl (by decide) rfl rfl rfl rfl ?_
    | refine wpL_loadH 3 hG rfl rfl (by decide) rfl rfl rfl rfl ?_
    | refine wpL_loadH 4 hG rfl rfl (by decide) rfl rfl rfl rfl ?_
    | refine wpL_loadH 5 hG rfl rfl (by decide) rfl rfl rfl rfl ?_
    | (refine wpL_storeH 0 hG rfl rfl rfl rfl rfl rfl rfl rfl rfl rfl rfl ?_; intro G hG)
    | (refine wpL_storeH 1 hG rfl rfl rfl rfl rfl rfl rfl rfl rfl rfl rfl ?_; intro G hG)
    | (refine wpL_storeH 2 hG rfl rfl rfl rfl rfl rfl rfl rfl rfl rfl rfl ?_; intro G hG)
    | (refine wpL_storeH 3 hG rfl rfl rfl rfl rfl rfl rfl rfl rfl rfl rfl ?_; intro G hG)
    | (refine wpL_storeH 4 hG rfl rfl rfl rfl rfl rfl rfl rfl rfl rfl rfl ?_; intro G hG)
    | (refine wpL_storeH 5 hG rfl rfl rfl rfl rfl rfl rfl rfl rfl rfl rfl ?_; intro G hG)
    | (refine wpL_allocH hG rfl rfl (by decide) rfl rfl ?_; intro id G hG)
    | (refine wpL_boxH hG rfl rfl (by decide) rfl rfl rfl ?_; intro id G hG)
    | (refine wpL_sliceH hG rfl rfl (by decide) rfl rfl rfl rfl rfl rfl rfl rfl ?_; intro id G hG)
    | refine wpL_gt rfl rfl rfl rfl rfl (by decide) (by first | rfl | exact decide_eq_true (by omega) | exact decide_eq_false (by omega) | exact ndec_t (by omega) | exact ndec_f (by omega)) ?_
    | refine wpL_gf rfl rfl rfl rfl rfl (by decide) (by first | rfl | exact decide_eq_true (by omega) | exact decide_eq_false (by omega) | exact ndec_t (by omega) | exact ndec_f (by omega)) ?_
    | refine wpA_ct rfl (by first | rfl | exact decide_eq_true (by omega) | exact ndec_t (by omega)) ?_
    | refine wpA_cf rfl (by first | rfl | exact decide_eq_false (by omega) | exact ndec_f (by omega)) ?_
    | refine wpA_skip ?_
    | refine wpA_exit ?_
    | refine wpA_ret ?_
    | refine x_then_exit ?_
    | refine x_then_ret ?_
    | refine x_then_normal ?_
    | refine x_block_ret ?_
    | refine x_block_normal ?_
    | refine x_block_exit ?_
    | refine x_block_other rfl ?_
    | refine wpL_v rfl rfl (by decide) (OpV_pick_t rfl rfl (ndec_t (by omega)) rfl) ?_
    | refine wpL_v rfl rfl (by decide) (OpV_pick_f rfl rfl (ndec_f (by omega)) rfl) ?_)
  refine wpA_ghostH 4 43 12 hG rfl ?_
  intro o0 G hG
  refine wpA_loopS (S := Nat × Nat) (fun x => [(0, pcs l), (3, .fn (.func 37) []), (4, .sl x.2 0 x.1 12), (5, I x.1)])
    (fun x G => x.1 ≤ l.length ∧ x.1 ≤ 40 ∧ Has G [(x.2, Blk.mk ((((l.take x.1).map fewP)).flatMap encPiece) 43 true)]) (fun x => l.length - x.1) (0, o0)
    (.cons rfl (.cons rfl (.cons rfl (.cons rfl (.nil _))))) ⟨by omega, by omega, hG⟩ ?_
  rintro ⟨k, o⟩ G ⟨hk, hk4, hG⟩
  dsimp only at hk hk4 hG ⊢
  by_cases hkl : k < l.length ∧ k < 40
  · obtain ⟨hk1, hk2⟩ := hkl
    have hp := pg_some hk1
    repeat (first
      | refine wpL_end ?_
      | refine wpL_nil ?_
      | refine wpA_seq ?_
      | refine wpA_region ?_
      | refine wpA_block ?_
      | refine wpL_v rfl rfl (by decide) (OpV_index_tr rfl rfl rfl (by omega) (pcs_spot hp)) ?_
      | refine wpL_v rfl rfl (by decide) (OpV_move rfl rfl) ?_
      | refine wpL_v rfl rfl (by decide) (OpV_assign rfl rfl) ?_
      | refine wpL_v rfl rfl (by decide) (OpV_cmp rfl rfl rfl rfl) ?_
      | refine wpL_v rfl rfl (by decide) (OpV_add rfl rfl rfl (by omega)) ?_
      | refine wpL_v rfl rfl (by decide) (OpV_sub rfl rfl rfl (by omega)) ?_
      | refine wpL_v rfl rfl (by decide) (OpV_len rfl rfl rfl) ?_
      | refine wpL_v rfl rfl (by decide) (OpV_nilCheck rfl rfl rfl) ?_
      | refine wpL_v rfl rfl (by decide) (OpV_fieldAddr rfl rfl rfl rfl) ?_
      | refine wpL_v rfl rfl (by decide) (OpV_load rfl rfl rfl) ?_
      | refine wpL_v rfl rfl (by decide) (OpV_not rfl rfl) ?_
      | refine wpL_v rfl rfl (by decide) (OpV_extract rfl rfl rfl) ?_
      | refine wpL_v rfl rfl (by decide) (OpV_pick_t rfl rfl (by first | rfl | exact decide_eq_true (by omega)) rfl) ?_
      | refine wpL_v rfl rfl (by decide) (OpV_pick_f rfl rfl (by first | rfl | exact decide_eq_false (by omega)) rfl) ?_
      | refine wpL_v rfl rfl (by decide) (OpV_build rfl rfl rfl rfl) ?_
      | refine wpL_v rfl rfl (by decide) (OpV_max rfl rfl rfl) ?_
      | refine wpL_v rfl rfl (by decide) (OpV_min rfl rfl rfl) ?_
      | refine wpL_v rfl rfl (by decide) (OpV_nilptr rfl rfl rfl) ?_
      | refine wpL_v rfl rfl (by decide) (OpV_beq rfl rfl rfl) ?_
      | refine wpL_v rfl rfl (by decide) (OpV_bne rfl rfl rfl) ?_
      | refine wpL_v rfl rfl (by decide) (OpV_makeFunc rfl rfl) ?_
      | refine wpL_loadH 0 hG rfl rfl (by decide) rfl rfl rfl rfl ?_
      | refine wpL_loadH 1 hG rfl rfl (by decide) rfl rfl rfl rfl ?_
      | refine wpL_loadH 2 hG rfl rfl (by decide) rfl rfl rfl rfl ?_
      | refine wpL_loadH 3 hG rfl rfl (by decide) rfl rfl rfl rfl ?_
      | refine wpL_loadH 4 hG rfl rfl (by decide) rfl rfl rfl rfl ?_
      | refine wpL_loadH 5 hG rfl rfl (by decide) rfl rfl rfl rfl ?_
      | (refine wpL_storeH 0 hG rfl rfl rfl rfl rfl rfl rfl rfl rfl rfl rfl ?_; intro G hG)
      | (refine wpL_storeH 1 hG rfl rfl rfl rfl rfl rfl rfl rfl rfl rfl rfl ?_; intro G hG)
      | (refine wpL_storeH 2 hG rfl rfl rfl rfl rfl rfl rfl rfl rfl rfl rfl ?_; intro G hG)
      | (refine wpL_storeH 3 hG rfl rfl rfl rfl rfl rfl rfl rfl rfl rfl rfl ?_; intro G hG)
      | (refine wpL_storeH 4 hG rfl rfl rfl rfl rfl rfl rfl rfl rfl rfl rfl ?_; intro G hG)
      | (refine wpL_storeH 5 hG rfl rfl rfl rfl rfl rfl rfl rfl rfl rfl rfl ?_; intro G hG)
      | (refine wpL_allocH hG rfl rfl (by decide) rfl rfl ?_; intro id G hG)
      | (refine wpL_boxH hG rfl rfl (by decide) rfl rfl rfl ?_; intro id G hG)
      | (refine wpL_sliceH hG rfl rfl (by decide) rfl rfl rfl rfl rfl rfl rfl rfl ?_; intro id G hG)
      | refine wpL_gt rfl rfl rfl rfl rfl (by decide) (by first | rfl | exact decide_eq_true (by omega) | exact decide_eq_false (by omega) | exact ndec_t (by omega) | exact ndec_f (by omega)) ?_
      | refine wpL_gf rfl rfl rfl rfl rfl (by decide) (by first | rfl | exact decide_eq_true (by omega) | exact decide_eq_false (by omega) | exact ndec_t (by omega) | exact ndec_f (by omega)) ?_
      | refine wpA_ct rfl (by first | rfl | exact decide_eq_true (by omega) | exact ndec_t (by omega)) ?_
      | refine wpA_cf rfl (by first | rfl | exact decide_eq_false (by omega) | exact ndec_f (by omega)) ?_
      | refine wpA_skip ?_
      | refine wpA_exit ?_
      | refine wpA_ret ?_
      | refine x_then_exit ?_
      | refine x_then_ret ?_
      | refine x_then_normal ?_
      | refine x_block_ret ?_
      | refine x_block_normal ?_
      | refine x_block_exit ?_
      | refine x_block_other rfl ?_
      | refine wpL_v rfl rfl (by decide) (OpV_pick_t rfl rfl (ndec_t (by omega)) rfl) ?_
      | refine wpL_v rfl rfl (by decide) (OpV_pick_f rfl rfl (ndec_f (by omega)) rfl) ?_)
    obtain ⟨H1, e1⟩ : ∃ X, X = G.set id (some (Blk.mk [I (clamp (pg l k).flow), I (pg l k).block, I (pg l k).part, I (pg l k).fr, I (pg l k).tt, I (pg l k).height, I (pg l k).before, I (pg l k).after, I (pg l k).rep, feetP (pg l k).feet, B (pg l k).force, B (pg l k).kept] 43 true)) := ⟨_, rfl⟩
    have hG1 : Has H1 [(id, Blk.mk [I (clamp (pg l k).flow), I (pg l k).block, I (pg l k).part, I (pg l k).fr, I (pg l k).tt, I (pg l k).height, I (pg l k).before, I (pg l k).after, I (pg l k).rep, feetP (pg l k).feet, B (pg l k).force, B (pg l k).kept] 43 true), (o, Blk.mk ((((l.take k).map fewP)).flatMap encPiece) 43 true)] := by rw [e1]; exact hG.set (k := 0) rfl _
    obtain ⟨H2, e2⟩ : ∃ X, X = H1.set id (some (Blk.mk [I (clamp (pg l k).flow), I (clamp (pg l k).block), I (pg l k).part, I (pg l k).fr, I (pg l k).tt, I (pg l k).height, I (pg l k).before, I (pg l k).after, I (pg l k).rep, feetP (pg l k).feet, B (pg l k).force, B (pg l k).kept] 43 true)) := ⟨_, rfl⟩
    have hG2 : Has H2 [(id, Blk.mk [I (clamp (pg l k).flow), I (clamp (pg l k).block), I (pg l k).part, I (pg l k).fr, I (pg l k).tt, I (pg l k).height, I (pg l k).before, I (pg l k).after, I (pg l k).rep, feetP (pg l k).feet, B (pg l k).force, B (pg l k).kept] 43 true), (o, Blk.mk ((((l.take k).map fewP)).flatMap encPiece) 43 true)] := by rw [e2]; exact hG1.set (k := 0) rfl _
    obtain ⟨H3, e3⟩ : ∃ X, X = H2.set id (some (Blk.mk [I (clamp (pg l k).flow), I (clamp (pg l k).block), I (clamp (pg l k).part), I (pg l k).fr, I (pg l k).tt, I (pg l k).height, I (pg l k).before, I (pg l k).after, I (pg l k).rep, feetP (pg l k).feet, B (pg l k).force, B (pg l k).kept] 43 true)) := ⟨_, rfl⟩
    have hG3 : Has H3 [(id, Blk.mk [I (clamp (pg l k).flow), I (clamp (pg l k).block), I (clamp (pg l k).part), I (pg l k).fr, I (pg l k).tt, I (pg l k).height, I (pg l k).before, I (pg l k).after, I (pg l k).rep, feetP (pg l k).feet, B (pg l k).force, B (pg l k).kept] 43 true), (o, Blk.mk ((((l.take k).map fewP)).flatMap encPiece) 43 true)] := by rw [e3]; exact hG2.set (k := 0) rfl _
    obtain ⟨H4, e4⟩ : ∃ X, X = H3.set id (some (Blk.mk [I (clamp (pg l k).flow), I (clamp (pg l k).block), I (clamp (pg l k).part), I (clamp (pg l k).fr), I (pg l k).tt, I (pg l k).height, I (pg l k).before, I (pg l k).after, I (pg l k).rep, feetP (pg l k).feet, B (pg l k).force, B (pg l k).kept] 43 true)) := ⟨_, rfl⟩
    have hG4 : Has H4 [(id, Blk.mk [I (clamp (pg l k).flow), I (clamp (pg l k).block), I (clamp (pg l k).part), I (clamp (pg l k).fr), I (pg l k).tt, I (pg l k).height, I (pg l k).before, I (pg l k).after, I (pg l k).rep, feetP (pg l k).feet, B (pg l k).force, B (pg l k).kept] 43 true), (o, Blk.mk ((((l.take k).map fewP)).flatMap encPiece) 43 true)] := by rw [e4]; exact hG3.set (k := 0) rfl _
    obtain ⟨H5, e5⟩ : ∃ X, X = H4.set id (some (Blk.mk [I (clamp (pg l k).flow), I (clamp (pg l k).block), I (clamp (pg l k).part), I (clamp (pg l k).fr), I (clamp (pg l k).tt), I (pg l k).height, I (pg l k).before, I (pg l k).after, I (pg l k).rep, feetP (pg l k).feet, B (pg l k).force, B (pg l k).kept] 43 true)) := ⟨_, rfl⟩
    have hG5 : Has H5 [(id, Blk.mk [I (clamp (pg l k).flow), I (clamp (pg l k).block), I (clamp (pg l k).part), I (clamp (pg l k).fr), I (clamp (pg l k).tt), I (pg l k).height, I (pg l k).before, I (pg l k).after, I (pg l k).rep, feetP (pg l k).feet, B (pg l k).force, B (pg l k).kept] 43 true), (o, Blk.mk ((((l.take k).map fewP)).flatMap encPiece) 43 true)] := by rw [e5]; exact hG4.set (k := 0) rfl _
    refine wpA_dL [H1, H2, H3, H4, H5] H5 mixed (by decide +kernel) (N := 5) (by decide +kernel) rfl ?_
    repeat (first
      | refine D_r 0 (by decide +kernel) (by decide +kernel) rfl rfl rfl rfl (by decide) (OpV_load_at rfl rfl (hG.get 0 _ _ rfl) rfl) ?_
      | refine D_k rfl rfl rfl (by decide) (fun _ => Iso.K rfl rfl rfl rfl (few1_iso _) (TreeL.cons (tree_I _) TreeL.nil)) ?_
      | refine D_s 0 (by decide +kernel) rfl rfl rfl rfl (OpS_store_at rfl rfl rfl (hG.get 0 _ _ rfl) rfl rfl rfl rfl rfl) e1 ?_
      | refine D_s 1 (by decide +kernel) rfl rfl rfl rfl (OpS_store_at rfl rfl rfl (hG1.get 0 _ _ rfl) rfl rfl rfl rfl rfl) e2 ?_
      | refine D_s 2 (by decide +kernel) rfl rfl rfl rfl (OpS_store_at rfl rfl rfl (hG2.get 0 _ _ rfl) rfl rfl rfl rfl rfl) e3 ?_
      | refine D_s 3 (by decide +kernel) rfl rfl rfl rfl (OpS_store_at rfl rfl rfl (hG3.get 0 _ _ rfl) rfl rfl rfl rfl rfl) e4 ?_
      | refine D_s 4 (by decide +kernel) rfl rfl rfl rfl (OpS_store_at rfl rfl rfl (hG4.get 0 _ _ rfl) rfl rfl rfl rfl rfl) e5 ?_
      | refine D_v rfl rfl rfl (by decide) (fun _ => OpV_move rfl rfl) ?_
      | refine D_v rfl rfl rfl (by decide) (fun _ => OpV_assign rfl rfl) ?_
      | refine D_v rfl rfl rfl (by decide) (fun _ => OpV_cmp rfl rfl rfl rfl) ?_
      | refine D_v rfl rfl rfl (by decide) (fun _ => OpV_add rfl rfl rfl (by omega)) ?_
      | refine D_v rfl rfl rfl (by decide) (fun _ => OpV_sub rfl rfl rfl (by omega)) ?_
      | refine D_v rfl rfl rfl (by decide) (fun _ => OpV_len rfl rfl rfl) ?_
      | refine D_v rfl rfl rfl (by decide) (fun _ => OpV_nilCheck rfl rfl rfl) ?_
      | refine D_v rfl rfl rfl (by decide) (fun _ => OpV_fieldAddr rfl rfl rfl rfl) ?_
      | refine D_v rfl rfl rfl (by decide) (fun _ => OpV_not rfl rfl) ?_
      | refine D_v rfl rfl rfl (by decide) (fun _ => OpV_extract rfl rfl rfl) ?_
      | refine D_v rfl rfl rfl (by decide) (fun _ => OpV_pick_t rfl rfl (by first | rfl | exact decide_eq_true (by omega)) rfl) ?_
      | refine D_v rfl rfl rfl (by decide) (fun _ => OpV_pick_f rfl rfl (by first | rfl | exact decide_eq_false (by omega)) rfl) ?_
      | refine D_v rfl rfl rfl (by decide) (fun _ => OpV_build rfl rfl rfl rfl) ?_
      | refine D_v rfl rfl rfl (by decide) (fun _ => OpV_max rfl rfl rfl) ?_
      | refine D_v rfl rfl rfl (by decide) (fun _ => OpV_min rfl rfl rfl) ?_
      | refine D_end ?_)
    have hG := hG5
    clear hG1 hG2 hG3 hG4 hG5
    refine wpA_seq ?_
    obtain ⟨H6, e6⟩ : ∃ X, X = H5.set id (some (Blk.mk [I (clamp (pg l k).flow), I (clamp (pg l k).block), I (clamp (pg l k).part), I (clamp (pg l k).fr), I (clamp (pg l k).tt), I (clamp (pg l k).height), I (pg l k).before, I (pg l k).after, I (pg l k).rep, feetP (pg l k).feet, B (pg l k).force, B (pg l k).kept] 43 true)) := ⟨_, rfl⟩
    have hG6 : Has H6 [(id, Blk.mk [I (clamp (pg l k).flow), I (clamp (pg l k).block), I (clamp (pg l k).part), I (clamp (pg l k).fr), I (clamp (pg l k).tt), I (clamp (pg l k).height), I (pg l k).before, I (pg l k).after, I (pg l k).rep, feetP (pg l k).feet, B (pg l k).force, B (pg l k).kept] 43 true), (o, Blk.mk ((((l.take k).map fewP)).flatMap encPiece) 43 true)] := by rw [e6]; exact hG.set (k := 0) rfl _
    obtain ⟨H7, e7⟩ : ∃ X, X = H6.set id (some (Blk.mk [I (clamp (pg l k).flow), I (clamp (pg l k).block), I (clamp (pg l k).part), I (clamp (pg l k).fr), I (clamp (pg l k).tt), I (clamp (pg l k).height), I (clamp (pg l k).before), I (pg l k).after, I (pg l k).rep, feetP (pg l k).feet, B (pg l k).force, B (pg l k).kept] 43 true)) := ⟨_, rfl⟩
    have hG7 : Has H7 [(id, Blk.mk [I (clamp (pg l k).flow), I (clamp (pg l k).block), I (clamp (pg l k).part), I (clamp (pg l k).fr), I (clamp (pg l k).tt), I (clamp (pg l k).height), I (clamp (pg l k).before), I (pg l k).after, I (pg l k).rep, feetP (pg l k).feet, B (pg l k).force, B (pg l k).kept] 43 true), (o, Blk.mk ((((l.take k).map fewP)).flatMap encPiece) 43 true)] := by rw [e7]; exact hG6.set (k := 0) rfl _
    obtain ⟨H8, e8⟩ : ∃ X, X = H7.set id (some (Blk.mk [I (clamp (pg l k).flow), I (clamp (pg l k).block), I (clamp (pg l k).part), I (clamp (pg l k).fr), I (clamp (pg l k).tt), I (clamp (pg l k).height), I (clamp (pg l k).before), I (clamp (pg l k).after), I (pg l k).rep, feetP (pg l k).feet, B (pg l k).force, B (pg l k).kept] 43 true)) := ⟨_, rfl⟩
    have hG8 : Has H8 [(id, Blk.mk [I (clamp (pg l k).flow), I (clamp (pg l k).block), I (clamp (pg l k).part), I (clamp (pg l k).fr), I (clamp (pg l k).tt), I (clamp (pg l k).height), I (clamp (pg l k).before), I (clamp (pg l k).after), I (pg l k).rep, feetP (pg l k).feet, B (pg l k).force, B (pg l k).kept] 43 true), (o, Blk.mk ((((l.take k).map fewP)).flatMap encPiece) 43 true)] := by rw [e8]; exact hG7.set (k := 0) rfl _
    obtain ⟨H9, e9⟩ : ∃ X, X = H8.set id (some (Blk.mk [I (clamp (pg l k).flow), I (clamp (pg l k).block), I (clamp (pg l k).part), I (clamp (pg l k).fr), I (clamp (pg l k).tt), I (clamp (pg l k).height), I (clamp (pg l k).before), I (clamp (pg l k).after), I (clamp (pg l k).rep), feetP (pg l k).feet, B (pg l k).force, B (pg l k).kept] 43 true)) := ⟨_, rfl⟩
    have hG9 : Has H9 [(id, Blk.mk [I (clamp (pg l k).flow), I (clamp (pg l k).block), I (clamp (pg l k).part), I (clamp (pg l k).fr), I (clamp (pg l k).tt), I (clamp (pg l k).height), I (clamp (pg l k).before), I (clamp (pg l k).after), I (clamp (pg l k).rep), feetP (pg l k).feet, B (pg l k).force, B (pg l k).kept] 43 true), (o, Blk.mk ((((l.take k).map fewP)).flatMap encPiece) 43 true)] := by rw [e9]; exact hG8.set (k := 0) rfl _
    refine wpA_dL [H6, H7, H8, H9] H9 mixed (by decide +kernel) (N := 4) (by decide +kernel) rfl ?_
    repeat (first
      | refine D_r 0 (by decide +kernel) (by decide +kernel) rfl rfl rfl rfl (by decide) (OpV_load_at rfl rfl (hG.get 0 _ _ rfl) rfl) ?_
      | refine D_k rfl rfl rfl (by decide) (fun _ => Iso.K rfl rfl rfl rfl (few1_iso _) (TreeL.cons (tree_I _) TreeL.nil)) ?_
      | refine D_s 0 (by decide +kernel) rfl rfl rfl rfl (OpS_store_at rfl rfl rfl (hG.get 0 _ _ rfl) rfl rfl rfl rfl rfl) e6 ?_
      | refine D_s 1 (by decide +kernel) rfl rfl rfl rfl (OpS_store_at rfl rfl rfl (hG6.get 0 _ _ rfl) rfl rfl rfl rfl rfl) e7 ?_
      | refine D_s 2 (by decide +kernel) rfl rfl rfl rfl (OpS_store_at rfl rfl rfl (hG7.get 0 _ _ rfl) rfl rfl rfl rfl rfl) e8 ?_
      | refine D_s 3 (by decide +kernel) rfl rfl rfl rfl (OpS_store_at rfl rfl rfl (hG8.get 0 _ _ rfl) rfl rfl rfl rfl rfl) e9 ?_
      | refine D_v rfl rfl rfl (by decide) (fun _ => OpV_move rfl rfl) ?_
      | refine D_v rfl rfl rfl (by decide) (fun _ => OpV_assign rfl rfl) ?_
      | refine D_v rfl rfl rfl (by decide) (fun _ => OpV_cmp rfl rfl rfl rfl) ?_
      | refine D_v rfl rfl rfl (by decide) (fun _ => OpV_add rfl rfl rfl (by omega)) ?_
      | refine D_v rfl rfl rfl (by decide) (fun _ => OpV_sub rfl rfl rfl (by omega)) ?_
      | refine D_v rfl rfl rfl (by decide) (fun _ => OpV_len rfl rfl rfl) ?_
      | refine D_v rfl rfl rfl (by decide) (fun _ => OpV_nilCheck rfl rfl rfl) ?_
      | refine D_v rfl rfl rfl (by decide) (fun _ => OpV_fieldAddr rfl rfl rfl rfl) ?_
      | refine D_v rfl rfl rfl (by decide) (fun _ => OpV_not rfl rfl) ?_
      | refine D_v rfl rfl rfl (by decide) (fun _ => OpV_extract rfl rfl rfl) ?_
      | refine D_v rfl rfl rfl (by decide) (fun _ => OpV_pick_t rfl rfl (by first | rfl | exact decide_eq_true (by omega)) rfl) ?_
      | refine D_v rfl rfl rfl (by decide) (fun _ => OpV_pick_f rfl rfl (by first | rfl | exact decide_eq_false (by omega)) rfl) ?_
      | refine D_v rfl rfl rfl (by decide) (fun _ => OpV_build rfl rfl rfl rfl) ?_
      | refine D_v rfl rfl rfl (by decide) (fun _ => OpV_max rfl rfl rfl) ?_
      | refine D_v rfl rfl rfl (by decide) (fun _ => OpV_min rfl rfl rfl) ?_
      | refine D_end ?_)
    have hG := hG9
    clear hG6 hG7 hG8 hG9
    repeat (first
      | refine wpL_end ?_
      | refine wpL_nil ?_
      | refine wpA_seq ?_
      | refine wpA_region ?_
      | refine wpA_block ?_
      | refine wpL_v rfl rfl (by decide) (OpV_move rfl rfl) ?_
      | refine wpL_v rfl rfl (by decide) (OpV_assign rfl rfl) ?_
      | refine wpL_v rfl rfl (by decide) (OpV_cmp rfl rfl rfl rfl) ?_
      | refine wpL_v rfl rfl (by decide) (OpV_add rfl rfl rfl (by omega)) ?_
      | refine wpL_v rfl rfl (by decide) (OpV_sub rfl rfl rfl (by omega)) ?_
      | refine wpL_v rfl rfl (by decide) (OpV_len rfl rfl rfl) ?_
      | refine wpL_v rfl rfl (by decide) (OpV_nilCheck rfl rfl rfl) ?_
      | refine wpL_v rfl rfl (by decide) (OpV_fieldAddr rfl rfl rfl rfl) ?_
      | refine wpL_v rfl rfl (by decide) (OpV_load rfl rfl rfl) ?_
      | refine wpL_v rfl rfl (by decide) (OpV_not rfl rfl) ?_
      | refine wpL_v rfl rfl (by decide) (OpV_extract rfl rfl rfl) ?_
      | refine wpL_v rfl rfl (by decide) (OpV_pick_t rfl rfl (by first | rfl | exact decide_eq_true (by omega)) rfl) ?_
      | refine wpL_v rfl rfl (by decide) (OpV_pick_f rfl rfl (by first | rfl | exact decide_eq_false (by omega)) rfl) ?_
      | refine wpL_v rfl rfl (by decide) (OpV_build rfl rfl rfl rfl) ?_
      | refine wpL_v rfl rfl (by decide) (OpV_max rfl rfl rfl) ?_
      | refine wpL_v rfl rfl (by decide) (OpV_min rfl rfl rfl) ?_
      | refine wpL_v rfl rfl (by decide) (OpV_nilptr rfl rfl rfl) ?_
      | refine wpL_v rfl rfl (by decide) (OpV_beq rfl rfl rfl) ?_
      | refine wpL_v rfl rfl (by decide) (OpV_bne rfl rfl rfl) ?_
      | refine wpL_v rfl rfl (by decide) (OpV_makeFunc rfl rfl) ?_
      | refine wpL_loadH 0 hG rfl rfl (by decide) rfl rfl rfl rfl ?_
      | refine wpL_loadH 1 hG rfl rfl (by decide) rfl rfl rfl rfl ?_
      | refine wpL_loadH 2 hG rfl rfl (by decide) rfl rfl rfl rfl ?_
      | refine wpL_loadH 3 hG rfl rfl (by decide) rfl rfl rfl rfl ?_
      | refine wpL_loadH 4 hG rfl rfl (by decide) rfl rfl rfl rfl ?_
      | refine wpL_loadH 5 hG rfl rfl (by decide) rfl rfl rfl rfl ?_
      | (refine wpL_storeH 0 hG rfl rfl rfl rfl rfl rfl rfl rfl rfl rfl rfl ?_; intro G hG)
      | (refine wpL_storeH 1 hG rfl rfl rfl rfl rfl rfl rfl rfl rfl rfl rfl ?_; intro G hG)
      | (refine wpL_storeH 2 hG rfl rfl rfl rfl rfl rfl rfl rfl rfl rfl rfl ?_; intro G hG)
      | (refine wpL_storeH 3 hG rfl rfl rfl rfl rfl rfl rfl rfl rfl rfl rfl ?_; intro G hG)
      | (refine wpL_storeH 4 hG rfl rfl rfl rfl rfl rfl rfl rfl rfl rfl rfl ?_; intro G hG)
      | (refine wpL_storeH 5 hG rfl rfl rfl rfl rfl rfl rfl rfl rfl rfl rfl ?_; intro G hG)
      | (refine wpL_allocH hG rfl rfl (by decide) rfl rfl ?_; intro id G hG)
      | (refine wpL_boxH hG rfl rfl (by decide) rfl rfl rfl ?_; intro id G hG)
      | (refine wpL_sliceH hG rfl rfl (by decide) rfl rfl rfl rfl rfl rfl rfl rfl ?_; intro id G hG)
      | refine wpL_gt rfl rfl rfl rfl rfl (by decide) (by first | rfl | exact decide_eq_true (by omega) | exact decide_eq_false (by omega) | exact ndec_t (by omega) | exact ndec_f (by omega)) ?_
      | refine wpL_gf rfl rfl rfl rfl rfl (by decide) (by first | rfl | exact decide_eq_true (by omega) | exact decide_eq_false (by omega) | exact ndec_t (by omega) | exact ndec_f (by omega)) ?_
      | refine wpA_ct rfl (by first | rfl | exact decide_eq_true (by omega) | exact ndec_t (by omega)) ?_
      | refine wpA_cf rfl (by first | rfl | exact decide_eq_false (by omega) | exact ndec_f (by omega)) ?_
      | refine wpA_skip ?_
      | refine wpA_exit ?_
      | refine wpA_ret ?_
      | refine x_then_exit ?_
      | refine x_then_ret ?_
      | refine x_then_normal ?_
      | refine x_block_ret ?_
      | refine x_block_normal ?_
      | refine x_block_exit ?_
      | refine x_block_other rfl ?_
      | refine wpL_v rfl rfl (by decide) (OpV_pick_t rfl rfl (ndec_t (by omega)) rfl) ?_
      | refine wpL_v rfl rfl (by decide) (OpV_pick_f rfl rfl (ndec_f (by omega)) rfl) ?_)
    refine wpA_ghostC 0 9 71 2 hG rfl rfl ?_
    intro f0 G hG
    refine wpA_loopS (S := Nat × Nat) (fun x => [(0, pcs l), (3, .fn (.func 37) []), (4, .sl o 0 k 12), (5, I k), (6, .ptr id 0), (7, I x.1)])
      (fun x G => x.1 ≤ (pg l k).feet.length ∧ x.1 ≤ 5 ∧ Has G [(x.2, Blk.mk ((((pg l k).feet.take x.1).map fewF).flatMap encFoot) 71 true), (id, Blk.mk [I (clamp (pg l k).flow), I (clamp (pg l k).block), I (clamp (pg l k).part), I (clamp (pg l k).fr), I (clamp (pg l k).tt), I (clamp (pg l k).height), I (clamp (pg l k).before), I (clamp (pg l k).after), I (clamp (pg l k).rep), .sl x.2 0 (((pg l k).feet.take x.1).map fewF).length 2, B (pg l k).force, B (pg l k).kept] 43 true), (o, Blk.mk ((((l.take k).map fewP)).flatMap encPiece) 43 true)]) (fun x => (pg l k).feet.length - x.1) (0, f0)
      (.cons rfl (.cons rfl (.cons rfl (.cons rfl (.cons rfl (.cons rfl (.nil _))))))) ⟨by omega, by omega, hG⟩ ?_
    rintro ⟨j, f⟩ G ⟨hj, hj5, hG⟩
    dsimp only at hj hj5 hG ⊢
    have c2 : ((((pg l k).feet.take j).map fewF).flatMap encFoot).length = (((pg l k).feet.take j).map fewF).length * 2 := flat_len encFoot_len _
    have c3 : (((pg l k).feet.take j).map fewF).length ≤ j := by simp only [List.length_map, List.length_take]; omega
    by_cases hjl : j < (pg l k).feet.length ∧ j < 5
    · obtain ⟨hj1, hj2⟩ := hjl
      obtain ⟨ft, hft⟩ : ∃ ft, (pg l k).feet[j]? = some ft := ⟨_, List.getElem?_eq_getElem hj1⟩
      have x4 := take_succ_of hft
      repeat (first
        | refine wpL_end ?_
        | refine wpL_nil ?_
        | refine wpA_seq ?_
        | refine wpA_region ?_
        | refine wpA_block ?_
        | refine wpL_v rfl rfl (by decide) (OpV_index_tr rfl rfl rfl (by omega) (pcs_spot hp)) ?_
        | refine wpL_v rfl rfl (by decide) (OpV_move rfl rfl) ?_
        | refine wpL_v rfl rfl (by decide) (OpV_assign rfl rfl) ?_
        | refine wpL_v rfl rfl (by decide) (OpV_cmp rfl rfl rfl rfl) ?_
        | refine wpL_v rfl rfl (by decide) (OpV_add rfl rfl rfl (by omega)) ?_
        | refine wpL_v rfl rfl (by decide) (OpV_sub rfl rfl rfl (by omega)) ?_
        | refine wpL_v rfl rfl (by decide) (OpV_len rfl rfl rfl) ?_
        | refine wpL_v rfl rfl (by decide) (OpV_nilCheck rfl rfl rfl) ?_
        | refine wpL_v rfl rfl (by decide) (OpV_fieldAddr rfl rfl rfl rfl) ?_
        | refine wpL_v rfl rfl (by decide) (OpV_load rfl rfl rfl) ?_
        | refine wpL_v rfl rfl (by decide) (OpV_not rfl rfl) ?_
        | refine wpL_v rfl rfl (by decide) (OpV_extract rfl rfl rfl) ?_
        | refine wpL_v rfl rfl (by decide) (OpV_pick_t rfl rfl (by first | rfl | exact decide_eq_true (by omega)) rfl) ?_
        | refine wpL_v rfl rfl (by decide) (OpV_pick_f rfl rfl (by first | rfl | exact decide_eq_false (by omega)) rfl) ?_
        | refine wpL_v rfl rfl (by decide) (OpV_build rfl rfl rfl rfl) ?_
        | refine wpL_v rfl rfl (by decide) (OpV_max rfl rfl rfl) ?_
        | refine wpL_v rfl rfl (by decide) (OpV_min rfl rfl rfl) ?_
        | refine wpL_v rfl rfl (by decide) (OpV_nilptr rfl rfl rfl) ?_
        | refine wpL_v rfl rfl (by decide) (OpV_beq rfl rfl rfl) ?_
        | refine wpL_v rfl rfl (by decide) (OpV_bne rfl rfl rfl) ?_
        | refine wpL_v rfl rfl (by decide) (OpV_makeFunc rfl rfl) ?_
        | refine wpL_loadH 0 hG rfl rfl (by decide) rfl rfl rfl rfl ?_
        | refine wpL_loadH 1 hG rfl rfl (by decide) rfl rfl rfl rfl ?_
        | refine wpL_loadH 2 hG rfl rfl (by decide) rfl rfl rfl rfl ?_
        | refine wpL_loadH 3 hG rfl rfl (by decide) rfl rfl rfl rfl ?_
        | refine wpL_loadH 4 hG rfl rfl (by decide) rfl rfl rfl rfl ?_
        | refine wpL_loadH 5 hG rfl rfl (by decide) rfl rfl rfl rfl ?_
        | (refine wpL_storeH 0 hG rfl rfl rfl rfl rfl rfl rfl rfl rfl rfl rfl ?_; intro G hG)
        | (refine wpL_storeH 1 hG rfl rfl rfl rfl rfl rfl rfl rfl rfl rfl rfl ?_; intro G hG)
        | (refine wpL_storeH 2 hG rfl rfl rfl rfl rfl rfl rfl rfl rfl rfl rfl ?_; intro G hG)
        | (refine wpL_storeH 3 hG rfl rfl rfl rfl rfl rfl rfl rfl rfl rfl rfl ?_; intro G hG)
        | (refine wpL_storeH 4 hG rfl rfl rfl rfl rfl rfl rfl rfl rfl rfl rfl ?_; intro G hG)
        | (refine wpL_storeH 5 hG rfl rfl rfl rfl rfl rfl rfl rfl rfl rfl rfl ?_; intro G hG)
        | (refine wpL_allocH hG rfl rfl (by decide) rfl rfl ?_; intro id G hG)
        | (refine wpL_boxH hG rfl rfl (by decide) rfl rfl rfl ?_; intro id G hG)
        | (refine wpL_sliceH hG rfl rfl (by decide) rfl rfl rfl rfl rfl rfl rfl rfl ?_; intro id G hG)
        | refine wpL_gt rfl rfl rfl rfl rfl (by decide) (by first | rfl | exact decide_eq_true (by omega) | exact decide_eq_false (by omega) | exact ndec_t (by omega) | exact ndec_f (by omega)) ?_
        | refine wpL_gf rfl rfl rfl rfl rfl (by decide) (by first | rfl | exact decide_eq_true (by omega) | exact decide_eq_false (by omega) | exact ndec_t (by omega) | exact ndec_f (by omega)) ?_
        | refine wpA_ct rfl (by first | rfl | exact decide_eq_true (by omega) | exact ndec_t (by omega)) ?_
        | refine wpA_cf rfl (by first | rfl | exact decide_eq_false (by omega) | exact ndec_f (by omega)) ?_
        | refine wpA_skip ?_
        | refine wpA_exit ?_
        | refine wpA_ret ?_
        | refine x_then_exit ?_
        | refine x_then_ret ?_
        | refine x_then_normal ?_
        | refine x_block_ret ?_
        | refine x_block_normal ?_
        | refine x_block_exit ?_
        | refine x_block_other rfl ?_
        | refine wpL_v rfl rfl (by decide) (OpV_pick_t rfl rfl (ndec_t (by omega)) rfl) ?_
        | refine wpL_v rfl rfl (by decide) (OpV_pick_f rfl rfl (ndec_f (by omega)) rfl) ?_)
      obtain ⟨H1, e1⟩ : ∃ X, X = G ++ [some (Blk.mk [I (clamp ft.id), I (clamp ft.h)] 71 true)] := ⟨_, rfl⟩
      have hG1 : Has H1 ((G.length, Blk.mk [I (clamp ft.id), I (clamp ft.h)] 71 true) :: [(f, Blk.mk ((((pg l k).feet.take j).map fewF).flatMap encFoot) 71 true), (id, Blk.mk [I (clamp (pg l k).flow), I (clamp (pg l k).block), I (clamp (pg l k).part), I (clamp (pg l k).fr), I (clamp (pg l k).tt), I (clamp (pg l k).height), I (clamp (pg l k).before), I (clamp (pg l k).after), I (clamp (pg l k).rep), .sl f 0 (((pg l k).feet.take j).map fewF).length 2, B (pg l k).force, B (pg l k).kept] 43 true), (o, Blk.mk ((((l.take k).map fewP)).flatMap encPiece) 43 true)]) := by rw [e1]; exact hG.new _
      obtain ⟨H2, e2⟩ : ∃ X, X = H1.set f none ++ [some (Blk.mk ((((pg l k).feet.take j).map fewF).flatMap encFoot ++ [I (clamp ft.id), I (clamp ft.h)]) 71 true)] := ⟨_, rfl⟩
      have hG2 : Has H2 [(G.length, Blk.mk [I (clamp ft.id), I (clamp ft.h)] 71 true), (H1.length, Blk.mk ((((pg l k).feet.take j).map fewF).flatMap encFoot ++ [I (clamp ft.id), I (clamp ft.h)]) 71 true), (id, Blk.mk [I (clamp (pg l k).flow), I (clamp (pg l k).block), I (clamp (pg l k).part), I (clamp (pg l k).fr), I (clamp (pg l k).tt), I (clamp (pg l k).height), I (clamp (pg l k).before), I (clamp (pg l k).after), I (clamp (pg l k).rep), .sl f 0 (((pg l k).feet.take j).map fewF).length 2, B (pg l k).force, B (pg l k).kept] 43 true), (o, Blk.mk ((((l.take k).map fewP)).flatMap encPiece) 43 true)] := by rw [e2]; exact hG1.grow (k := 1) rfl _
      obtain ⟨H3, e3⟩ : ∃ X, X = H2.set id (some (Blk.mk [I (clamp (pg l k).flow), I (clamp (pg l k).block), I (clamp (pg l k).part), I (clamp (pg l k).fr), I (clamp (pg l k).tt), I (clamp (pg l k).height), I (clamp (pg l k).before), I (clamp (pg l k).after), I (clamp (pg l k).rep), .sl H1.length 0 ((((pg l k).feet.take j).map fewF).length + 1) 2, B (pg l k).force, B (pg l k).kept] 43 true)) := ⟨_, rfl⟩
      have hG3 : Has H3 [(G.length, Blk.mk [I (clamp ft.id), I (clamp ft.h)] 71 true), (H1.length, Blk.mk ((((pg l k).feet.take j).map fewF).flatMap encFoot ++ [I (clamp ft.id), I (clamp ft.h)]) 71 true), (id, Blk.mk [I (clamp (pg l k).flow), I (clamp (pg l k).block), I (clamp (pg l k).part), I (clamp (pg l k).fr), I (clamp (pg l k).tt), I (clamp (pg l k).height), I (clamp (pg l k).before), I (clamp (pg l k).after), I (clamp (pg l k).rep), .sl H1.length 0 ((((pg l k).feet.take j).map fewF).length + 1) 2, B (pg l k).force, B (pg l k).kept] 43 true), (o, Blk.mk ((((l.take k).map fewP)).flatMap encPiece) 43 true)] := by rw [e3]; exact hG2.set (k := 2) rfl _
      refine wpA_dL [H1, H2, H3] H3 mixed (by decide +kernel) (N := 3) (by decide +kernel) rfl ?_
      repeat (first
        | refine D_v rfl rfl rfl (by decide) (fun _ => OpV_index_tr rfl rfl rfl (by omega) (pcs_spot hp)) ?_
        | refine D_v rfl rfl rfl (by decide) (fun _ => OpV_index_tr rfl rfl rfl (by omega) (feet_spot hft)) ?_
        | refine D_v rfl rfl rfl (by decide) (fun _ => OpV_load rfl rfl rfl) ?_
        | refine D_k rfl rfl rfl (by decide) (fun _ => Iso.K rfl rfl rfl rfl (few1_iso _) (TreeL.cons (tree_I _) TreeL.nil)) ?_
        | refine D_r2 0 (by decide +kernel) (by decide +kernel) rfl rfl rfl rfl rfl (by decide) (OpV_load_at rfl rfl (hG.get 1 _ _ rfl) rfl) (OpV_load_at rfl rfl (hG1.get 2 _ _ rfl) rfl) ?_
        | refine D_w 0 (by decide +kernel) rfl rfl rfl rfl (by decide) (OpW_buildSlice rfl rfl rfl rfl rfl rfl rfl rfl) e1 ?_
        | refine D_w 1 (by decide +kernel) rfl rfl rfl rfl (by decide) (OpW_append rfl rfl rfl rfl (hG1.cellsOf (k := 0) rfl rfl) rfl (appendA_at (hG1.get 1 _ _ rfl) rfl rfl (by rw [c2]; exact Nat.beq_refl _)) (by omega) (by omega)) e2 ?_
        | refine D_s 2 (by decide +kernel) rfl rfl rfl rfl (OpS_store_at rfl rfl rfl (hG2.get 2 _ _ rfl) rfl rfl rfl rfl rfl) e3 ?_
        | refine D_v rfl rfl rfl (by decide) (fun _ => OpV_move rfl rfl) ?_
        | refine D_v rfl rfl rfl (by decide) (fun _ => OpV_assign rfl rfl) ?_
        | refine D_v rfl rfl rfl (by decide) (fun _ => OpV_cmp rfl rfl rfl rfl) ?_
        | refine D_v rfl rfl rfl (by decide) (fun _ => OpV_add rfl rfl rfl (by omega)) ?_
        | refine D_v rfl rfl rfl (by decide) (fun _ => OpV_sub rfl rfl rfl (by omega)) ?_
        | refine D_v rfl rfl rfl (by decide) (fun _ => OpV_len rfl rfl rfl) ?_
        | refine D_v rfl rfl rfl (by decide) (fun _ => OpV_nilCheck rfl rfl rfl) ?_
        | refine D_v rfl rfl rfl (by decide) (fun _ => OpV_fieldAddr rfl rfl rfl rfl) ?_
        | refine D_v rfl rfl rfl (by decide) (fun _ => OpV_not rfl rfl) ?_
        | refine D_v rfl rfl rfl (by decide) (fun _ => OpV_extract rfl rfl rfl) ?_
        | refine D_v rfl rfl rfl (by decide) (fun _ => OpV_pick_t rfl rfl (by first | rfl | exact decide_eq_true (by omega)) rfl) ?_
        | refine D_v rfl rfl rfl (by decide) (fun _ => OpV_pick_f rfl rfl (by first | rfl | exact decide_eq_false (by omega)) rfl) ?_
        | refine D_v rfl rfl rfl (by decide) (fun _ => OpV_build rfl rfl rfl rfl) ?_
        | refine D_v rfl rfl rfl (by decide) (fun _ => OpV_max rfl rfl rfl) ?_
        | refine D_v rfl rfl rfl (by decide) (fun _ => OpV_min rfl rfl rfl) ?_
        | refine D_end ?_)
      have hG := hG3
      repeat (first
        | refine wpL_end ?_
        | refine wpL_nil ?_
        | refine wpA_seq ?_
        | refine wpA_region ?_
        | refine wpA_block ?_
        | refine wpL_v rfl rfl (by decide) (OpV_move rfl rfl) ?_
        | refine wpL_v rfl rfl (by decide) (OpV_assign rfl rfl) ?_
        | refine wpL_v rfl rfl (by decide) (OpV_cmp rfl rfl rfl rfl) ?_
        | refine wpL_v rfl rfl (by decide) (OpV_add rfl rfl rfl (by omega)) ?_
        | refine wpL_v rfl rfl (by decide) (OpV_sub rfl rfl rfl (by omega)) ?_
        | refine wpL_v rfl rfl (by decide) (OpV_len rfl rfl rfl) ?_
        | refine wpL_v rfl rfl (by decide) (OpV_nilCheck rfl rfl rfl) ?_
        | refine wpL_v rfl rfl (by decide) (OpV_fieldAddr rfl rfl rfl rfl) ?_
        | refine wpL_v rfl rfl (by decide) (OpV_load rfl rfl rfl) ?_
        | refine wpL_v rfl rfl (by decide) (OpV_not rfl rfl) ?_
        | refine wpL_v rfl rfl (by decide) (OpV_extract rfl rfl rfl) ?_
        | refine wpL_v rfl rfl (by decide) (OpV_pick_t rfl rfl (by first | rfl | exact decide_eq_true (by omega)) rfl) ?_
        | refine wpL_v rfl rfl (by decide) (OpV_pick_f rfl rfl (by first | rfl | exact decide_eq_false (by omega)) rfl) ?_
        | refine wpL_v rfl rfl (by decide) (OpV_build rfl rfl rfl rfl) ?_
        | refine wpL_v rfl rfl (by decide) (OpV_max rfl rfl rfl) ?_
        | refine wpL_v rfl rfl (by decide) (OpV_min rfl rfl rfl) ?_
        | refine wpL_v rfl rfl (by decide) (OpV_nilptr rfl rfl rfl) ?_
        | refine wpL_v rfl rfl (by decide) (OpV_beq rfl rfl rfl) ?_
        | refine wpL_v rfl rfl (by decide) (OpV_bne rfl rfl rfl) ?_
        | refine wpL_v rfl rfl (by decide) (OpV_makeFunc rfl rfl) ?_
        | refine wpL_loadH 0 hG rfl rfl (by decide) rfl rfl rfl rfl ?_
        | refine wpL_loadH 1 hG rfl rfl (by decide) rfl rfl rfl rfl ?_
        | refine wpL_loadH 2 hG rfl rfl (by decide) rfl rfl rfl rfl ?_
        | refine wpL_loadH 3 hG rfl rfl (by decide) rfl rfl rfl rfl ?_
        | refine wpL_loadH 4 hG rfl rfl (by decide) rfl rfl rfl rfl ?_
        | refine wpL_loadH 5 hG rfl rfl (by decide) rfl rfl rfl rfl ?_
        | (refine wpL_storeH 0 hG rfl rfl rfl rfl rfl rfl rfl rfl rfl rfl rfl ?_; intro G hG)
        | (refine wpL_storeH 1 hG rfl rfl rfl rfl rfl rfl rfl rfl rfl rfl rfl ?_; intro G hG)
        | (refine wpL_storeH 2 hG rfl rfl rfl rfl rfl rfl rfl rfl rfl rfl rfl ?_; intro G hG)
        | (refine wpL_storeH 3 hG rfl rfl rfl rfl rfl rfl rfl rfl rfl rfl rfl ?_; intro G hG)
        | (refine wpL_storeH 4 hG rfl rfl rfl rfl rfl rfl rfl rfl rfl rfl rfl ?_; intro G hG)
        | (refine wpL_storeH 5 hG rfl rfl rfl rfl rfl rfl rfl rfl rfl rfl rfl ?_; intro G hG)
        | (refine wpL_allocH hG rfl rfl (by decide) rfl rfl ?_; intro id G hG)
        | (refine wpL_boxH hG rfl rfl (by decide) rfl rfl rfl ?_; intro id G hG)
        | (refine wpL_sliceH hG rfl rfl (by decide) rfl rfl rfl rfl rfl rfl rfl rfl ?_; intro id G hG)
        | refine wpL_gt rfl rfl rfl rfl rfl (by decide) (by first | rfl | exact decide_eq_true (by omega) | exact decide_eq_false (by omega) | exact ndec_t (by omega) | exact ndec_f (by omega)) ?_
        | refine wpL_gf rfl rfl rfl rfl rfl (by decide) (by first | rfl | exact decide_eq_true (by omega) | exact decide_eq_false (by omega) | exact ndec_t (by omega) | exact ndec_f (by omega)) ?_
        | refine wpA_ct rfl (by first | rfl | exact decide_eq_true (by omega) | exact ndec_t (by omega)) ?_
        | refine wpA_cf rfl (by first | rfl | exact decide_eq_false (by omega) | exact ndec_f (by omega)) ?_
        | refine wpA_skip ?_
        | refine wpA_exit ?_
        | refine wpA_ret ?_
        | refine x_then_exit ?_
        | refine x_then_ret ?_
        | refine x_then_normal ?_
        | refine x_block_ret ?_
        | refine x_block_normal ?_
        | refine x_block_exit ?_
        | refine x_block_other rfl ?_
        | refine wpL_v rfl rfl (by decide) (OpV_pick_t rfl rfl (ndec_t (by omega)) rfl) ?_
        | refine wpL_v rfl rfl (by decide) (OpV_pick_f rfl rfl (ndec_f (by omega)) rfl) ?_)
      have y1 : (((pg l k).feet.take (j + 1)).map fewF).flatMap encFoot = (((pg l k).feet.take j).map fewF).flatMap encFoot ++ [I (clamp ft.id), I (clamp ft.h)] := by rw [x4]; simp [encFoot, fewF]
      have y2 : (((pg l k).feet.take (j + 1)).map fewF).length = (((pg l k).feet.take j).map fewF).length + 1 := by rw [x4]; simp
      refine ⟨(j + 1, H1.length), by dsimp only; omega, .cons rfl (.cons rfl (.cons rfl (.cons rfl (.cons rfl (.cons rfl (.nil _)))))), by dsimp only; omega, by dsimp only; omega, ?_⟩
      dsimp only
      rw [y1, y2]
      exact hG.pick [1, 2, 3] (by decide) rfl
    · have hfull : (pg l k).feet.take j = (pg l k).feet.take 5 := by
        rcases Nat.lt_or_ge j (pg l k).feet.length with h | h
        · rw [show j = 5 from by omega]
        · rw [List.take_of_length_le h, List.take_of_length_le (by omega)]
      refine wpA_freezeC 0 9 hG rfl rfl c2 ?_
      intro G hG
      rw [hfull] at hG
      have c1 : (((l.take k).map fewP).flatMap encPiece).length = k * 12 := by
        rw [flat_len encPiece_len, List.length_map, List.length_take, Nat.min_eq_left (by omega)]
      have d1 : ((l.take (k + 1)).map fewP).flatMap encPiece = ((l.take k).map fewP).flatMap encPiece ++ encPiece (fewP (pg l k)) := by rw [take_succ_of hp]; simp
      by_cases hA : j < (pg l k).feet.length
      · have hB : ¬ j < 5 := fun h => hjl ⟨hA, h⟩
        repeat (first
          | refine wpL_end ?_
          | refine wpL_nil ?_
          | refine wpA_seq ?_
          | refine wpA_region ?_
          | refine wpA_block ?_
          | refine wpL_v rfl rfl (by decide) (OpV_index_tr rfl rfl rfl (by omega) (pcs_spot hp)) ?_
          | (refine wpL_appendH 2 hG rfl rfl (by decide) rfl rfl rfl rfl rfl rfl c1 rfl (hG.cellsOf (k := 0) rfl rfl) rfl (by omega) (by omega) ?_; intro o2 G hG)
          | refine wpL_v rfl rfl (by decide) (OpV_move rfl rfl) ?_
          | refine wpL_v rfl rfl (by decide) (OpV_assign rfl rfl) ?_
          | refine wpL_v rfl rfl (by decide) (OpV_cmp rfl rfl rfl rfl) ?_
          | refine wpL_v rfl rfl (by decide) (OpV_add rfl rfl rfl (by omega)) ?_
          | refine wpL_v rfl rfl (by decide) (OpV_sub rfl rfl rfl (by omega)) ?_
          | refine wpL_v rfl rfl (by decide) (OpV_len rfl rfl rfl) ?_
          | refine wpL_v rfl rfl (by decide) (OpV_nilCheck rfl rfl rfl) ?_
          | refine wpL_v rfl rfl (by decide) (OpV_fieldAddr rfl rfl rfl rfl) ?_
          | refine wpL_v rfl rfl (by decide) (OpV_load rfl rfl rfl) ?_
          | refine wpL_v rfl rfl (by decide) (OpV_not rfl rfl) ?_
          | refine wpL_v rfl rfl (by decide) (OpV_extract rfl rfl rfl) ?_
          | refine wpL_v rfl rfl (by decide) (OpV_pick_t rfl rfl (by first | rfl | exact decide_eq_true (by omega)) rfl) ?_
          | refine wpL_v rfl rfl (by decide) (OpV_pick_f rfl rfl (by first | rfl | exact decide_eq_false (by omega)) rfl) ?_
          | refine wpL_v rfl rfl (by decide) (OpV_build rfl rfl rfl rfl) ?_
          | refine wpL_v rfl rfl (by decide) (OpV_max rfl rfl rfl) ?_
          | refine wpL_v rfl rfl (by decide) (OpV_min rfl rfl rfl) ?_
          | refine wpL_v rfl rfl (by decide) (OpV_nilptr rfl rfl rfl) ?_
          | refine wpL_v rfl rfl (by decide) (OpV_beq rfl rfl rfl) ?_
          | refine wpL_v rfl rfl (by decide) (OpV_bne rfl rfl rfl) ?_
          | refine wpL_v rfl rfl (by decide) (OpV_makeFunc rfl rfl) ?_
          | refine wpL_loadH 0 hG rfl rfl (by decide) rfl rfl rfl rfl ?_
          | refine wpL_loadH 1 hG rfl rfl (by decide) rfl rfl rfl rfl ?_
          | refine wpL_loadH 2 hG rfl rfl (by decide) rfl rfl rfl rfl ?_
          | refine wpL_loadH 3 hG rfl rfl (by decide) rfl rfl rfl rfl ?_
          | refine wpL_loadH 4 hG rfl rfl (by decide) rfl rfl rfl rfl ?_
          | refine wpL_loadH 5 hG rfl rfl (by decide) rfl rfl rfl rfl ?_
          | (refine wpL_storeH 0 hG rfl rfl rfl rfl rfl rfl rfl rfl rfl rfl rfl ?_; intro G hG)
          | (refine wpL_storeH 1 hG rfl rfl rfl rfl rfl rfl rfl rfl rfl rfl rfl ?_; intro G hG)
          | (refine wpL_storeH 2 hG rfl rfl rfl rfl rfl rfl rfl rfl rfl rfl rfl ?_; intro G hG)
          | (refine wpL_storeH 3 hG rfl rfl rfl rfl rfl rfl rfl rfl rfl rfl rfl ?_; intro G hG)
          | (refine wpL_storeH 4 hG rfl rfl rfl rfl rfl rfl rfl rfl rfl rfl rfl ?_; intro G hG)
          | (refine wpL_storeH 5 hG rfl rfl rfl rfl rfl rfl rfl rfl rfl rfl rfl ?_; intro G hG)
          | (refine wpL_allocH hG rfl rfl (by decide) rfl rfl ?_; intro id G hG)
          | (refine wpL_boxH hG rfl rfl (by decide) rfl rfl rfl ?_; intro id G hG)
          | (refine wpL_sliceH hG rfl rfl (by decide) rfl rfl rfl rfl rfl rfl rfl rfl ?_; intro id G hG)
          | refine wpL_gt rfl rfl rfl rfl rfl (by decide) (by first | rfl | exact decide_eq_true (by omega) | exact decide_eq_false (by omega) | exact ndec_t (by omega) | exact ndec_f (by omega)) ?_
          | refine wpL_gf rfl rfl rfl rfl rfl (by decide) (by first | rfl | exact decide_eq_true (by omega) | exact decide_eq_false (by omega) | exact ndec_t (by omega) | exact ndec_f (by omega)) ?_
          | refine wpA_ct rfl (by first | rfl | exact decide_eq_true (by omega) | exact ndec_t (by omega)) ?_
          | refine wpA_cf rfl (by first | rfl | exact decide_eq_false (by omega) | exact ndec_f (by omega)) ?_
          | refine wpA_skip ?_
          | refine wpA_exit ?_
          | refine wpA_ret ?_
          | refine x_then_exit ?_
          | refine x_then_ret ?_
          | refine x_then_normal ?_
          | refine x_block_ret ?_
          | refine x_block_normal ?_
          | refine x_block_exit ?_
          | refine x_block_other rfl ?_
          | refine wpL_v rfl rfl (by decide) (OpV_pick_t rfl rfl (ndec_t (by omega)) rfl) ?_
          | refine wpL_v rfl rfl (by decide) (OpV_pick_f rfl rfl (ndec_f (by omega)) rfl) ?_)
        refine ⟨(k + 1, o2), by dsimp only; omega, .cons rfl (.cons rfl (.cons rfl (.cons rfl (.nil _)))), by dsimp only; omega, by dsimp only; omega, ?_⟩
        dsimp only
        rw [d1]
        exact hG.pick [2] (by decide) rfl
      · skip
        repeat (first
          | refine wpL_end ?_
          | refine wpL_nil ?_
          | refine wpA_seq ?_
          | refine wpA_region ?_
          | refine wpA_block ?_
          | refine wpL_v rfl rfl (by decide) (OpV_index_tr rfl rfl rfl (by omega) (pcs_spot hp)) ?_
          | (refine wpL_appendH 2 hG rfl rfl (by decide) rfl rfl rfl rfl rfl rfl c1 rfl (hG.cellsOf (k := 0) rfl rfl) rfl (by omega) (by omega) ?_; intro o2 G hG)
          | refine wpL_v rfl rfl (by decide) (OpV_move rfl rfl) ?_
          | refine wpL_v rfl rfl (by decide) (OpV_assign rfl rfl) ?_
          | refine wpL_v rfl rfl (by decide) (OpV_cmp rfl rfl rfl rfl) ?_
          | refine wpL_v rfl rfl (by decide) (OpV_add rfl rfl rfl (by omega)) ?_
          | refine wpL_v rfl rfl (by decide) (OpV_sub rfl rfl rfl (by omega)) ?_
          | refine wpL_v rfl rfl (by decide) (OpV_len rfl rfl rfl) ?_
          | refine wpL_v rfl rfl (by decide) (OpV_nilCheck rfl rfl rfl) ?_
          | refine wpL_v rfl rfl (by decide) (OpV_fieldAddr rfl rfl rfl rfl) ?_
          | refine wpL_v rfl rfl (by decide) (OpV_load rfl rfl rfl) ?_
          | refine wpL_v rfl rfl (by decide) (OpV_not rfl rfl) ?_
          | refine wpL_v rfl rfl (by decide) (OpV_extract rfl rfl rfl) ?_
          | refine wpL_v rfl rfl (by decide) (OpV_pick_t rfl rfl (by first | rfl | exact decide_eq_true (by omega)) rfl) ?_
          | refine wpL_v rfl rfl (by decide) (OpV_pick_f rfl rfl (by first | rfl | exact decide_eq_false (by omega)) rfl) ?_
          | refine wpL_v rfl rfl (by decide) (OpV_build rfl rfl rfl rfl) ?_
          | refine wpL_v rfl rfl (by decide) (OpV_max rfl rfl rfl) ?_
          | refine wpL_v rfl rfl (by decide) (OpV_min rfl rfl rfl) ?_
          | refine wpL_v rfl rfl (by decide) (OpV_nilptr rfl rfl rfl) ?_
          | refine wpL_v rfl rfl (by decide) (OpV_beq rfl rfl rfl) ?_
          | refine wpL_v rfl rfl (by decide) (OpV_bne rfl rfl rfl) ?_
          | refine wpL_v rfl rfl (by decide) (OpV_makeFunc rfl rfl) ?_
          | refine wpL_loadH 0 hG rfl rfl (by decide) rfl rfl rfl rfl ?_
          | refine wpL_loadH 1 hG rfl rfl (by decide) rfl rfl rfl rfl ?_
          | refine wpL_loadH 2 hG rfl rfl (by decide) rfl rfl rfl rfl ?_
          | refine wpL_loadH 3 hG rfl rfl (by decide) rfl rfl rfl rfl ?_
          | refine wpL_loadH 4 hG rfl rfl (by decide) rfl rfl rfl rfl ?_
          | refine wpL_loadH 5 hG rfl rfl (by decide) rfl rfl rfl rfl ?_
          | (refine wpL_storeH 0 hG rfl rfl rfl rfl rfl rfl rfl rfl rfl rfl rfl ?_; intro G hG)
          | (refine wpL_storeH 1 hG rfl rfl rfl rfl rfl rfl rfl rfl rfl rfl rfl ?_; intro G hG)
          | (refine wpL_storeH 2 hG rfl rfl rfl rfl rfl rfl rfl rfl rfl rfl rfl ?_; intro G hG)
          | (refine wpL_storeH 3 hG rfl rfl rfl rfl rfl rfl rfl rfl rfl rfl rfl ?_; intro G hG)
          | (refine wpL_storeH 4 hG rfl rfl rfl rfl rfl rfl rfl rfl rfl rfl rfl ?_; intro G hG)
          | (refine wpL_storeH 5 hG rfl rfl rfl rfl rfl rfl rfl rfl rfl rfl rfl ?_; intro G hG)
          | (refine wpL_allocH hG rfl rfl (by decide) rfl rfl ?_; intro id G hG)
          | (refine wpL_boxH hG rfl rfl (by decide) rfl rfl rfl ?_; intro id G hG)
          | (refine wpL_sliceH hG rfl rfl (by decide) rfl rfl rfl rfl rfl rfl rfl rfl ?_; intro id G hG)
          | refine wpL_gt rfl rfl rfl rfl rfl (by decide) (by first | rfl | exact decide_eq_true (by omega) | exact decide_eq_false (by omega) | exact ndec_t (by omega) | exact ndec_f (by omega)) ?_
          | refine wpL_gf rfl rfl rfl rfl rfl (by decide) (by first | rfl | exact decide_eq_true (by omega) | exact decide_eq_false (by omega) | exact ndec_t (by omega) | exact ndec_f (by omega)) ?_
          | refine wpA_ct rfl (by first | rfl | exact decide_eq_true (by omega) | exact ndec_t (by omega)) ?_
          | refine wpA_cf rfl (by first | rfl | exact decide_eq_false (by omega) | exact ndec_f (by omega)) ?_
          | refine wpA_skip ?_
          | refine wpA_exit ?_
          | refine wpA_ret ?_
          | refine x_then_exit ?_
          | refine x_then_ret ?_
          | refine x_then_normal ?_
          | refine x_block_ret ?_
          | refine x_block_normal ?_
          | refine x_block_exit ?_
          | refine x_block_other rfl ?_
          | refine wpL_v rfl rfl (by decide) (OpV_pick_t rfl rfl (ndec_t (by omega)) rfl) ?_
          | refine wpL_v rfl rfl (by decide) (OpV_pick_f rfl rfl (ndec_f (by omega)) rfl) ?_)
        refine ⟨(k + 1, o2), by dsimp only; omega, .cons rfl (.cons rfl (.cons rfl (.cons rfl (.nil _)))), by dsimp only; omega, by dsimp only; omega, ?_⟩
        dsimp only
        rw [d1]
        exact hG.pick [2] (by decide) rfl
  · have hfull : l.take k = l.take 40 := by
      rcases Nat.lt_or_ge k l.length with h | h
      · rw [show k = 40 from by omega]
      · rw [List.take_of_length_le h, List.take_of_length_le (by omega)]
    have c1 : (((l.take k).map fewP).flatMap encPiece).length = k * 12 := by
      rw [flat_len encPiece_len, List.length_map, List.length_take, Nat.min_eq_left (by omega)]
    have c2 : (fewL l).length = k := by
      have : ((l.take k).map fewP).length = k := by rw [List.length_map, List.length_take, Nat.min_eq_left (by omega)]
      rw [hfull] at this; exact this
    have e : pcs (fewL l) = .tr (((l.take k).map fewP).flatMap encPiece) k 12 := by rw [hfull]; rw [pcs, c2]; rfl
    rw [e]
    by_cases hA : k < l.length
    · have hB : ¬ k < 40 := fun h => hkl ⟨hA, h⟩
      repeat (first
        | refine wpL_end ?_
        | refine wpL_nil ?_
        | refine wpA_seq ?_
        | refine wpA_region ?_
        | refine wpA_block ?_
        | refine wpL_v rfl rfl (by decide) (OpV_move rfl rfl) ?_
        | refine wpL_v rfl rfl (by decide) (OpV_assign rfl rfl) ?_
        | refine wpL_v rfl rfl (by decide) (OpV_cmp rfl rfl rfl rfl) ?_
        | refine wpL_v rfl rfl (by decide) (OpV_add rfl rfl rfl (by omega)) ?_
        | refine wpL_v rfl rfl (by decide) (OpV_sub rfl rfl rfl (by omega)) ?_
        | refine wpL_v rfl rfl (by decide) (OpV_len rfl rfl rfl) ?_
        | refine wpL_v rfl rfl (by decide) (OpV_nilCheck rfl rfl rfl) ?_
        | refine wpL_v rfl rfl (by decide) (OpV_fieldAddr rfl rfl rfl rfl) ?_
        | refine wpL_v rfl rfl (by decide) (OpV_load rfl rfl rfl) ?_
        | refine wpL_v rfl rfl (by decide) (OpV_not rfl rfl) ?_
        | refine wpL_v rfl rfl (by decide) (OpV_extract rfl rfl rfl) ?_
        | refine wpL_v rfl rfl (by decide) (OpV_pick_t rfl rfl (by first | rfl | exact decide_eq_true (by omega)) rfl) ?_
        | refine wpL_v rfl rfl (by decide) (OpV_pick_f rfl rfl (by first | rfl | exact decide_eq_false (by omega)) rfl) ?_
        | refine wpL_v rfl rfl (by decide) (OpV_build rfl rfl rfl rfl) ?_
        | refine wpL_v rfl rfl (by decide) (OpV_max rfl rfl rfl) ?_
        | refine wpL_v rfl rfl (by decide) (OpV_min rfl rfl rfl) ?_
        | refine wpL_v rfl rfl (by decide) (OpV_nilptr rfl rfl rfl) ?_
        | refine wpL_v rfl rfl (by decide) (OpV_beq rfl rfl rfl) ?_
        | refine wpL_v rfl rfl (by decide) (OpV_bne rfl rfl rfl) ?_
        | refine wpL_v rfl rfl (by decide) (OpV_makeFunc rfl rfl) ?_
        | refine wpL_loadH 0 hG rfl rfl (by decide) rfl rfl rfl rfl ?_
        | refine wpL_loadH 1 hG rfl rfl (by decide) rfl rfl rfl rfl ?_
        | refine wpL_loadH 2 hG rfl rfl (by decide) rfl rfl rfl rfl ?_
        | refine wpL_loadH 3 hG rfl rfl (by decide) rfl rfl rfl rfl ?_
        | refine wpL_loadH 4 hG rfl rfl (by decide) rfl rfl rfl rfl ?_
        | refine wpL_loadH 5 hG rfl rfl (by decide) rfl rfl rfl rfl ?_
        | (refine wpL_storeH 0 hG rfl rfl rfl rfl rfl rfl rfl rfl rfl rfl rfl ?_; intro G hG)
        | (refine wpL_storeH 1 hG rfl rfl rfl rfl rfl rfl rfl rfl rfl rfl rfl ?_; intro G hG)
        | (refine wpL_storeH 2 hG rfl rfl rfl rfl rfl rfl rfl rfl rfl rfl rfl ?_; intro G hG)
        | (refine wpL_storeH 3 hG rfl rfl rfl rfl rfl rfl rfl rfl rfl rfl rfl ?_; intro G hG)
        | (refine wpL_storeH 4 hG rfl rfl rfl rfl rfl rfl rfl rfl rfl rfl rfl ?_; intro G hG)
        | (refine wpL_storeH 5 hG rfl rfl rfl rfl rfl rfl rfl rfl rfl rfl rfl ?_; intro G hG)
        | (refine wpL_allocH hG rfl rfl (by decide) rfl rfl ?_; intro id G hG)
        | (refine wpL_boxH hG rfl rfl (by decide) rfl rfl rfl ?_; intro id G hG)
        | (refine wpL_sliceH hG rfl rfl (by decide) rfl rfl rfl rfl rfl rfl rfl rfl ?_; intro id G hG)
        | refine wpL_gt rfl rfl rfl rfl rfl (by decide) (by first | rfl | exact decide_eq_true (by omega) | exact decide_eq_false (by omega) | exact ndec_t (by omega) | exact ndec_f (by omega)) ?_
        | refine wpL_gf rfl rfl rfl rfl rfl (by decide) (by first | rfl | exact decide_eq_true (by omega) | exact decide_eq_false (by omega) | exact ndec_t (by omega) | exact ndec_f (by omega)) ?_
        | refine wpA_ct rfl (by first | rfl | exact decide_eq_true (by omega) | exact ndec_t (by omega)) ?_
        | refine wpA_cf rfl (by first | rfl | exact decide_eq_false (by omega) | exact ndec_f (by omega)) ?_
        | refine wpA_skip ?_
        | refine wpA_exit ?_
        | refine wpA_ret ?_
        | refine x_then_exit ?_
        | refine x_then_ret ?_
        | refine x_then_normal ?_
        | refine x_block_ret ?_
        | refine x_block_normal ?_
        | refine x_block_exit ?_
        | refine x_block_other rfl ?_
        | refine wpL_v rfl rfl (by decide) (OpV_pick_t rfl rfl (ndec_t (by omega)) rfl) ?_
        | refine wpL_v rfl rfl (by decide) (OpV_pick_f rfl rfl (ndec_f (by omega)) rfl) ?_)
      exact postI_1 rfl rfl (.own hG (k := 0) rfl c1) (by rw [← e]; exact tree_pcs _) rfl
    · skip
      repeat (first
        | refine wpL_end ?_
        | refine wpL_nil ?_
        | refine wpA_seq ?_
        | refine wpA_region ?_
        | refine wpA_block ?_
        | refine wpL_v rfl rfl (by decide) (OpV_move rfl rfl) ?_
        | refine wpL_v rfl rfl (by decide) (OpV_assign rfl rfl) ?_
        | refine wpL_v rfl rfl (by decide) (OpV_cmp rfl rfl rfl rfl) ?_
        | refine wpL_v rfl rfl (by decide) (OpV_add rfl rfl rfl (by omega)) ?_
        | refine wpL_v rfl rfl (by decide) (OpV_sub rfl rfl rfl (by omega)) ?_
        | refine wpL_v rfl rfl (by decide) (OpV_len rfl rfl rfl) ?_
        | refine wpL_v rfl rfl (by decide) (OpV_nilCheck rfl rfl rfl) ?_
        | refine wpL_v rfl rfl (by decide) (OpV_fieldAddr rfl rfl rfl rfl) ?_
        | refine wpL_v rfl rfl (by decide) (OpV_load rfl rfl rfl) ?_
        | refine wpL_v rfl rfl (by decide) (OpV_not rfl rfl) ?_
        | refine wpL_v rfl rfl (by decide) (OpV_extract rfl rfl rfl) ?_
        | refine wpL_v rfl rfl (by decide) (OpV_pick_t rfl rfl (by first | rfl | exact decide_eq_true (by omega)) rfl) ?_
        | refine wpL_v rfl rfl (by decide) (OpV_pick_f rfl rfl (by first | rfl | exact decide_eq_false (by omega)) rfl) ?_
        | refine wpL_v rfl rfl (by decide) (OpV_build rfl rfl rfl rfl) ?_
        | refine wpL_v rfl rfl (by decide) (OpV_max rfl rfl rfl) ?_
        | refine wpL_v rfl rfl (by decide) (OpV_min rfl rfl rfl) ?_
        | refine wpL_v rfl rfl (by decide) (OpV_nilptr rfl rfl rfl) ?_
        | refine wpL_v rfl rfl (by decide) (OpV_beq rfl rfl rfl) ?_
        | refine wpL_v rfl rfl (by decide) (OpV_bne rfl rfl rfl) ?_
        | refine wpL_v rfl rfl (by decide) (OpV_makeFunc rfl rfl) ?_
        | refine wpL_loadH 0 hG rfl rfl (by decide) rfl rfl rfl rfl ?_
        | refine wpL_loadH 1 hG rfl rfl (by decide) rfl rfl rfl rfl ?_
        | refine wpL_loadH 2 hG rfl rfl (by decide) rfl rfl rfl rfl ?_
        | refine wpL_loadH 3 hG rfl rfl (by decide) rfl rfl rfl rfl ?_
        | refine wpL_loadH 4 hG rfl rfl (by decide) rfl rfl rfl rfl ?_
        | refine wpL_loadH 5 hG rfl rfl (by decide) rfl rfl rfl rfl ?_
        | (refine wpL_storeH 0 hG rfl rfl rfl rfl rfl rfl rfl rfl rfl rfl rfl ?_; intro G hG)
        | (refine wpL_storeH 1 hG rfl rfl rfl rfl rfl rfl rfl rfl rfl rfl rfl ?_; intro G hG)
        | (refine wpL_storeH 2 hG rfl rfl rfl rfl rfl rfl rfl rfl rfl rfl rfl ?_; intro G hG)
        | (refine wpL_storeH 3 hG rfl rfl rfl rfl rfl rfl rfl rfl rfl rfl rfl ?_; intro G hG)
        | (refine wpL_storeH 4 hG rfl rfl rfl rfl rfl rfl rfl rfl rfl rfl rfl ?_; intro G hG)
        | (refine wpL_storeH 5 hG rfl rfl rfl rfl rfl rfl rfl rfl rfl rfl rfl ?_; intro G hG)
        | (refine wpL_allocH hG rfl rfl (by decide) rfl rfl ?_; intro id G hG)
        | (refine wpL_boxH hG rfl rfl (by decide) rfl rfl rfl ?_; intro id G hG)
        | (refine wpL_sliceH hG rfl rfl (by decide) rfl rfl rfl rfl rfl rfl rfl rfl ?_; intro id G hG)
        | refine wpL_gt rfl rfl rfl rfl rfl (by decide) (by first | rfl | exact decide_eq_true (by omega) | exact decide_eq_false (by omega) | exact ndec_t (by omega) | exact ndec_f (by omega)) ?_
        | refine wpL_gf rfl rfl rfl rfl rfl (by decide) (by first | rfl | exact decide_eq_true (by omega) | exact decide_eq_false (by omega) | exact ndec_t (by omega) | exact ndec_f (by omega)) ?_
        | refine wpA_ct rfl (by first | rfl | exact decide_eq_true (by omega) | exact ndec_t (by omega)) ?_
        | refine wpA_cf rfl (by first | rfl | exact decide_eq_false (by omega) | exact ndec_f (by omega)) ?_
        | refine wpA_skip ?_
        | refine wpA_exit ?_
        | refine wpA_ret ?_
        | refine x_then_exit ?_
        | refine x_then_ret ?_
        | refine x_then_normal ?_
        | refine x_block_ret ?_
        | refine x_block_normal ?_
        | refine x_block_exit ?_
        | refine x_block_other rfl ?_
        | refine wpL_v rfl rfl (by decide) (OpV_pick_t rfl rfl (ndec_t (by omega)) rfl) ?_
        | refine wpL_v rfl rfl (by decide) (OpV_pick_f rfl rfl (ndec_f (by omega)) rfl) ?_)
      exact postI_1 rfl rfl (.own hG (k := 0) rfl c1) (by rw [← e]; exact tree_pcs _) rfl
end Go.Proofs.Ytpkeceifnmmhcaa
