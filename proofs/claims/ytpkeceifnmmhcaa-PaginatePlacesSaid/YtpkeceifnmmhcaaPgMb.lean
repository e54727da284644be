/- The walk of the model's place. -/
import Derived.Test.YtpkeceifnmmhcaaPgMa
namespace Go.Proofs.Ytpkeceifnmmhcaa
open Go.RowKit Go.Th
set_option linter.unusedVariables false
set_option maxRecDepth 20000

theorem loadC_one {d : TypeDesc} {size off : Nat} {cells : List PV} {c : PV} (hd : isAggD d = false) (h : takeN 1 (cells.drop off) = some [c]) : loadC d size cells off = some c := by
  simp only [loadC, hd, h]

set_option maxHeartbeats 16000000 in
theorem mplace_iso (l : List Piece) (a n : Nat) (width height : Int) (hl : allOk l) (h1 : 0 < n) (h2 : a + n ≤ l.length) (h4 : 1 ≤ height) (h5 : height ≤ 1099511627776) :
    Iso Try.prog 18 [pcs l, I a, I ((a + n : Nat) : Int), I width, I height] (fun p => p = .agg (encPage (placeF l a n width height))) := by
  have hlen := hl.1
  have ha : a < l.length := by omega
  have hG := has_nil
  have hr := repeat_iso (pg l a) height (ok_pg hl ha)
  refine Iso_enter Try.func18 rfl rfl rfl ?_
  repeat (first
    | refine wpL_end ?_
    | refine wpL_nil ?_
    | refine wpA_seq ?_
    | refine wpA_region ?_
    | refine wpA_block ?_
    | refine wpL_v rfl rfl (by decide) (OpV_index_tr rfl rfl rfl (by omega) (pcs_spot (pg_some ha))) ?_
    | (refine wpL_is rfl rfl rfl rfl rfl rfl (by decide) hr (TreeL.cons (Tree.agg (tree_encPiece _)) (TreeL.cons (tree_I _) TreeL.nil)) ?_; rintro _ rfl)
    | refine wpL_v rfl rfl (by decide) (OpV_move rfl rfl) ?_
    | refine wpL_v rfl rfl (by decide) (OpV_assign rfl rfl) ?_
    | refine wpL_v rfl rfl (by decide) (OpV_cmp rfl rfl rfl rfl) ?_
    | refine wpL_v rfl rfl (by decide) (OpV_add rfl rfl rfl (by omega)) ?_
    | refine wpL_v rfl rfl (by decide) (OpV_sub rfl rfl rfl (by omega)) ?_
    | refine wpL_v rfl rfl (by decide) (OpV_len rfl rfl rfl) ?_
    | refine wpL_v rfl rfl (by decide) (OpV_nilCheck rfl rfl rfl) ?_
    | refine wpL_v rfl rfl (by decide) (OpV_fieldAddr rfl rfl rfl rfl) ?_
    | refine wpL_v rfl rfl (by decide) (OpV_load rfl rfl rfl) ?_
    | refine wpL_v rfl rfl (by decide) (OpV_not rfl rfl) ?_
    | refine wpL_v rfl rfl (by decide) (OpV_extract rfl rfl rfl) ?_
    | refine wpL_v rfl rfl (by decide) (OpV_pick_t rfl rfl (by first | rfl | exact decide_eq_true (by omega)) rfl) ?_
    | refine wpL_v rfl rfl (by decide) (OpV_pick_f rfl rfl (by first | rfl | exact decide_eq_false (by omega)) rfl) ?_
    | refine wpL_v rfl rfl (by decide) (OpV_build rfl rfl rfl rfl) ?_
    | refine wpL_v rfl rfl (by decide) (OpV_max rfl rfl rfl) ?_
    | refine wpL_v rfl rfl (by decide) (OpV_min rfl rfl rfl) ?_
    | refine wpL_v rfl rfl (by decide) (OpV_nilptr rfl rfl rfl) ?_
    | refine wpL_v rfl rfl (by decide) (OpV_beq rfl rfl rfl) ?_
    | refine wpL_v rfl rfl (by decide) (OpV_bne rfl rfl rfl) ?_
    | refine wpL_v rfl rfl (by decide) (OpV_makeFunc rfl rfl) ?_
    | refine wpL_loadH 0 hG rfl rfl (by decide) rfl rfl rfl rfl ?_
    | refine wpL_loadH 1 hG rfl rfl (by decide) rfl rfl rfl rfl ?_
    | refine wpL_loadH 2 hG rfl rfl (by decide) rfl rfl rfl rfl ?_
    | refine wpL_loadH 3 hG rfl rfl (by decide) rfl rfl rfl rfl ?_
    | refine wpL_loadH 4 hG rfl rfl (by decide) rfl rfl rfl rfl ?_
    | refine wpL_loadH 5 hG rfl rfl (by decide) rfl rfl rfl rfl ?_
    | (refine wpL_storeH 0 hG rfl rfl rfl rfl rfl rfl rfl rfl rfl rfl rfl ?_; intro G hG)
    | (refine wpL_storeH 1 hG rfl rfl rfl rfl rfl rfl rfl rfl rfl rfl rfl ?_; intro G hG)
    | (refine wpL_storeH 2 hG rfl rfl rfl rfl rfl rfl rfl rfl rfl rfl rfl ?_; intro G hG)
    | (refine wpL_storeH 3 hG rfl rfl rfl rfl rfl rfl rfl rfl rfl rfl rfl ?_; intro G hG)
    | (refine wpL_storeH 4 hG rfl rfl rfl rfl rfl rfl rfl rfl rfl rfl rfl ?_; intro G hG)
    | (refine wpL_storeH 5 hG rfl rfl rfl rfl rfl rfl rfl rfl rfl rfl rfl ?_; intro G hG)
    | (refine wpL_allocH hG rfl rfl (by decide) rfl rfl ?_; intro id G hG)
    | (refine wpL_boxH hG rfl rfl (by decide) rfl rfl rfl ?_; intro id G hG)
    | (refine wpL_sliceH hG rfl rfl (by decide) rfl rfl rfl rfl rfl rfl rfl rfl ?_; intro id G hG)
    | refine wpL_gt rfl rfl rfl rfl rfl (by decide) (by first | rfl | exact decide_eq_true (by omega) | exact decide_eq_false (by omega) | exact ndec_t (by omega) | exact ndec_f (by omega)) ?_
    | refine wpL_gf rfl rfl rfl rfl rfl (by decide) (by first | rfl | exact decide_eq_true (by omega) | exact decide_eq_false (by omega) | exact ndec_t (by omega) | exact ndec_f (by omega)) ?_
    | refine wpA_ct rfl (by first | rfl | exact decide_eq_true (by omega) | exact ndec_t (by omega)) ?_
    | refine wpA_cf rfl (by first | rfl | exact decide_eq_false (by omega) | exact ndec_f (by omega)) ?_
    | refine wpA_skip ?_
    | refine wpA_exit ?_
    | refine wpA_ret ?_
    | refine x_then_exit ?_
    | refine x_then_ret ?_
    | refine x_then_normal ?_
    | refine x_block_ret ?_
    | refine x_block_normal ?_
    | refine x_block_exit ?_
    | refine x_block_other rfl ?_
    | refine wpL_v rfl rfl (by decide) (OpV_pick_t rfl rfl (ndec_t (by omega)) rfl) ?_
    | refine wpL_v rfl rfl (by decide) (OpV_pick_f rfl rfl (ndec_f (by omega)) rfl) ?_)
  clear hr
  refine wpA_ghostC 0 5 40 6 hG rfl rfl ?_
  intro s0 G hG
  refine wpA_ghostC 1 6 40 6 hG rfl rfl ?_
  intro u0 G hG
  refine wpA_cut2 (S := Nat × Nat × Nat × Nat) (fun x => [(0, pcs l), (1, I a), (2, I ((a + n : Nat) : Int)), (4, I height), (10, .ptr x.1 0), (11, .ptr x.2.1 0), (12, I (yB l a height 0))])
    (fun x G => Has G [(x.1, ⟨zeroC, 31, true⟩), (x.2.1, ⟨pageC width height x.2.2.1 (slotsN l a height 0).length x.2.2.2 0 0 0, 31, true⟩), (x.2.2.1, ⟨(slotsN l a height 0).flatMap encSlot, 40, true⟩), (x.2.2.2, ⟨[], 40, true⟩)]) ?_ ?_
  · by_cases hr : 0 < repOf (pg l a) height
    · have e : slotsN l a height 0 = [⟨(pg l a).flow, (pg l a).block, 0, 0, repOf (pg l a) height, true⟩] := by simp [slotsN, hr]
      rw [e]
      repeat (first
        | refine wpL_end ?_
        | refine wpL_nil ?_
        | refine wpA_seq ?_
        | refine wpA_region ?_
        | refine wpA_block ?_
        | refine wpL_v rfl rfl (by decide) (OpV_move rfl rfl) ?_
        | refine wpL_v rfl rfl (by decide) (OpV_assign rfl rfl) ?_
        | refine wpL_v rfl rfl (by decide) (OpV_cmp rfl rfl rfl rfl) ?_
        | refine wpL_v rfl rfl (by decide) (OpV_add rfl rfl rfl (by omega)) ?_
        | refine wpL_v rfl rfl (by decide) (OpV_sub rfl rfl rfl (by omega)) ?_
        | refine wpL_v rfl rfl (by decide) (OpV_len rfl rfl rfl) ?_
        | refine wpL_v rfl rfl (by decide) (OpV_nilCheck rfl rfl rfl) ?_
        | refine wpL_v rfl rfl (by decide) (OpV_fieldAddr rfl rfl rfl rfl) ?_
        | refine wpL_v rfl rfl (by decide) (OpV_load rfl rfl rfl) ?_
        | refine wpL_v rfl rfl (by decide) (OpV_not rfl rfl) ?_
        | refine wpL_v rfl rfl (by decide) (OpV_extract rfl rfl rfl) ?_
        | refine wpL_v rfl rfl (by decide) (OpV_pick_t rfl rfl (by first | rfl | exact decide_eq_true (by omega)) rfl) ?_
        | refine wpL_v rfl rfl (by decide) (OpV_pick_f rfl rfl (by first | rfl | exact decide_eq_false (by omega)) rfl) ?_
        | refine wpL_v rfl rfl (by decide) (OpV_build rfl rfl rfl rfl) ?_
        | refine wpL_v rfl rfl (by decide) (OpV_max rfl rfl rfl) ?_
        | refine wpL_v rfl rfl (by decide) (OpV_min rfl rfl rfl) ?_
        | refine wpL_v rfl rfl (by decide) (OpV_nilptr rfl rfl rfl) ?_
        | refine wpL_v rfl rfl (by decide) (OpV_beq rfl rfl rfl) ?_
        | refine wpL_v rfl rfl (by decide) (OpV_bne rfl rfl rfl) ?_
        | refine wpL_v rfl rfl (by decide) (OpV_makeFunc rfl rfl) ?_
        | refine wpL_loadH 0 hG rfl rfl (by decide) rfl rfl rfl rfl ?_
        | refine wpL_loadH 1 hG rfl rfl (by decide) rfl rfl rfl rfl ?_
        | refine wpL_loadH 2 hG rfl rfl (by decide) rfl rfl rfl rfl ?_
        | refine wpL_loadH 3 hG rfl rfl (by decide) rfl rfl rfl rfl ?_
        | refine wpL_loadH 4 hG rfl rfl (by decide) rfl rfl rfl rfl ?_
        | refine wpL_loadH 5 hG rfl rfl (by decide) rfl rfl rfl rfl ?_
        | (refine wpL_storeH 0 hG rfl rfl rfl rfl rfl rfl rfl rfl rfl rfl rfl ?_; intro G hG)
        | (refine wpL_storeH 1 hG rfl rfl rfl rfl rfl rfl rfl rfl rfl rfl rfl ?_; intro G hG)
        | (refine wpL_storeH 2 hG rfl rfl rfl rfl rfl rfl rfl rfl rfl rfl rfl ?_; intro G hG)
        | (refine wpL_storeH 3 hG rfl rfl rfl rfl rfl rfl rfl rfl rfl rfl rfl ?_; intro G hG)
        | (refine wpL_storeH 4 hG rfl rfl rfl rfl rfl rfl rfl rfl rfl rfl rfl ?_; intro G hG)
        | (refine wpL_storeH 5 hG rfl rfl rfl rfl rfl rfl rfl rfl rfl rfl rfl ?_; intro G hG)
        | (refine wpL_allocH hG rfl rfl (by decide) rfl rfl ?_; intro id G hG)
        | (refine wpL_boxH hG rfl rfl (by decide) rfl rfl rfl ?_; intro id G hG)
        | (refine wpL_sliceH hG rfl rfl (by decide) rfl rfl rfl rfl rfl rfl rfl rfl ?_; intro id G hG)
        | refine wpL_gt rfl rfl rfl rfl rfl (by decide) (by first | rfl | exact decide_eq_true (by omega) | exact decide_eq_false (by omega) | exact ndec_t (by omega) | exact ndec_f (by omega)) ?_
        | refine wpL_gf rfl rfl rfl rfl rfl (by decide) (by first | rfl | exact decide_eq_true (by omega) | exact decide_eq_false (by omega) | exact ndec_t (by omega) | exact ndec_f (by omega)) ?_
        | refine wpA_ct rfl (by first | rfl | exact decide_eq_true (by omega) | exact ndec_t (by omega)) ?_
        | refine wpA_cf rfl (by first | rfl | exact decide_eq_false (by omega) | exact ndec_f (by omega)) ?_
        | refine wpA_skip ?_
        | refine wpA_exit ?_
        | refine wpA_ret ?_
        | refine x_then_exit ?_
        | refine x_then_ret ?_
        | refine x_then_normal ?_
        | refine x_block_ret ?_
        | refine x_block_normal ?_
        | refine x_block_exit ?_
        | refine x_block_other rfl ?_
        | refine wpL_v rfl rfl (by decide) (OpV_pick_t rfl rfl (ndec_t (by omega)) rfl) ?_
        | refine wpL_v rfl rfl (by decide) (OpV_pick_f rfl rfl (ndec_f (by omega)) rfl) ?_)
      obtain ⟨H1, e1⟩ : ∃ X, X = G ++ [some (Blk.mk (encSlot ⟨(pg l a).flow, (pg l a).block, 0, 0, repOf (pg l a) height, true⟩) 40 true)] := ⟨_, rfl⟩
      have hG1 := hG.new (Blk.mk (encSlot ⟨(pg l a).flow, (pg l a).block, 0, 0, repOf (pg l a) height, true⟩) 40 true)
      rw [← e1] at hG1
      obtain ⟨H2, e2⟩ : ∃ X, X = H1.set s0 none ++ [some (Blk.mk ([] ++ encSlot ⟨(pg l a).flow, (pg l a).block, 0, 0, repOf (pg l a) height, true⟩) 40 true)] := ⟨_, rfl⟩
      have hG2 := hG1.grow (k := 2) rfl (Blk.mk ([] ++ encSlot ⟨(pg l a).flow, (pg l a).block, 0, 0, repOf (pg l a) height, true⟩) 40 true)
      rw [← e2] at hG2
      obtain ⟨H3, e3⟩ : ∃ X, X = H2.set id (some (Blk.mk (pageC width height H1.length 1 u0 0 0 0) 31 true)) := ⟨_, rfl⟩
      have hG3 := hG2.set (k := 3) rfl (Blk.mk (pageC width height H1.length 1 u0 0 0 0) 31 true)
      rw [← e3] at hG3
      refine wpA_yL [H1, H2, H3] H3 mixed (by decide +kernel) (N := 3) (by decide +kernel) rfl ?_
      repeat (first
        | refine Y_v rfl rfl rfl (by decide) (fun _ => OpV_index_tr rfl rfl rfl (by omega) (pcs_spot (pg_some ha))) ?_
        | refine Y_r2 0 (by decide +kernel) (by decide +kernel) rfl rfl rfl rfl rfl (by decide) (OpV_load_at rfl rfl (hG.get 2 _ _ rfl) rfl) (OpV_load_at rfl rfl (hG1.get 3 _ _ rfl) rfl) ?_
        | refine Y_w 0 (by decide +kernel) rfl rfl rfl rfl (by decide) (OpW_buildSlice rfl rfl rfl rfl rfl rfl rfl rfl) e1 ?_
        | refine Y_w 1 (by decide +kernel) rfl rfl rfl rfl (by decide) (OpW_append rfl rfl rfl rfl (hG1.cellsOf (k := 0) rfl rfl) rfl (appendA_at (hG1.get 2 _ _ rfl) rfl rfl rfl) (by omega) (by omega)) e2 ?_
        | refine Y_s 2 (by decide +kernel) rfl rfl rfl rfl (OpS_store_at rfl rfl rfl (hG2.get 3 _ _ rfl) rfl rfl rfl rfl rfl) e3 ?_
        | refine Y_v rfl rfl rfl (by decide) (fun _ => OpV_cmp rfl rfl rfl (congrArg some (decide_eq_true (by omega)))) ?_
        | refine Y_v rfl rfl rfl (by decide) (fun _ => OpV_cmp rfl rfl rfl (congrArg some (decide_eq_false (by omega)))) ?_
        | refine Y_v rfl rfl rfl (by decide) (fun _ => OpV_cmp rfl rfl rfl (congrArg some (ndec_t (by omega)))) ?_
        | refine Y_v rfl rfl rfl (by decide) (fun _ => OpV_cmp rfl rfl rfl (congrArg some (ndec_f (by omega)))) ?_
        | refine Y_v rfl rfl rfl (by decide) (fun _ => OpV_move rfl rfl) ?_
        | refine Y_v rfl rfl rfl (by decide) (fun _ => OpV_assign rfl rfl) ?_
        | refine Y_v rfl rfl rfl (by decide) (fun _ => OpV_cmp rfl rfl rfl rfl) ?_
        | refine Y_v rfl rfl rfl (by decide) (fun _ => OpV_add rfl rfl rfl (by omega)) ?_
        | refine Y_v rfl rfl rfl (by decide) (fun _ => OpV_sub rfl rfl rfl (by omega)) ?_
        | refine Y_v rfl rfl rfl (by decide) (fun _ => OpV_len rfl rfl rfl) ?_
        | refine Y_v rfl rfl rfl (by decide) (fun _ => OpV_nilCheck rfl rfl rfl) ?_
        | refine Y_v rfl rfl rfl (by decide) (fun _ => OpV_fieldAddr rfl rfl rfl rfl) ?_
        | refine Y_v rfl rfl rfl (by decide) (fun _ => OpV_load rfl rfl rfl) ?_
        | refine Y_v rfl rfl rfl (by decide) (fun _ => OpV_not rfl rfl) ?_
        | refine Y_v rfl rfl rfl (by decide) (fun _ => OpV_extract rfl rfl rfl) ?_
        | refine Y_v rfl rfl rfl (by decide) (fun _ => OpV_build rfl rfl rfl rfl) ?_
        | refine Y_v rfl rfl rfl (by decide) (fun _ => OpV_max rfl rfl rfl) ?_
        | refine Y_v rfl rfl rfl (by decide) (fun _ => OpV_min rfl rfl rfl) ?_
        | refine Y_v rfl rfl rfl (by decide) (fun _ => OpV_beq rfl rfl rfl) ?_
        | refine Y_v rfl rfl rfl (by decide) (fun _ => OpV_bne rfl rfl rfl) ?_
        | refine Y_v rfl rfl rfl (by decide) (fun _ => OpV_pick_t rfl rfl (by first | rfl | exact decide_eq_true (by omega) | exact ndec_t (by omega)) rfl) ?_
        | refine Y_v rfl rfl rfl (by decide) (fun _ => OpV_pick_f rfl rfl (by first | rfl | exact decide_eq_false (by omega) | exact ndec_f (by omega)) rfl) ?_
        | refine Y_gv (fun _ => OpV_cmp rfl rfl rfl (congrArg some (decide_eq_true (by omega)))) rfl (by decide) rfl rfl rfl rfl (by decide) ?_
        | refine Y_gv (fun _ => OpV_cmp rfl rfl rfl (congrArg some (decide_eq_false (by omega)))) rfl (by decide) rfl rfl rfl rfl (by decide) ?_
        | refine Y_gv (fun _ => OpV_cmp rfl rfl rfl (congrArg some (ndec_t (by omega)))) rfl (by decide) rfl rfl rfl rfl (by decide) ?_
        | refine Y_gv (fun _ => OpV_cmp rfl rfl rfl (congrArg some (ndec_f (by omega)))) rfl (by decide) rfl rfl rfl rfl (by decide) ?_
        | refine Y_gv (fun _ => OpV_move rfl rfl) rfl (by decide) rfl rfl rfl rfl (by decide) ?_
        | refine Y_gv (fun _ => OpV_assign rfl rfl) rfl (by decide) rfl rfl rfl rfl (by decide) ?_
        | refine Y_gv (fun _ => OpV_cmp rfl rfl rfl rfl) rfl (by decide) rfl rfl rfl rfl (by decide) ?_
        | refine Y_gv (fun _ => OpV_add rfl rfl rfl (by omega)) rfl (by decide) rfl rfl rfl rfl (by decide) ?_
        | refine Y_gv (fun _ => OpV_sub rfl rfl rfl (by omega)) rfl (by decide) rfl rfl rfl rfl (by decide) ?_
        | refine Y_gv (fun _ => OpV_len rfl rfl rfl) rfl (by decide) rfl rfl rfl rfl (by decide) ?_
        | refine Y_gv (fun _ => OpV_nilCheck rfl rfl rfl) rfl (by decide) rfl rfl rfl rfl (by decide) ?_
        | refine Y_gv (fun _ => OpV_fieldAddr rfl rfl rfl rfl) rfl (by decide) rfl rfl rfl rfl (by decide) ?_
        | refine Y_gv (fun _ => OpV_load rfl rfl rfl) rfl (by decide) rfl rfl rfl rfl (by decide) ?_
        | refine Y_gv (fun _ => OpV_not rfl rfl) rfl (by decide) rfl rfl rfl rfl (by decide) ?_
        | refine Y_gv (fun _ => OpV_extract rfl rfl rfl) rfl (by decide) rfl rfl rfl rfl (by decide) ?_
        | refine Y_gv (fun _ => OpV_build rfl rfl rfl rfl) rfl (by decide) rfl rfl rfl rfl (by decide) ?_
        | refine Y_gv (fun _ => OpV_max rfl rfl rfl) rfl (by decide) rfl rfl rfl rfl (by decide) ?_
        | refine Y_gv (fun _ => OpV_min rfl rfl rfl) rfl (by decide) rfl rfl rfl rfl (by decide) ?_
        | refine Y_gv (fun _ => OpV_beq rfl rfl rfl) rfl (by decide) rfl rfl rfl rfl (by decide) ?_
        | refine Y_gv (fun _ => OpV_bne rfl rfl rfl) rfl (by decide) rfl rfl rfl rfl (by decide) ?_
        | refine Y_gv (fun _ => OpV_pick_t rfl rfl (by first | rfl | exact decide_eq_true (by omega) | exact ndec_t (by omega)) rfl) rfl (by decide) rfl rfl rfl rfl (by decide) ?_
        | refine Y_gv (fun _ => OpV_pick_f rfl rfl (by first | rfl | exact decide_eq_false (by omega) | exact ndec_f (by omega)) rfl) rfl (by decide) rfl rfl rfl rfl (by decide) ?_
        | refine Y_gn rfl (by decide) rfl rfl rfl rfl rfl (by decide) ?_
        | refine Y_end ?_)
      exact ⟨(_, _, _, _), .cons rfl (.cons rfl (.cons rfl (.cons rfl (.cons rfl (.cons rfl (.cons rfl (.nil _))))))), hG3.pick [4, 3, 2, 1] (by decide) rfl⟩
    · have e : slotsN l a height 0 = [] := by simp [slotsN, hr]
      rw [e]
      repeat (first
        | refine wpL_end ?_
        | refine wpL_nil ?_
        | refine wpA_seq ?_
        | refine wpA_region ?_
        | refine wpA_block ?_
        | refine wpL_v rfl rfl (by decide) (OpV_move rfl rfl) ?_
        | refine wpL_v rfl rfl (by decide) (OpV_assign rfl rfl) ?_
        | refine wpL_v rfl rfl (by decide) (OpV_cmp rfl rfl rfl rfl) ?_
        | refine wpL_v rfl rfl (by decide) (OpV_add rfl rfl rfl (by omega)) ?_
        | refine wpL_v rfl rfl (by decide) (OpV_sub rfl rfl rfl (by omega)) ?_
        | refine wpL_v rfl rfl (by decide) (OpV_len rfl rfl rfl) ?_
        | refine wpL_v rfl rfl (by decide) (OpV_nilCheck rfl rfl rfl) ?_
        | refine wpL_v rfl rfl (by decide) (OpV_fieldAddr rfl rfl rfl rfl) ?_
        | refine wpL_v rfl rfl (by decide) (OpV_load rfl rfl rfl) ?_
        | refine wpL_v rfl rfl (by decide) (OpV_not rfl rfl) ?_
        | refine wpL_v rfl rfl (by decide) (OpV_extract rfl rfl rfl) ?_
        | refine wpL_v rfl rfl (by decide) (OpV_pick_t rfl rfl (by first | rfl | exact decide_eq_true (by omega)) rfl) ?_
        | refine wpL_v rfl rfl (by decide) (OpV_pick_f rfl rfl (by first | rfl | exact decide_eq_false (by omega)) rfl) ?_
        | refine wpL_v rfl rfl (by decide) (OpV_build rfl rfl rfl rfl) ?_
        | refine wpL_v rfl rfl (by decide) (OpV_max rfl rfl rfl) ?_
        | refine wpL_v rfl rfl (by decide) (OpV_min rfl rfl rfl) ?_
        | refine wpL_v rfl rfl (by decide) (OpV_nilptr rfl rfl rfl) ?_
        | refine wpL_v rfl rfl (by decide) (OpV_beq rfl rfl rfl) ?_
        | refine wpL_v rfl rfl (by decide) (OpV_bne rfl rfl rfl) ?_
        | refine wpL_v rfl rfl (by decide) (OpV_makeFunc rfl rfl) ?_
        | refine wpL_loadH 0 hG rfl rfl (by decide) rfl rfl rfl rfl ?_
        | refine wpL_loadH 1 hG rfl rfl (by decide) rfl rfl rfl rfl ?_
        | refine wpL_loadH 2 hG rfl rfl (by decide) rfl rfl rfl rfl ?_
        | refine wpL_loadH 3 hG rfl rfl (by decide) rfl rfl rfl rfl ?_
        | refine wpL_loadH 4 hG rfl rfl (by decide) rfl rfl rfl rfl ?_
        | refine wpL_loadH 5 hG rfl rfl (by decide) rfl rfl rfl rfl ?_
        | (refine wpL_storeH 0 hG rfl rfl rfl rfl rfl rfl rfl rfl rfl rfl rfl ?_; intro G hG)
        | (refine wpL_storeH 1 hG rfl rfl rfl rfl rfl rfl rfl rfl rfl rfl rfl ?_; intro G hG)
        | (refine wpL_storeH 2 hG rfl rfl rfl rfl rfl rfl rfl rfl rfl rfl rfl ?_; intro G hG)
        | (refine wpL_storeH 3 hG rfl rfl rfl rfl rfl rfl rfl rfl rfl rfl rfl ?_; intro G hG)
        | (refine wpL_storeH 4 hG rfl rfl rfl rfl rfl rfl rfl rfl rfl rfl rfl ?_; intro G hG)
        | (refine wpL_storeH 5 hG rfl rfl rfl rfl rfl rfl rfl rfl rfl rfl rfl ?_; intro G hG)
        | (refine wpL_allocH hG rfl rfl (by decide) rfl rfl ?_; intro id G hG)
        | (refine wpL_boxH hG rfl rfl (by decide) rfl rfl rfl ?_; intro id G hG)
        | (refine wpL_sliceH hG rfl rfl (by decide) rfl rfl rfl rfl rfl rfl rfl rfl ?_; intro id G hG)
        | refine wpL_gt rfl rfl rfl rfl rfl (by decide) (by first | rfl | exact decide_eq_true (by omega) | exact decide_eq_false (by omega) | exact ndec_t (by omega) | exact ndec_f (by omega)) ?_
        | refine wpL_gf rfl rfl rfl rfl rfl (by decide) (by first | rfl | exact decide_eq_true (by omega) | exact decide_eq_false (by omega) | exact ndec_t (by omega) | exact ndec_f (by omega)) ?_
        | refine wpA_ct rfl (by first | rfl | exact decide_eq_true (by omega) | exact ndec_t (by omega)) ?_
        | refine wpA_cf rfl (by first | rfl | exact decide_eq_false (by omega) | exact ndec_f (by omega)) ?_
        | refine wpA_skip ?_
        | refine wpA_exit ?_
        | refine wpA_ret ?_
        | refine x_then_exit ?_
        | refine x_then_ret ?_
        | refine x_then_normal ?_
        | refine x_block_ret ?_
        | refine x_block_normal ?_
        | refine x_block_exit ?_
        | refine x_block_other rfl ?_
        | refine wpL_v rfl rfl (by decide) (OpV_pick_t rfl rfl (ndec_t (by omega)) rfl) ?_
        | refine wpL_v rfl rfl (by decide) (OpV_pick_f rfl rfl (ndec_f (by omega)) rfl) ?_)
      exact ⟨(_, _, _, _), .cons rfl (.cons rfl (.cons rfl (.cons rfl (.cons rfl (.cons rfl (.cons rfl (.nil _))))))), hG.pick [3, 2, 1, 0] (by decide) rfl⟩
  rintro ⟨r, p, s, u⟩ G hG
  simp only at hG
  repeat (first
    | refine wpL_end ?_
    | refine wpL_nil ?_
    | refine wpA_seq ?_
    | refine wpA_region ?_
    | refine wpA_block ?_
    | refine wpL_v rfl rfl (by decide) (OpV_move rfl rfl) ?_
    | refine wpL_v rfl rfl (by decide) (OpV_assign rfl rfl) ?_
    | refine wpL_v rfl rfl (by decide) (OpV_cmp rfl rfl rfl rfl) ?_
    | refine wpL_v rfl rfl (by decide) (OpV_add rfl rfl rfl (by omega)) ?_
    | refine wpL_v rfl rfl (by decide) (OpV_sub rfl rfl rfl (by omega)) ?_
    | refine wpL_v rfl rfl (by decide) (OpV_len rfl rfl rfl) ?_
    | refine wpL_v rfl rfl (by decide) (OpV_nilCheck rfl rfl rfl) ?_
    | refine wpL_v rfl rfl (by decide) (OpV_fieldAddr rfl rfl rfl rfl) ?_
    | refine wpL_v rfl rfl (by decide) (OpV_load rfl rfl rfl) ?_
    | refine wpL_v rfl rfl (by decide) (OpV_not rfl rfl) ?_
    | refine wpL_v rfl rfl (by decide) (OpV_extract rfl rfl rfl) ?_
    | refine wpL_v rfl rfl (by decide) (OpV_pick_t rfl rfl (by first | rfl | exact decide_eq_true (by omega)) rfl) ?_
    | refine wpL_v rfl rfl (by decide) (OpV_pick_f rfl rfl (by first | rfl | exact decide_eq_false (by omega)) rfl) ?_
    | refine wpL_v rfl rfl (by decide) (OpV_build rfl rfl rfl rfl) ?_
    | refine wpL_v rfl rfl (by decide) (OpV_max rfl rfl rfl) ?_
    | refine wpL_v rfl rfl (by decide) (OpV_min rfl rfl rfl) ?_
    | refine wpL_v rfl rfl (by decide) (OpV_nilptr rfl rfl rfl) ?_
    | refine wpL_v rfl rfl (by decide) (OpV_beq rfl rfl rfl) ?_
    | refine wpL_v rfl rfl (by decide) (OpV_bne rfl rfl rfl) ?_
    | refine wpL_v rfl rfl (by decide) (OpV_makeFunc rfl rfl) ?_
    | refine wpL_loadH 0 hG rfl rfl (by decide) rfl rfl rfl rfl ?_
    | refine wpL_loadH 1 hG rfl rfl (by decide) rfl rfl rfl rfl ?_
    | refine wpL_loadH 2 hG rfl rfl (by decide) rfl rfl rfl rfl ?_
    | refine wpL_loadH 3 hG rfl rfl (by decide) rfl rfl rfl rfl ?_
    | refine wpL_loadH 4 hG rfl rfl (by decide) rfl rfl rfl rfl ?_
    | refine wpL_loadH 5 hG rfl rfl (by decide) rfl rfl rfl rfl ?_
    | (refine wpL_storeH 0 hG rfl rfl rfl rfl rfl rfl rfl rfl rfl rfl rfl ?_; intro G hG)
    | (refine wpL_storeH 1 hG rfl rfl rfl rfl rfl rfl rfl rfl rfl rfl rfl ?_; intro G hG)
    | (refine wpL_storeH 2 hG rfl rfl rfl rfl rfl rfl rfl rfl rfl rfl rfl ?_; intro G hG)
    | (refine wpL_storeH 3 hG rfl rfl rfl rfl rfl rfl rfl rfl rfl rfl rfl ?_; intro G hG)
    | (refine wpL_storeH 4 hG rfl rfl rfl rfl rfl rfl rfl rfl rfl rfl rfl ?_; intro G hG)
    | (refine wpL_storeH 5 hG rfl rfl rfl rfl rfl rfl rfl rfl rfl rfl rfl ?_; intro G hG)
    | (refine wpL_allocH hG rfl rfl (by decide) rfl rfl ?_; intro id G hG)
    | (refine wpL_boxH hG rfl rfl (by decide) rfl rfl rfl ?_; intro id G hG)
    | (refine wpL_sliceH hG rfl rfl (by decide) rfl rfl rfl rfl rfl rfl rfl rfl ?_; intro id G hG)
    | refine wpL_gt rfl rfl rfl rfl rfl (by decide) (by first | rfl | exact decide_eq_true (by omega) | exact decide_eq_false (by omega) | exact ndec_t (by omega) | exact ndec_f (by omega)) ?_
    | refine wpL_gf rfl rfl rfl rfl rfl (by decide) (by first | rfl | exact decide_eq_true (by omega) | exact decide_eq_false (by omega) | exact ndec_t (by omega) | exact ndec_f (by omega)) ?_
    | refine wpA_ct rfl (by first | rfl | exact decide_eq_true (by omega) | exact ndec_t (by omega)) ?_
    | refine wpA_cf rfl (by first | rfl | exact decide_eq_false (by omega) | exact ndec_f (by omega)) ?_
    | refine wpA_skip ?_
    | refine wpA_exit ?_
    | refine wpA_ret ?_
    | refine x_then_exit ?_
    | refine x_then_ret ?_
    | refine x_then_normal ?_
    | refine x_block_ret ?_
    | refine x_block_normal ?_
    | refine x_block_exit ?_
    | refine x_block_other rfl ?_
    | refine wpL_v rfl rfl (by decide) (OpV_pick_t rfl rfl (ndec_t (by omega)) rfl) ?_
    | refine wpL_v rfl rfl (by decide) (OpV_pick_f rfl rfl (ndec_f (by omega)) rfl) ?_)
  refine wpA_loopS (S := Nat × Nat × Nat) (fun x => [(0, pcs l), (1, I a), (2, I ((a + n : Nat) : Int)), (4, I height), (10, .ptr r 0), (11, .ptr p 0), (12, I (yB l a height x.1)), (13, I (sumFeet (feetN l a x.1))), (14, I ((a + x.1 : Nat) : Int))])
    (fun x G => x.1 ≤ n ∧ Has G [(r, ⟨zeroC, 31, true⟩), (p, ⟨pageC width height x.2.1 (slotsN l a height x.1).length x.2.2 (feetN l a x.1).length 0 0, 31, true⟩), (x.2.1, ⟨(slotsN l a height x.1).flatMap encSlot, 40, true⟩), (x.2.2, ⟨(rawS (feetN l a x.1)).flatMap encSlot, 40, true⟩)])
    (fun x => n - x.1) (0, s, u) (.cons rfl (.cons rfl (.cons rfl (.cons rfl (.cons rfl (.cons rfl (.cons rfl (.cons rfl (.cons rfl (.nil _)))))))))) ⟨by omega, hG⟩ ?_
  rintro ⟨k, s1, u1⟩ G ⟨hk, hG⟩
  dsimp only at hG hk ⊢
  have n1 := slotsN_len l a height k
  have n2 := feetN_len hl a k (by omega)
  have n4 := feetN_ok hl a k (by omega)
  have n5 := sumFeet_le _ n4
  have y2 := yB_le hl a height k (by omega) ha
  by_cases hkn : k < n
  · have hp : a + k < l.length := by omega
    have hpp : takeN 12 ((l.flatMap encPiece).drop ((((a + k : Nat) : Int)).toNat * 12)) = some (encPiece (pg l (a + k))) := pcs_spot (pg_some hp)
    have hpk := ok_pg hl hp
    have y1 := yA_le hl a height k (by omega)
    have y3 := hpk.height
    have y4 := hpk.before
    have n3 := hpk.feet
    simp only [small] at y3 y4
    repeat (first
      | refine wpL_end ?_
      | refine wpL_nil ?_
      | refine wpA_seq ?_
      | refine wpA_region ?_
      | refine wpA_block ?_
      | refine wpL_v rfl rfl (by decide) (OpV_move rfl rfl) ?_
      | refine wpL_v rfl rfl (by decide) (OpV_assign rfl rfl) ?_
      | refine wpL_v rfl rfl (by decide) (OpV_cmp rfl rfl rfl rfl) ?_
      | refine wpL_v rfl rfl (by decide) (OpV_add rfl rfl rfl (by omega)) ?_
      | refine wpL_v rfl rfl (by decide) (OpV_sub rfl rfl rfl (by omega)) ?_
      | refine wpL_v rfl rfl (by decide) (OpV_len rfl rfl rfl) ?_
      | refine wpL_v rfl rfl (by decide) (OpV_nilCheck rfl rfl rfl) ?_
      | refine wpL_v rfl rfl (by decide) (OpV_fieldAddr rfl rfl rfl rfl) ?_
      | refine wpL_v rfl rfl (by decide) (OpV_load rfl rfl rfl) ?_
      | refine wpL_v rfl rfl (by decide) (OpV_not rfl rfl) ?_
      | refine wpL_v rfl rfl (by decide) (OpV_extract rfl rfl rfl) ?_
      | refine wpL_v rfl rfl (by decide) (OpV_pick_t rfl rfl (by first | rfl | exact decide_eq_true (by omega)) rfl) ?_
      | refine wpL_v rfl rfl (by decide) (OpV_pick_f rfl rfl (by first | rfl | exact decide_eq_false (by omega)) rfl) ?_
      | refine wpL_v rfl rfl (by decide) (OpV_build rfl rfl rfl rfl) ?_
      | refine wpL_v rfl rfl (by decide) (OpV_max rfl rfl rfl) ?_
      | refine wpL_v rfl rfl (by decide) (OpV_min rfl rfl rfl) ?_
      | refine wpL_v rfl rfl (by decide) (OpV_nilptr rfl rfl rfl) ?_
      | refine wpL_v rfl rfl (by decide) (OpV_beq rfl rfl rfl) ?_
      | refine wpL_v rfl rfl (by decide) (OpV_bne rfl rfl rfl) ?_
      | refine wpL_v rfl rfl (by decide) (OpV_makeFunc rfl rfl) ?_
      | refine wpL_loadH 0 hG rfl rfl (by decide) rfl rfl rfl rfl ?_
      | refine wpL_loadH 1 hG rfl rfl (by decide) rfl rfl rfl rfl ?_
      | refine wpL_loadH 2 hG rfl rfl (by decide) rfl rfl rfl rfl ?_
      | refine wpL_loadH 3 hG rfl rfl (by decide) rfl rfl rfl rfl ?_
      | refine wpL_loadH 4 hG rfl rfl (by decide) rfl rfl rfl rfl ?_
      | refine wpL_loadH 5 hG rfl rfl (by decide) rfl rfl rfl rfl ?_
      | (refine wpL_storeH 0 hG rfl rfl rfl rfl rfl rfl rfl rfl rfl rfl rfl ?_; intro G hG)
      | (refine wpL_storeH 1 hG rfl rfl rfl rfl rfl rfl rfl rfl rfl rfl rfl ?_; intro G hG)
      | (refine wpL_storeH 2 hG rfl rfl rfl rfl rfl rfl rfl rfl rfl rfl rfl ?_; intro G hG)
      | (refine wpL_storeH 3 hG rfl rfl rfl rfl rfl rfl rfl rfl rfl rfl rfl ?_; intro G hG)
      | (refine wpL_storeH 4 hG rfl rfl rfl rfl rfl rfl rfl rfl rfl rfl rfl ?_; intro G hG)
      | (refine wpL_storeH 5 hG rfl rfl rfl rfl rfl rfl rfl rfl rfl rfl rfl ?_; intro G hG)
      | (refine wpL_allocH hG rfl rfl (by decide) rfl rfl ?_; intro id G hG)
      | (refine wpL_boxH hG rfl rfl (by decide) rfl rfl rfl ?_; intro id G hG)
      | (refine wpL_sliceH hG rfl rfl (by decide) rfl rfl rfl rfl rfl rfl rfl rfl ?_; intro id G hG)
      | refine wpL_gt rfl rfl rfl rfl rfl (by decide) (by first | rfl | exact decide_eq_true (by omega) | exact decide_eq_false (by omega) | exact ndec_t (by omega) | exact ndec_f (by omega)) ?_
      | refine wpL_gf rfl rfl rfl rfl rfl (by decide) (by first | rfl | exact decide_eq_true (by omega) | exact decide_eq_false (by omega) | exact ndec_t (by omega) | exact ndec_f (by omega)) ?_
      | refine wpA_ct rfl (by first | rfl | exact decide_eq_true (by omega) | exact ndec_t (by omega)) ?_
      | refine wpA_cf rfl (by first | rfl | exact decide_eq_false (by omega) | exact ndec_f (by omega)) ?_
      | refine wpA_skip ?_
      | refine wpA_exit ?_
      | refine wpA_ret ?_
      | refine x_then_exit ?_
      | refine x_then_ret ?_
      | refine x_then_normal ?_
      | refine x_block_ret ?_
      | refine x_block_normal ?_
      | refine x_block_exit ?_
      | refine x_block_other rfl ?_
      | refine wpL_v rfl rfl (by decide) (OpV_pick_t rfl rfl (ndec_t (by omega)) rfl) ?_
      | refine wpL_v rfl rfl (by decide) (OpV_pick_f rfl rfl (ndec_f (by omega)) rfl) ?_)
    refine wpA_cut2 (S := Unit) (fun x => [(0, pcs l), (1, I a), (2, I ((a + n : Nat) : Int)), (4, I height), (10, .ptr r 0), (11, .ptr p 0), (12, I (yA l a height k)), (13, I (sumFeet (feetN l a k))), (14, I ((a + k : Nat) : Int))])
      (fun x G => Has G [(r, ⟨zeroC, 31, true⟩), (p, ⟨pageC width height s1 (slotsN l a height k).length u1 (feetN l a k).length 0 0, 31, true⟩), (s1, ⟨(slotsN l a height k).flatMap encSlot, 40, true⟩), (u1, ⟨(rawS (feetN l a k)).flatMap encSlot, 40, true⟩)]) ?_ ?_
    · cases k with
      | zero =>
        repeat (first
          | refine wpL_end ?_
          | refine wpL_nil ?_
          | refine wpA_seq ?_
          | refine wpA_region ?_
          | refine wpA_block ?_
          | refine wpL_v rfl rfl (by decide) (OpV_move rfl rfl) ?_
          | refine wpL_v rfl rfl (by decide) (OpV_assign rfl rfl) ?_
          | refine wpL_v rfl rfl (by decide) (OpV_cmp rfl rfl rfl rfl) ?_
          | refine wpL_v rfl rfl (by decide) (OpV_add rfl rfl rfl (by omega)) ?_
          | refine wpL_v rfl rfl (by decide) (OpV_sub rfl rfl rfl (by omega)) ?_
          | refine wpL_v rfl rfl (by decide) (OpV_len rfl rfl rfl) ?_
          | refine wpL_v rfl rfl (by decide) (OpV_nilCheck rfl rfl rfl) ?_
          | refine wpL_v rfl rfl (by decide) (OpV_fieldAddr rfl rfl rfl rfl) ?_
          | refine wpL_v rfl rfl (by decide) (OpV_load rfl rfl rfl) ?_
          | refine wpL_v rfl rfl (by decide) (OpV_not rfl rfl) ?_
          | refine wpL_v rfl rfl (by decide) (OpV_extract rfl rfl rfl) ?_
          | refine wpL_v rfl rfl (by decide) (OpV_pick_t rfl rfl (by first | rfl | exact decide_eq_true (by omega)) rfl) ?_
          | refine wpL_v rfl rfl (by decide) (OpV_pick_f rfl rfl (by first | rfl | exact decide_eq_false (by omega)) rfl) ?_
          | refine wpL_v rfl rfl (by decide) (OpV_build rfl rfl rfl rfl) ?_
          | refine wpL_v rfl rfl (by decide) (OpV_max rfl rfl rfl) ?_
          | refine wpL_v rfl rfl (by decide) (OpV_min rfl rfl rfl) ?_
          | refine wpL_v rfl rfl (by decide) (OpV_nilptr rfl rfl rfl) ?_
          | refine wpL_v rfl rfl (by decide) (OpV_beq rfl rfl rfl) ?_
          | refine wpL_v rfl rfl (by decide) (OpV_bne rfl rfl rfl) ?_
          | refine wpL_v rfl rfl (by decide) (OpV_makeFunc rfl rfl) ?_
          | refine wpL_loadH 0 hG rfl rfl (by decide) rfl rfl rfl rfl ?_
          | refine wpL_loadH 1 hG rfl rfl (by decide) rfl rfl rfl rfl ?_
          | refine wpL_loadH 2 hG rfl rfl (by decide) rfl rfl rfl rfl ?_
          | refine wpL_loadH 3 hG rfl rfl (by decide) rfl rfl rfl rfl ?_
          | refine wpL_loadH 4 hG rfl rfl (by decide) rfl rfl rfl rfl ?_
          | refine wpL_loadH 5 hG rfl rfl (by decide) rfl rfl rfl rfl ?_
          | (refine wpL_storeH 0 hG rfl rfl rfl rfl rfl rfl rfl rfl rfl rfl rfl ?_; intro G hG)
          | (refine wpL_storeH 1 hG rfl rfl rfl rfl rfl rfl rfl rfl rfl rfl rfl ?_; intro G hG)
          | (refine wpL_storeH 2 hG rfl rfl rfl rfl rfl rfl rfl rfl rfl rfl rfl ?_; intro G hG)
          | (refine wpL_storeH 3 hG rfl rfl rfl rfl rfl rfl rfl rfl rfl rfl rfl ?_; intro G hG)
          | (refine wpL_storeH 4 hG rfl rfl rfl rfl rfl rfl rfl rfl rfl rfl rfl ?_; intro G hG)
          | (refine wpL_storeH 5 hG rfl rfl rfl rfl rfl rfl rfl rfl rfl rfl rfl ?_; intro G hG)
          | (refine wpL_allocH hG rfl rfl (by decide) rfl rfl ?_; intro id G hG)
          | (refine wpL_boxH hG rfl rfl (by decide) rfl rfl rfl ?_; intro id G hG)
          | (refine wpL_sliceH hG rfl rfl (by decide) rfl rfl rfl rfl rfl rfl rfl rfl ?_; intro id G hG)
          | refine wpL_gt rfl rfl rfl rfl rfl (by decide) (by first | rfl | exact decide_eq_true (by omega) | exact decide_eq_false (by omega) | exact ndec_t (by omega) | exact ndec_f (by omega)) ?_
          | refine wpL_gf rfl rfl rfl rfl rfl (by decide) (by first | rfl | exact decide_eq_true (by omega) | exact decide_eq_false (by omega) | exact ndec_t (by omega) | exact ndec_f (by omega)) ?_
          | refine wpA_ct rfl (by first | rfl | exact decide_eq_true (by omega) | exact ndec_t (by omega)) ?_
          | refine wpA_cf rfl (by first | rfl | exact decide_eq_false (by omega) | exact ndec_f (by omega)) ?_
          | refine wpA_skip ?_
          | refine wpA_exit ?_
          | refine wpA_ret ?_
          | refine x_then_exit ?_
          | refine x_then_ret ?_
          | refine x_then_normal ?_
          | refine x_block_ret ?_
          | refine x_block_normal ?_
          | refine x_block_exit ?_
          | refine x_block_other rfl ?_
          | refine wpL_v rfl rfl (by decide) (OpV_pick_t rfl rfl (ndec_t (by omega)) rfl) ?_
          | refine wpL_v rfl rfl (by decide) (OpV_pick_f rfl rfl (ndec_f (by omega)) rfl) ?_)
        exact ⟨(), .cons rfl (.cons rfl (.cons rfl (.cons rfl (.cons rfl (.cons rfl (.cons rfl (.cons rfl (.cons rfl (.nil _))))))))), hG⟩
      | succ k =>
        have hq := ok_pg hl (show a + k < l.length by omega)
        have y5 := hq.after
        simp only [small] at y5
        have y6 : yA l a height (k + 1) = yB l a height (k + 1) + (pg l (a + k)).after + (pg l (a + (k + 1))).before := by
          simp only [yA, yB]; rw [show a + (k + 1) = a + k + 1 from rfl]; omega
        have hpj : (((a + (k + 1) : Nat) : Int) - 1).toNat = a + k := by omega
        have hpj2 := pcs_spot (pg_some (show a + k < l.length by omega))
        repeat (first
          | refine wpL_end ?_
          | refine wpL_nil ?_
          | refine wpA_seq ?_
          | refine wpA_region ?_
          | refine wpA_block ?_
          | refine wpL_v rfl rfl (by decide) (OpV_move rfl rfl) ?_
          | refine wpL_v rfl rfl (by decide) (OpV_assign rfl rfl) ?_
          | refine wpL_v rfl rfl (by decide) (OpV_cmp rfl rfl rfl rfl) ?_
          | refine wpL_v rfl rfl (by decide) (OpV_add rfl rfl rfl (by omega)) ?_
          | refine wpL_v rfl rfl (by decide) (OpV_sub rfl rfl rfl (by omega)) ?_
          | refine wpL_v rfl rfl (by decide) (OpV_len rfl rfl rfl) ?_
          | refine wpL_v rfl rfl (by decide) (OpV_nilCheck rfl rfl rfl) ?_
          | refine wpL_v rfl rfl (by decide) (OpV_fieldAddr rfl rfl rfl rfl) ?_
          | refine wpL_v rfl rfl (by decide) (OpV_load rfl rfl rfl) ?_
          | refine wpL_v rfl rfl (by decide) (OpV_not rfl rfl) ?_
          | refine wpL_v rfl rfl (by decide) (OpV_extract rfl rfl rfl) ?_
          | refine wpL_v rfl rfl (by decide) (OpV_pick_t rfl rfl (by first | rfl | exact decide_eq_true (by omega)) rfl) ?_
          | refine wpL_v rfl rfl (by decide) (OpV_pick_f rfl rfl (by first | rfl | exact decide_eq_false (by omega)) rfl) ?_
          | refine wpL_v rfl rfl (by decide) (OpV_build rfl rfl rfl rfl) ?_
          | refine wpL_v rfl rfl (by decide) (OpV_max rfl rfl rfl) ?_
          | refine wpL_v rfl rfl (by decide) (OpV_min rfl rfl rfl) ?_
          | refine wpL_v rfl rfl (by decide) (OpV_nilptr rfl rfl rfl) ?_
          | refine wpL_v rfl rfl (by decide) (OpV_beq rfl rfl rfl) ?_
          | refine wpL_v rfl rfl (by decide) (OpV_bne rfl rfl rfl) ?_
          | refine wpL_v rfl rfl (by decide) (OpV_makeFunc rfl rfl) ?_
          | refine wpL_loadH 0 hG rfl rfl (by decide) rfl rfl rfl rfl ?_
          | refine wpL_loadH 1 hG rfl rfl (by decide) rfl rfl rfl rfl ?_
          | refine wpL_loadH 2 hG rfl rfl (by decide) rfl rfl rfl rfl ?_
          | refine wpL_loadH 3 hG rfl rfl (by decide) rfl rfl rfl rfl ?_
          | refine wpL_loadH 4 hG rfl rfl (by decide) rfl rfl rfl rfl ?_
          | refine wpL_loadH 5 hG rfl rfl (by decide) rfl rfl rfl rfl ?_
          | (refine wpL_storeH 0 hG rfl rfl rfl rfl rfl rfl rfl rfl rfl rfl rfl ?_; intro G hG)
          | (refine wpL_storeH 1 hG rfl rfl rfl rfl rfl rfl rfl rfl rfl rfl rfl ?_; intro G hG)
          | (refine wpL_storeH 2 hG rfl rfl rfl rfl rfl rfl rfl rfl rfl rfl rfl ?_; intro G hG)
          | (refine wpL_storeH 3 hG rfl rfl rfl rfl rfl rfl rfl rfl rfl rfl rfl ?_; intro G hG)
          | (refine wpL_storeH 4 hG rfl rfl rfl rfl rfl rfl rfl rfl rfl rfl rfl ?_; intro G hG)
          | (refine wpL_storeH 5 hG rfl rfl rfl rfl rfl rfl rfl rfl rfl rfl rfl ?_; intro G hG)
          | (refine wpL_allocH hG rfl rfl (by decide) rfl rfl ?_; intro id G hG)
          | (refine wpL_boxH hG rfl rfl (by decide) rfl rfl rfl ?_; intro id G hG)
          | (refine wpL_sliceH hG rfl rfl (by decide) rfl rfl rfl rfl rfl rfl rfl rfl ?_; intro id G hG)
          | refine wpL_gt rfl rfl rfl rfl rfl (by decide) (by first | rfl | exact decide_eq_true (by omega) | exact decide_eq_false (by omega) | exact ndec_t (by omega) | exact ndec_f (by omega)) ?_
          | refine wpL_gf rfl rfl rfl rfl rfl (by decide) (by first | rfl | exact decide_eq_true (by omega) | exact decide_eq_false (by omega) | exact ndec_t (by omega) | exact ndec_f (by omega)) ?_
          | refine wpA_ct rfl (by first | rfl | exact decide_eq_true (by omega) | exact ndec_t (by omega)) ?_
          | refine wpA_cf rfl (by first | rfl | exact decide_eq_false (by omega) | exact ndec_f (by omega)) ?_
          | refine wpA_skip ?_
          | refine wpA_exit ?_
          | refine wpA_ret ?_
          | refine x_then_exit ?_
          | refine x_then_ret ?_
          | refine x_then_normal ?_
          | refine x_block_ret ?_
          | refine x_block_normal ?_
          | refine x_block_exit ?_
          | refine x_block_other rfl ?_
          | refine wpL_v rfl rfl (by decide) (OpV_pick_t rfl rfl (ndec_t (by omega)) rfl) ?_
          | refine wpL_v rfl rfl (by decide) (OpV_pick_f rfl rfl (ndec_f (by omega)) rfl) ?_)
        refine wpA_yq mixed (by decide +kernel) ?_
        repeat (first
          | refine Y_q rfl rfl rfl (by decide) (OpV_index_tr rfl rfl rfl (by omega) (by rw [hpj]; exact hpj2)) ?_
          | refine Y_q rfl rfl rfl (by decide) (OpV_index_tr rfl rfl rfl (by omega) (by exact hpp)) ?_
          | refine Y_q rfl rfl rfl (by decide) (OpV_cmp rfl rfl rfl (congrArg some (decide_eq_true (by omega)))) ?_
          | refine Y_q rfl rfl rfl (by decide) (OpV_cmp rfl rfl rfl (congrArg some (decide_eq_false (by omega)))) ?_
          | refine Y_q rfl rfl rfl (by decide) (OpV_cmp rfl rfl rfl (congrArg some (ndec_t (by omega)))) ?_
          | refine Y_q rfl rfl rfl (by decide) (OpV_cmp rfl rfl rfl (congrArg some (ndec_f (by omega)))) ?_
          | refine Y_q rfl rfl rfl (by decide) (OpV_move rfl rfl) ?_
          | refine Y_q rfl rfl rfl (by decide) (OpV_assign rfl rfl) ?_
          | refine Y_q rfl rfl rfl (by decide) (OpV_cmp rfl rfl rfl rfl) ?_
          | refine Y_q rfl rfl rfl (by decide) (OpV_add rfl rfl rfl (by omega)) ?_
          | refine Y_q rfl rfl rfl (by decide) (OpV_sub rfl rfl rfl (by omega)) ?_
          | refine Y_q rfl rfl rfl (by decide) (OpV_len rfl rfl rfl) ?_
          | refine Y_q rfl rfl rfl (by decide) (OpV_nilCheck rfl rfl rfl) ?_
          | refine Y_q rfl rfl rfl (by decide) (OpV_fieldAddr rfl rfl rfl rfl) ?_
          | refine Y_q rfl rfl rfl (by decide) (OpV_load rfl rfl rfl) ?_
          | refine Y_q rfl rfl rfl (by decide) (OpV_not rfl rfl) ?_
          | refine Y_q rfl rfl rfl (by decide) (OpV_extract rfl rfl rfl) ?_
          | refine Y_q rfl rfl rfl (by decide) (OpV_build rfl rfl rfl rfl) ?_
          | refine Y_q rfl rfl rfl (by decide) (OpV_max rfl rfl rfl) ?_
          | refine Y_q rfl rfl rfl (by decide) (OpV_min rfl rfl rfl) ?_
          | refine Y_q rfl rfl rfl (by decide) (OpV_nilptr rfl rfl rfl) ?_
          | refine Y_q rfl rfl rfl (by decide) (OpV_beq rfl rfl rfl) ?_
          | refine Y_q rfl rfl rfl (by decide) (OpV_bne rfl rfl rfl) ?_
          | refine Y_q rfl rfl rfl (by decide) (OpV_pick_t rfl rfl (by first | rfl | exact decide_eq_true (by omega) | exact ndec_t (by omega)) rfl) ?_
          | refine Y_q rfl rfl rfl (by decide) (OpV_pick_f rfl rfl (by first | rfl | exact decide_eq_false (by omega) | exact ndec_f (by omega)) rfl) ?_
          | refine Y_gq (OpV_cmp rfl rfl rfl (congrArg some (decide_eq_true (by omega)))) rfl (by decide) rfl rfl rfl rfl (by decide) ?_
          | refine Y_gq (OpV_cmp rfl rfl rfl (congrArg some (decide_eq_false (by omega)))) rfl (by decide) rfl rfl rfl rfl (by decide) ?_
          | refine Y_gq (OpV_cmp rfl rfl rfl (congrArg some (ndec_t (by omega)))) rfl (by decide) rfl rfl rfl rfl (by decide) ?_
          | refine Y_gq (OpV_cmp rfl rfl rfl (congrArg some (ndec_f (by omega)))) rfl (by decide) rfl rfl rfl rfl (by decide) ?_
          | refine Y_gq (OpV_move rfl rfl) rfl (by decide) rfl rfl rfl rfl (by decide) ?_
          | refine Y_gq (OpV_assign rfl rfl) rfl (by decide) rfl rfl rfl rfl (by decide) ?_
          | refine Y_gq (OpV_cmp rfl rfl rfl rfl) rfl (by decide) rfl rfl rfl rfl (by decide) ?_
          | refine Y_gq (OpV_add rfl rfl rfl (by omega)) rfl (by decide) rfl rfl rfl rfl (by decide) ?_
          | refine Y_gq (OpV_sub rfl rfl rfl (by omega)) rfl (by decide) rfl rfl rfl rfl (by decide) ?_
          | refine Y_gq (OpV_len rfl rfl rfl) rfl (by decide) rfl rfl rfl rfl (by decide) ?_
          | refine Y_gq (OpV_nilCheck rfl rfl rfl) rfl (by decide) rfl rfl rfl rfl (by decide) ?_
          | refine Y_gq (OpV_fieldAddr rfl rfl rfl rfl) rfl (by decide) rfl rfl rfl rfl (by decide) ?_
          | refine Y_gq (OpV_load rfl rfl rfl) rfl (by decide) rfl rfl rfl rfl (by decide) ?_
          | refine Y_gq (OpV_not rfl rfl) rfl (by decide) rfl rfl rfl rfl (by decide) ?_
          | refine Y_gq (OpV_extract rfl rfl rfl) rfl (by decide) rfl rfl rfl rfl (by decide) ?_
          | refine Y_gq (OpV_build rfl rfl rfl rfl) rfl (by decide) rfl rfl rfl rfl (by decide) ?_
          | refine Y_gq (OpV_max rfl rfl rfl) rfl (by decide) rfl rfl rfl rfl (by decide) ?_
          | refine Y_gq (OpV_min rfl rfl rfl) rfl (by decide) rfl rfl rfl rfl (by decide) ?_
          | refine Y_gq (OpV_nilptr rfl rfl rfl) rfl (by decide) rfl rfl rfl rfl (by decide) ?_
          | refine Y_gq (OpV_beq rfl rfl rfl) rfl (by decide) rfl rfl rfl rfl (by decide) ?_
          | refine Y_gq (OpV_bne rfl rfl rfl) rfl (by decide) rfl rfl rfl rfl (by decide) ?_
          | refine Y_gq (OpV_pick_t rfl rfl (by first | rfl | exact decide_eq_true (by omega) | exact ndec_t (by omega)) rfl) rfl (by decide) rfl rfl rfl rfl (by decide) ?_
          | refine Y_gq (OpV_pick_f rfl rfl (by first | rfl | exact decide_eq_false (by omega) | exact ndec_f (by omega)) rfl) rfl (by decide) rfl rfl rfl rfl (by decide) ?_
          | refine Y_gn rfl (by decide) rfl rfl rfl rfl rfl (by decide) ?_
          | refine Y_end ?_)
        rw [y6]
        exact ⟨(), .cons rfl (.cons rfl (.cons rfl (.cons rfl (.cons rfl (.cons rfl (.cons rfl (.cons rfl (.cons rfl (.nil _))))))))), hG⟩
    rintro ⟨⟩ G hG
    have c1 : ((slotsN l a height k).flatMap encSlot).length = (slotsN l a height k).length * 6 := flat_len encSlot_len _
    repeat (first
      | refine wpL_end ?_
      | refine wpL_nil ?_
      | refine wpA_seq ?_
      | refine wpA_region ?_
      | refine wpA_block ?_
      | refine wpL_v rfl rfl (by decide) (OpV_move rfl rfl) ?_
      | refine wpL_v rfl rfl (by decide) (OpV_assign rfl rfl) ?_
      | refine wpL_v rfl rfl (by decide) (OpV_cmp rfl rfl rfl rfl) ?_
      | refine wpL_v rfl rfl (by decide) (OpV_add rfl rfl rfl (by omega)) ?_
      | refine wpL_v rfl rfl (by decide) (OpV_sub rfl rfl rfl (by omega)) ?_
      | refine wpL_v rfl rfl (by decide) (OpV_len rfl rfl rfl) ?_
      | refine wpL_v rfl rfl (by decide) (OpV_nilCheck rfl rfl rfl) ?_
      | refine wpL_v rfl rfl (by decide) (OpV_fieldAddr rfl rfl rfl rfl) ?_
      | refine wpL_v rfl rfl (by decide) (OpV_load rfl rfl rfl) ?_
      | refine wpL_v rfl rfl (by decide) (OpV_not rfl rfl) ?_
      | refine wpL_v rfl rfl (by decide) (OpV_extract rfl rfl rfl) ?_
      | refine wpL_v rfl rfl (by decide) (OpV_pick_t rfl rfl (by first | rfl | exact decide_eq_true (by omega)) rfl) ?_
      | refine wpL_v rfl rfl (by decide) (OpV_pick_f rfl rfl (by first | rfl | exact decide_eq_false (by omega)) rfl) ?_
      | refine wpL_v rfl rfl (by decide) (OpV_build rfl rfl rfl rfl) ?_
      | refine wpL_v rfl rfl (by decide) (OpV_max rfl rfl rfl) ?_
      | refine wpL_v rfl rfl (by decide) (OpV_min rfl rfl rfl) ?_
      | refine wpL_v rfl rfl (by decide) (OpV_nilptr rfl rfl rfl) ?_
      | refine wpL_v rfl rfl (by decide) (OpV_beq rfl rfl rfl) ?_
      | refine wpL_v rfl rfl (by decide) (OpV_bne rfl rfl rfl) ?_
      | refine wpL_v rfl rfl (by decide) (OpV_makeFunc rfl rfl) ?_
      | refine wpL_loadH 0 hG rfl rfl (by decide) rfl rfl rfl rfl ?_
      | refine wpL_loadH 1 hG rfl rfl (by decide) rfl rfl rfl rfl ?_
      | refine wpL_loadH 2 hG rfl rfl (by decide) rfl rfl rfl rfl ?_
      | refine wpL_loadH 3 hG rfl rfl (by decide) rfl rfl rfl rfl ?_
      | refine wpL_loadH 4 hG rfl rfl (by decide) rfl rfl rfl rfl ?_
      | refine wpL_loadH 5 hG rfl rfl (by decide) rfl rfl rfl rfl ?_
      | (refine wpL_storeH 0 hG rfl rfl rfl rfl rfl rfl rfl rfl rfl rfl rfl ?_; intro G hG)
      | (refine wpL_storeH 1 hG rfl rfl rfl rfl rfl rfl rfl rfl rfl rfl rfl ?_; intro G hG)
      | (refine wpL_storeH 2 hG rfl rfl rfl rfl rfl rfl rfl rfl rfl rfl rfl ?_; intro G hG)
      | (refine wpL_storeH 3 hG rfl rfl rfl rfl rfl rfl rfl rfl rfl rfl rfl ?_; intro G hG)
      | (refine wpL_storeH 4 hG rfl rfl rfl rfl rfl rfl rfl rfl rfl rfl rfl ?_; intro G hG)
      | (refine wpL_storeH 5 hG rfl rfl rfl rfl rfl rfl rfl rfl rfl rfl rfl ?_; intro G hG)
      | (refine wpL_allocH hG rfl rfl (by decide) rfl rfl ?_; intro id G hG)
      | (refine wpL_boxH hG rfl rfl (by decide) rfl rfl rfl ?_; intro id G hG)
      | (refine wpL_sliceH hG rfl rfl (by decide) rfl rfl rfl rfl rfl rfl rfl rfl ?_; intro id G hG)
      | refine wpL_gt rfl rfl rfl rfl rfl (by decide) (by first | rfl | exact decide_eq_true (by omega) | exact decide_eq_false (by omega) | exact ndec_t (by omega) | exact ndec_f (by omega)) ?_
      | refine wpL_gf rfl rfl rfl rfl rfl (by decide) (by first | rfl | exact decide_eq_true (by omega) | exact decide_eq_false (by omega) | exact ndec_t (by omega) | exact ndec_f (by omega)) ?_
      | refine wpA_ct rfl (by first | rfl | exact decide_eq_true (by omega) | exact ndec_t (by omega)) ?_
      | refine wpA_cf rfl (by first | rfl | exact decide_eq_false (by omega) | exact ndec_f (by omega)) ?_
      | refine wpA_skip ?_
      | refine wpA_exit ?_
      | refine wpA_ret ?_
      | refine x_then_exit ?_
      | refine x_then_ret ?_
      | refine x_then_normal ?_
      | refine x_block_ret ?_
      | refine x_block_normal ?_
      | refine x_block_exit ?_
      | refine x_block_other rfl ?_
      | refine wpL_v rfl rfl (by decide) (OpV_pick_t rfl rfl (ndec_t (by omega)) rfl) ?_
      | refine wpL_v rfl rfl (by decide) (OpV_pick_f rfl rfl (ndec_f (by omega)) rfl) ?_)
    obtain ⟨H1, e1⟩ : ∃ X, X = G ++ [some (Blk.mk (encSlot (slotAt l a height k)) 40 true)] := ⟨_, rfl⟩
    have hG1 := hG.new (Blk.mk (encSlot (slotAt l a height k)) 40 true)
    rw [← e1] at hG1
    obtain ⟨H2, e2⟩ : ∃ X, X = H1.set s1 none ++ [some (Blk.mk ((slotsN l a height k).flatMap encSlot ++ encSlot (slotAt l a height k)) 40 true)] := ⟨_, rfl⟩
    have hG2 := hG1.grow (k := 3) rfl (Blk.mk ((slotsN l a height k).flatMap encSlot ++ encSlot (slotAt l a height k)) 40 true)
    rw [← e2] at hG2
    obtain ⟨H3, e3⟩ : ∃ X, X = H2.set p (some (Blk.mk (pageC width height H1.length ((slotsN l a height k).length + 1) u1 (feetN l a k).length 0 0) 31 true)) := ⟨_, rfl⟩
    have hG3 := hG2.set (k := 2) rfl (Blk.mk (pageC width height H1.length ((slotsN l a height k).length + 1) u1 (feetN l a k).length 0 0) 31 true)
    rw [← e3] at hG3
    refine wpA_yL [H1, H2, H3] H3 mixed (by decide +kernel) (N := 3) (by decide +kernel) rfl ?_
    repeat (first
      | refine Y_v rfl rfl rfl (by decide) (fun _ => OpV_index_tr rfl rfl rfl (by omega) (by exact hpp)) ?_
      | refine Y_v rfl rfl rfl (by decide) (fun _ => OpV_load rfl rfl rfl) ?_
      | refine Y_r2 0 (by decide +kernel) (by decide +kernel) rfl rfl rfl rfl rfl (by decide) (OpV_load_at rfl rfl (hG.get 1 _ _ rfl) rfl) (OpV_load_at rfl rfl (hG1.get 2 _ _ rfl) rfl) ?_
      | refine Y_w 0 (by decide +kernel) rfl rfl rfl rfl (by decide) (OpW_buildSlice rfl rfl rfl rfl rfl rfl rfl rfl) e1 ?_
      | refine Y_w 1 (by decide +kernel) rfl rfl rfl rfl (by decide) (OpW_append rfl rfl rfl rfl (hG1.cellsOf (k := 0) rfl rfl) rfl (appendA_at (hG1.get 3 _ _ rfl) rfl rfl (by rw [c1]; exact Nat.beq_refl _)) (by omega) (by omega)) e2 ?_
      | refine Y_s 2 (by decide +kernel) rfl rfl rfl rfl (OpS_store_at rfl rfl rfl (hG2.get 2 _ _ rfl) rfl rfl rfl rfl rfl) e3 ?_
      | refine Y_v rfl rfl rfl (by decide) (fun _ => OpV_cmp rfl rfl rfl (congrArg some (decide_eq_true (by omega)))) ?_
      | refine Y_v rfl rfl rfl (by decide) (fun _ => OpV_cmp rfl rfl rfl (congrArg some (decide_eq_false (by omega)))) ?_
      | refine Y_v rfl rfl rfl (by decide) (fun _ => OpV_cmp rfl rfl rfl (congrArg some (ndec_t (by omega)))) ?_
      | refine Y_v rfl rfl rfl (by decide) (fun _ => OpV_cmp rfl rfl rfl (congrArg some (ndec_f (by omega)))) ?_
      | refine Y_v rfl rfl rfl (by decide) (fun _ => OpV_move rfl rfl) ?_
      | refine Y_v rfl rfl rfl (by decide) (fun _ => OpV_assign rfl rfl) ?_
      | refine Y_v rfl rfl rfl (by decide) (fun _ => OpV_cmp rfl rfl rfl rfl) ?_
      | refine Y_v rfl rfl rfl (by decide) (fun _ => OpV_add rfl rfl rfl (by omega)) ?_
      | refine Y_v rfl rfl rfl (by decide) (fun _ => OpV_sub rfl rfl rfl (by omega)) ?_
      | refine Y_v rfl rfl rfl (by decide) (fun _ => OpV_len rfl rfl rfl) ?_
      | refine Y_v rfl rfl rfl (by decide) (fun _ => OpV_nilCheck rfl rfl rfl) ?_
      | refine Y_v rfl rfl rfl (by decide) (fun _ => OpV_fieldAddr rfl rfl rfl rfl) ?_
      | refine Y_v rfl rfl rfl (by decide) (fun _ => OpV_load rfl rfl rfl) ?_
      | refine Y_v rfl rfl rfl (by decide) (fun _ => OpV_not rfl rfl) ?_
      | refine Y_v rfl rfl rfl (by decide) (fun _ => OpV_extract rfl rfl rfl) ?_
      | refine Y_v rfl rfl rfl (by decide) (fun _ => OpV_build rfl rfl rfl rfl) ?_
      | refine Y_v rfl rfl rfl (by decide) (fun _ => OpV_max rfl rfl rfl) ?_
      | refine Y_v rfl rfl rfl (by decide) (fun _ => OpV_min rfl rfl rfl) ?_
      | refine Y_v rfl rfl rfl (by decide) (fun _ => OpV_beq rfl rfl rfl) ?_
      | refine Y_v rfl rfl rfl (by decide) (fun _ => OpV_bne rfl rfl rfl) ?_
      | refine Y_v rfl rfl rfl (by decide) (fun _ => OpV_pick_t rfl rfl (by first | rfl | exact decide_eq_true (by omega) | exact ndec_t (by omega)) rfl) ?_
      | refine Y_v rfl rfl rfl (by decide) (fun _ => OpV_pick_f rfl rfl (by first | rfl | exact decide_eq_false (by omega) | exact ndec_f (by omega)) rfl) ?_
      | refine Y_gv (fun _ => OpV_cmp rfl rfl rfl (congrArg some (decide_eq_true (by omega)))) rfl (by decide) rfl rfl rfl rfl (by decide) ?_
      | refine Y_gv (fun _ => OpV_cmp rfl rfl rfl (congrArg some (decide_eq_false (by omega)))) rfl (by decide) rfl rfl rfl rfl (by decide) ?_
      | refine Y_gv (fun _ => OpV_cmp rfl rfl rfl (congrArg some (ndec_t (by omega)))) rfl (by decide) rfl rfl rfl rfl (by decide) ?_
      | refine Y_gv (fun _ => OpV_cmp rfl rfl rfl (congrArg some (ndec_f (by omega)))) rfl (by decide) rfl rfl rfl rfl (by decide) ?_
      | refine Y_gv (fun _ => OpV_move rfl rfl) rfl (by decide) rfl rfl rfl rfl (by decide) ?_
      | refine Y_gv (fun _ => OpV_assign rfl rfl) rfl (by decide) rfl rfl rfl rfl (by decide) ?_
      | refine Y_gv (fun _ => OpV_cmp rfl rfl rfl rfl) rfl (by decide) rfl rfl rfl rfl (by decide) ?_
      | refine Y_gv (fun _ => OpV_add rfl rfl rfl (by omega)) rfl (by decide) rfl rfl rfl rfl (by decide) ?_
      | refine Y_gv (fun _ => OpV_sub rfl rfl rfl (by omega)) rfl (by decide) rfl rfl rfl rfl (by decide) ?_
      | refine Y_gv (fun _ => OpV_len rfl rfl rfl) rfl (by decide) rfl rfl rfl rfl (by decide) ?_
      | refine Y_gv (fun _ => OpV_nilCheck rfl rfl rfl) rfl (by decide) rfl rfl rfl rfl (by decide) ?_
      | refine Y_gv (fun _ => OpV_fieldAddr rfl rfl rfl rfl) rfl (by decide) rfl rfl rfl rfl (by decide) ?_
      | refine Y_gv (fun _ => OpV_load rfl rfl rfl) rfl (by decide) rfl rfl rfl rfl (by decide) ?_
      | refine Y_gv (fun _ => OpV_not rfl rfl) rfl (by decide) rfl rfl rfl rfl (by decide) ?_
      | refine Y_gv (fun _ => OpV_extract rfl rfl rfl) rfl (by decide) rfl rfl rfl rfl (by decide) ?_
      | refine Y_gv (fun _ => OpV_build rfl rfl rfl rfl) rfl (by decide) rfl rfl rfl rfl (by decide) ?_
      | refine Y_gv (fun _ => OpV_max rfl rfl rfl) rfl (by decide) rfl rfl rfl rfl (by decide) ?_
      | refine Y_gv (fun _ => OpV_min rfl rfl rfl) rfl (by decide) rfl rfl rfl rfl (by decide) ?_
      | refine Y_gv (fun _ => OpV_beq rfl rfl rfl) rfl (by decide) rfl rfl rfl rfl (by decide) ?_
      | refine Y_gv (fun _ => OpV_bne rfl rfl rfl) rfl (by decide) rfl rfl rfl rfl (by decide) ?_
      | refine Y_gv (fun _ => OpV_pick_t rfl rfl (by first | rfl | exact decide_eq_true (by omega) | exact ndec_t (by omega)) rfl) rfl (by decide) rfl rfl rfl rfl (by decide) ?_
      | refine Y_gv (fun _ => OpV_pick_f rfl rfl (by first | rfl | exact decide_eq_false (by omega) | exact ndec_f (by omega)) rfl) rfl (by decide) rfl rfl rfl rfl (by decide) ?_
      | refine Y_gn rfl (by decide) rfl rfl rfl rfl rfl (by decide) ?_
      | refine Y_end ?_)
    have d1 : (slotsN l a height (k + 1)).flatMap encSlot = (slotsN l a height k).flatMap encSlot ++ encSlot (slotAt l a height k) := by simp [slotsN]
    have d2 : (slotsN l a height (k + 1)).length = (slotsN l a height k).length + 1 := by simp [slotsN]
    have hG := hG3.pick (L' := [(r, ⟨zeroC, 31, true⟩), (p, ⟨pageC width height H1.length ((slotsN l a height k).length + 1) u1 (feetN l a k).length 0 0, 31, true⟩), (H1.length, ⟨(slotsN l a height k).flatMap encSlot ++ encSlot (slotAt l a height k), 40, true⟩), (u1, ⟨(rawS (feetN l a k)).flatMap encSlot, 40, true⟩)]) [1, 2, 3, 4] (by decide) rfl
    rw [← d1, ← d2] at hG
    generalize H1.length = s2 at hG
    clear hG1 hG2 hG3 e1 e2 e3 c1
    have y7 : yB l a height (k + 1) = yA l a height k + (pg l (a + k)).height := rfl
    have n6 := slotsN_len l a height (k + 1)
    repeat (first
      | refine wpL_end ?_
      | refine wpL_nil ?_
      | refine wpA_seq ?_
      | refine wpA_region ?_
      | refine wpA_block ?_
      | refine wpL_v rfl rfl (by decide) (OpV_index_tr rfl rfl rfl (by omega) (by exact hpp)) ?_
      | refine wpL_v rfl rfl (by decide) (OpV_move rfl rfl) ?_
      | refine wpL_v rfl rfl (by decide) (OpV_assign rfl rfl) ?_
      | refine wpL_v rfl rfl (by decide) (OpV_cmp rfl rfl rfl rfl) ?_
      | refine wpL_v rfl rfl (by decide) (OpV_add rfl rfl rfl (by omega)) ?_
      | refine wpL_v rfl rfl (by decide) (OpV_sub rfl rfl rfl (by omega)) ?_
      | refine wpL_v rfl rfl (by decide) (OpV_len rfl rfl rfl) ?_
      | refine wpL_v rfl rfl (by decide) (OpV_nilCheck rfl rfl rfl) ?_
      | refine wpL_v rfl rfl (by decide) (OpV_fieldAddr rfl rfl rfl rfl) ?_
      | refine wpL_v rfl rfl (by decide) (OpV_load rfl rfl rfl) ?_
      | refine wpL_v rfl rfl (by decide) (OpV_not rfl rfl) ?_
      | refine wpL_v rfl rfl (by decide) (OpV_extract rfl rfl rfl) ?_
      | refine wpL_v rfl rfl (by decide) (OpV_pick_t rfl rfl (by first | rfl | exact decide_eq_true (by omega)) rfl) ?_
      | refine wpL_v rfl rfl (by decide) (OpV_pick_f rfl rfl (by first | rfl | exact decide_eq_false (by omega)) rfl) ?_
      | refine wpL_v rfl rfl (by decide) (OpV_build rfl rfl rfl rfl) ?_
      | refine wpL_v rfl rfl (by decide) (OpV_max rfl rfl rfl) ?_
      | refine wpL_v rfl rfl (by decide) (OpV_min rfl rfl rfl) ?_
      | refine wpL_v rfl rfl (by decide) (OpV_nilptr rfl rfl rfl) ?_
      | refine wpL_v rfl rfl (by decide) (OpV_beq rfl rfl rfl) ?_
      | refine wpL_v rfl rfl (by decide) (OpV_bne rfl rfl rfl) ?_
      | refine wpL_v rfl rfl (by decide) (OpV_makeFunc rfl rfl) ?_
      | refine wpL_loadH 0 hG rfl rfl (by decide) rfl rfl rfl rfl ?_
      | refine wpL_loadH 1 hG rfl rfl (by decide) rfl rfl rfl rfl ?_
      | refine wpL_loadH 2 hG rfl rfl (by decide) rfl rfl rfl rfl ?_
      | refine wpL_loadH 3 hG rfl rfl (by decide) rfl rfl rfl rfl ?_
      | refine wpL_loadH 4 hG rfl rfl (by decide) rfl rfl rfl rfl ?_
      | refine wpL_loadH 5 hG rfl rfl (by decide) rfl rfl rfl rfl ?_
      | (refine wpL_storeH 0 hG rfl rfl rfl rfl rfl rfl rfl rfl rfl rfl rfl ?_; intro G hG)
      | (refine wpL_storeH 1 hG rfl rfl rfl rfl rfl rfl rfl rfl rfl rfl rfl ?_; intro G hG)
      | (refine wpL_storeH 2 hG rfl rfl rfl rfl rfl rfl rfl rfl rfl rfl rfl ?_; intro G hG)
      | (refine wpL_storeH 3 hG rfl rfl rfl rfl rfl rfl rfl rfl rfl rfl rfl ?_; intro G hG)
      | (refine wpL_storeH 4 hG rfl rfl rfl rfl rfl rfl rfl rfl rfl rfl rfl ?_; intro G hG)
      | (refine wpL_storeH 5 hG rfl rfl rfl rfl rfl rfl rfl rfl rfl rfl rfl ?_; intro G hG)
      | (refine wpL_allocH hG rfl rfl (by decide) rfl rfl ?_; intro id G hG)
      | (refine wpL_boxH hG rfl rfl (by decide) rfl rfl rfl ?_; intro id G hG)
      | (refine wpL_sliceH hG rfl rfl (by decide) rfl rfl rfl rfl rfl rfl rfl rfl ?_; intro id G hG)
      | refine wpL_gt rfl rfl rfl rfl rfl (by decide) (by first | rfl | exact decide_eq_true (by omega) | exact decide_eq_false (by omega) | exact ndec_t (by omega) | exact ndec_f (by omega)) ?_
      | refine wpL_gf rfl rfl rfl rfl rfl (by decide) (by first | rfl | exact decide_eq_true (by omega) | exact decide_eq_false (by omega) | exact ndec_t (by omega) | exact ndec_f (by omega)) ?_
      | refine wpA_ct rfl (by first | rfl | exact decide_eq_true (by omega) | exact ndec_t (by omega)) ?_
      | refine wpA_cf rfl (by first | rfl | exact decide_eq_false (by omega) | exact ndec_f (by omega)) ?_
      | refine wpA_skip ?_
      | refine wpA_exit ?_
      | refine wpA_ret ?_
      | refine x_then_exit ?_
      | refine x_then_ret ?_
      | refine x_then_normal ?_
      | refine x_block_ret ?_
      | refine x_block_normal ?_
      | refine x_block_exit ?_
      | refine x_block_other rfl ?_
      | refine wpL_v rfl rfl (by decide) (OpV_pick_t rfl rfl (ndec_t (by omega)) rfl) ?_
      | refine wpL_v rfl rfl (by decide) (OpV_pick_f rfl rfl (ndec_f (by omega)) rfl) ?_)
    refine wpA_loopS (S := Nat × Nat) (fun x => [(0, pcs l), (1, I a), (2, I ((a + n : Nat) : Int)), (4, I height), (10, .ptr r 0), (11, .ptr p 0), (12, I (yB l a height (k + 1))), (13, I (sumFeet (feetN l a k ++ (pg l (a + k)).feet.take x.1))), (14, I ((a + k : Nat) : Int)), (15, I x.1)])
      (fun x G => x.1 ≤ (pg l (a + k)).feet.length ∧ Has G [(r, ⟨zeroC, 31, true⟩), (p, ⟨pageC width height s2 (slotsN l a height (k + 1)).length x.2 (feetN l a k ++ (pg l (a + k)).feet.take x.1).length 0 0, 31, true⟩), (s2, ⟨(slotsN l a height (k + 1)).flatMap encSlot, 40, true⟩), (x.2, ⟨(rawS (feetN l a k ++ (pg l (a + k)).feet.take x.1)).flatMap encSlot, 40, true⟩)])
      (fun x => (pg l (a + k)).feet.length - x.1) (0, u1) (.cons rfl (.cons rfl (.cons rfl (.cons rfl (.cons rfl (.cons rfl (.cons rfl (.cons (show _ = some (I (sumFeet (feetN l a k ++ (pg l (a + k)).feet.take 0))) from by rw [List.take_zero, List.append_nil]; rfl) (.cons rfl (.cons rfl (.nil _))))))))))) ⟨by omega, by rw [List.take_zero, List.append_nil]; exact hG⟩ ?_
    rintro ⟨j, u2⟩ G ⟨hj, hG⟩
    dsimp only at hG hj ⊢
    have m1 : (feetN l a k ++ (pg l (a + k)).feet.take j).length ≤ 5 * k + 5 := by simp only [List.length_append, List.length_take]; omega
    have m2 := sumFeet_take_le _ j hpk.foot hpk.feet
    have m3 := sumFeet_app (feetN l a k) ((pg l (a + k)).feet.take j)
    by_cases hjl : j < (pg l (a + k)).feet.length
    · obtain ⟨f, hf⟩ : ∃ f, (pg l (a + k)).feet[j]? = some f := ⟨_, List.getElem?_eq_getElem hjl⟩
      have m4 := (hpk.foot f (List.mem_of_getElem? hf)).2
      have m5 := take_succ_of hf
      simp only [small] at m4
      have m6 : feetN l a k ++ (pg l (a + k)).feet.take (j + 1) = (feetN l a k ++ (pg l (a + k)).feet.take j) ++ [f] := by rw [m5, List.append_assoc]
      have m7 : sumFeet (feetN l a k ++ (pg l (a + k)).feet.take (j + 1)) = sumFeet (feetN l a k ++ (pg l (a + k)).feet.take j) + f.h := by rw [m6, sumFeet_app]; simp [sumFeet]
      have m8 : (rawS (feetN l a k ++ (pg l (a + k)).feet.take (j + 1))).flatMap encSlot = (rawS (feetN l a k ++ (pg l (a + k)).feet.take j)).flatMap encSlot ++ encSlot ⟨f.id, 0, 0, 0, f.h, false⟩ := by rw [m6]; simp [rawS]
      have m9 : (feetN l a k ++ (pg l (a + k)).feet.take (j + 1)).length = (feetN l a k ++ (pg l (a + k)).feet.take j).length + 1 := by rw [m6, List.length_append]; rfl
      generalize feetN l a k ++ (pg l (a + k)).feet.take j = F0 at hG m1 m3 m7 m8 m9 ⊢
      have c4 : ((rawS F0).flatMap encSlot).length = F0.length * 6 := by rw [flat_len encSlot_len, rawS_len]
      repeat (first
        | refine wpL_end ?_
        | refine wpL_nil ?_
        | refine wpA_seq ?_
        | refine wpA_region ?_
        | refine wpA_block ?_
        | refine wpL_v rfl rfl (by decide) (OpV_index_tr rfl rfl rfl (by omega) (by exact hpp)) ?_
        | refine wpL_v rfl rfl (by decide) (OpV_index_tr rfl rfl rfl (by omega) (feet_spot hf)) ?_
        | refine wpL_v rfl rfl (by decide) (OpV_move rfl rfl) ?_
        | refine wpL_v rfl rfl (by decide) (OpV_assign rfl rfl) ?_
        | refine wpL_v rfl rfl (by decide) (OpV_cmp rfl rfl rfl rfl) ?_
        | refine wpL_v rfl rfl (by decide) (OpV_add rfl rfl rfl (by omega)) ?_
        | refine wpL_v rfl rfl (by decide) (OpV_sub rfl rfl rfl (by omega)) ?_
        | refine wpL_v rfl rfl (by decide) (OpV_len rfl rfl rfl) ?_
        | refine wpL_v rfl rfl (by decide) (OpV_nilCheck rfl rfl rfl) ?_
        | refine wpL_v rfl rfl (by decide) (OpV_fieldAddr rfl rfl rfl rfl) ?_
        | refine wpL_v rfl rfl (by decide) (OpV_load rfl rfl rfl) ?_
        | refine wpL_v rfl rfl (by decide) (OpV_not rfl rfl) ?_
        | refine wpL_v rfl rfl (by decide) (OpV_extract rfl rfl rfl) ?_
        | refine wpL_v rfl rfl (by decide) (OpV_pick_t rfl rfl (by first | rfl | exact decide_eq_true (by omega)) rfl) ?_
        | refine wpL_v rfl rfl (by decide) (OpV_pick_f rfl rfl (by first | rfl | exact decide_eq_false (by omega)) rfl) ?_
        | refine wpL_v rfl rfl (by decide) (OpV_build rfl rfl rfl rfl) ?_
        | refine wpL_v rfl rfl (by decide) (OpV_max rfl rfl rfl) ?_
        | refine wpL_v rfl rfl (by decide) (OpV_min rfl rfl rfl) ?_
        | refine wpL_v rfl rfl (by decide) (OpV_nilptr rfl rfl rfl) ?_
        | refine wpL_v rfl rfl (by decide) (OpV_beq rfl rfl rfl) ?_
        | refine wpL_v rfl rfl (by decide) (OpV_bne rfl rfl rfl) ?_
        | refine wpL_v rfl rfl (by decide) (OpV_makeFunc rfl rfl) ?_
        | refine wpL_loadH 0 hG rfl rfl (by decide) rfl rfl rfl rfl ?_
        | refine wpL_loadH 1 hG rfl rfl (by decide) rfl rfl rfl rfl ?_
        | refine wpL_loadH 2 hG rfl rfl (by decide) rfl rfl rfl rfl ?_
        | refine wpL_loadH 3 hG rfl rfl (by decide) rfl rfl rfl rfl ?_
        | refine wpL_loadH 4 hG rfl rfl (by decide) rfl rfl rfl rfl ?_
        | refine wpL_loadH 5 hG rfl rfl (by decide) rfl rfl rfl rfl ?_
        | (refine wpL_storeH 0 hG rfl rfl rfl rfl rfl rfl rfl rfl rfl rfl rfl ?_; intro G hG)
        | (refine wpL_storeH 1 hG rfl rfl rfl rfl rfl rfl rfl rfl rfl rfl rfl ?_; intro G hG)
        | (refine wpL_storeH 2 hG rfl rfl rfl rfl rfl rfl rfl rfl rfl rfl rfl ?_; intro G hG)
        | (refine wpL_storeH 3 hG rfl rfl rfl rfl rfl rfl rfl rfl rfl rfl rfl ?_; intro G hG)
        | (refine wpL_storeH 4 hG rfl rfl rfl rfl rfl rfl rfl rfl rfl rfl rfl ?_; intro G hG)
        | (refine wpL_storeH 5 hG rfl rfl rfl rfl rfl rfl rfl rfl rfl rfl rfl ?_; intro G hG)
        | (refine wpL_allocH hG rfl rfl (by decide) rfl rfl ?_; intro id G hG)
        | (refine wpL_boxH hG rfl rfl (by decide) rfl rfl rfl ?_; intro id G hG)
        | (refine wpL_sliceH hG rfl rfl (by decide) rfl rfl rfl rfl rfl rfl rfl rfl ?_; intro id G hG)
        | refine wpL_gt rfl rfl rfl rfl rfl (by decide) (by first | rfl | exact decide_eq_true (by omega) | exact decide_eq_false (by omega) | exact ndec_t (by omega) | exact ndec_f (by omega)) ?_
        | refine wpL_gf rfl rfl rfl rfl rfl (by decide) (by first | rfl | exact decide_eq_true (by omega) | exact decide_eq_false (by omega) | exact ndec_t (by omega) | exact ndec_f (by omega)) ?_
        | refine wpA_ct rfl (by first | rfl | exact decide_eq_true (by omega) | exact ndec_t (by omega)) ?_
        | refine wpA_cf rfl (by first | rfl | exact decide_eq_false (by omega) | exact ndec_f (by omega)) ?_
        | refine wpA_skip ?_
        | refine wpA_exit ?_
        | refine wpA_ret ?_
        | refine x_then_exit ?_
        | refine x_then_ret ?_
        | refine x_then_normal ?_
        | refine x_block_ret ?_
        | refine x_block_normal ?_
        | refine x_block_exit ?_
        | refine x_block_other rfl ?_
        | refine wpL_v rfl rfl (by decide) (OpV_pick_t rfl rfl (ndec_t (by omega)) rfl) ?_
        | refine wpL_v rfl rfl (by decide) (OpV_pick_f rfl rfl (ndec_f (by omega)) rfl) ?_)
      obtain ⟨H1, e1⟩ : ∃ X, X = G ++ [some (Blk.mk (encSlot ⟨f.id, 0, 0, 0, f.h, false⟩) 40 true)] := ⟨_, rfl⟩
      have hG1 := hG.new (Blk.mk (encSlot ⟨f.id, 0, 0, 0, f.h, false⟩) 40 true)
      rw [← e1] at hG1
      obtain ⟨H2, e2⟩ : ∃ X, X = H1.set u2 none ++ [some (Blk.mk ((rawS F0).flatMap encSlot ++ encSlot ⟨f.id, 0, 0, 0, f.h, false⟩) 40 true)] := ⟨_, rfl⟩
      have hG2 := hG1.grow (k := 4) rfl (Blk.mk ((rawS F0).flatMap encSlot ++ encSlot ⟨f.id, 0, 0, 0, f.h, false⟩) 40 true)
      rw [← e2] at hG2
      obtain ⟨H3, e3⟩ : ∃ X, X = H2.set p (some (Blk.mk (pageC width height s2 (slotsN l a height (k + 1)).length H1.length (F0.length + 1) 0 0) 31 true)) := ⟨_, rfl⟩
      have hG3 := hG2.set (k := 2) rfl (Blk.mk (pageC width height s2 (slotsN l a height (k + 1)).length H1.length (F0.length + 1) 0 0) 31 true)
      rw [← e3] at hG3
      refine wpA_yL [H1, H2, H3] H3 mixed (by decide +kernel) (N := 3) (by decide +kernel) rfl ?_
      repeat (first
        | refine Y_v rfl rfl rfl (by decide) (fun _ => OpV_index_tr rfl rfl rfl (by omega) (by exact hpp)) ?_
        | refine Y_v rfl rfl rfl (by decide) (fun _ => OpV_index_tr rfl rfl rfl (by omega) (feet_spot hf)) ?_
        | refine Y_v rfl rfl rfl (by decide) (fun _ => OpV_load rfl rfl rfl) ?_
        | refine Y_r2 0 (by decide +kernel) (by decide +kernel) rfl rfl rfl rfl rfl (by decide) (OpV_load_at rfl rfl (hG.get 1 _ _ rfl) rfl) (OpV_load_at rfl rfl (hG1.get 2 _ _ rfl) rfl) ?_
        | refine Y_w 0 (by decide +kernel) rfl rfl rfl rfl (by decide) (OpW_buildSlice rfl rfl rfl rfl rfl rfl rfl rfl) e1 ?_
        | refine Y_w 1 (by decide +kernel) rfl rfl rfl rfl (by decide) (OpW_append rfl rfl rfl rfl (hG1.cellsOf (k := 0) rfl rfl) rfl (appendA_at (hG1.get 4 _ _ rfl) rfl rfl (by rw [c4]; exact Nat.beq_refl _)) (by omega) (by omega)) e2 ?_
        | refine Y_s 2 (by decide +kernel) rfl rfl rfl rfl (OpS_store_at rfl rfl rfl (hG2.get 2 _ _ rfl) rfl rfl rfl rfl rfl) e3 ?_
        | refine Y_v rfl rfl rfl (by decide) (fun _ => OpV_cmp rfl rfl rfl (congrArg some (decide_eq_true (by omega)))) ?_
        | refine Y_v rfl rfl rfl (by decide) (fun _ => OpV_cmp rfl rfl rfl (congrArg some (decide_eq_false (by omega)))) ?_
        | refine Y_v rfl rfl rfl (by decide) (fun _ => OpV_cmp rfl rfl rfl (congrArg some (ndec_t (by omega)))) ?_
        | refine Y_v rfl rfl rfl (by decide) (fun _ => OpV_cmp rfl rfl rfl (congrArg some (ndec_f (by omega)))) ?_
        | refine Y_v rfl rfl rfl (by decide) (fun _ => OpV_move rfl rfl) ?_
        | refine Y_v rfl rfl rfl (by decide) (fun _ => OpV_assign rfl rfl) ?_
        | refine Y_v rfl rfl rfl (by decide) (fun _ => OpV_cmp rfl rfl rfl rfl) ?_
        | refine Y_v rfl rfl rfl (by decide) (fun _ => OpV_add rfl rfl rfl (by omega)) ?_
        | refine Y_v rfl rfl rfl (by decide) (fun _ => OpV_sub rfl rfl rfl (by omega)) ?_
        | refine Y_v rfl rfl rfl (by decide) (fun _ => OpV_len rfl rfl rfl) ?_
        | refine Y_v rfl rfl rfl (by decide) (fun _ => OpV_nilCheck rfl rfl rfl) ?_
        | refine Y_v rfl rfl rfl (by decide) (fun _ => OpV_fieldAddr rfl rfl rfl rfl) ?_
        | refine Y_v rfl rfl rfl (by decide) (fun _ => OpV_load rfl rfl rfl) ?_
        | refine Y_v rfl rfl rfl (by decide) (fun _ => OpV_not rfl rfl) ?_
        | refine Y_v rfl rfl rfl (by decide) (fun _ => OpV_extract rfl rfl rfl) ?_
        | refine Y_v rfl rfl rfl (by decide) (fun _ => OpV_build rfl rfl rfl rfl) ?_
        | refine Y_v rfl rfl rfl (by decide) (fun _ => OpV_max rfl rfl rfl) ?_
        | refine Y_v rfl rfl rfl (by decide) (fun _ => OpV_min rfl rfl rfl) ?_
        | refine Y_v rfl rfl rfl (by decide) (fun _ => OpV_beq rfl rfl rfl) ?_
        | refine Y_v rfl rfl rfl (by decide) (fun _ => OpV_bne rfl rfl rfl) ?_
        | refine Y_v rfl rfl rfl (by decide) (fun _ => OpV_pick_t rfl rfl (by first | rfl | exact decide_eq_true (by omega) | exact ndec_t (by omega)) rfl) ?_
        | refine Y_v rfl rfl rfl (by decide) (fun _ => OpV_pick_f rfl rfl (by first | rfl | exact decide_eq_false (by omega) | exact ndec_f (by omega)) rfl) ?_
        | refine Y_gv (fun _ => OpV_cmp rfl rfl rfl (congrArg some (decide_eq_true (by omega)))) rfl (by decide) rfl rfl rfl rfl (by decide) ?_
        | refine Y_gv (fun _ => OpV_cmp rfl rfl rfl (congrArg some (decide_eq_false (by omega)))) rfl (by decide) rfl rfl rfl rfl (by decide) ?_
        | refine Y_gv (fun _ => OpV_cmp rfl rfl rfl (congrArg some (ndec_t (by omega)))) rfl (by decide) rfl rfl rfl rfl (by decide) ?_
        | refine Y_gv (fun _ => OpV_cmp rfl rfl rfl (congrArg some (ndec_f (by omega)))) rfl (by decide) rfl rfl rfl rfl (by decide) ?_
        | refine Y_gv (fun _ => OpV_move rfl rfl) rfl (by decide) rfl rfl rfl rfl (by decide) ?_
        | refine Y_gv (fun _ => OpV_assign rfl rfl) rfl (by decide) rfl rfl rfl rfl (by decide) ?_
        | refine Y_gv (fun _ => OpV_cmp rfl rfl rfl rfl) rfl (by decide) rfl rfl rfl rfl (by decide) ?_
        | refine Y_gv (fun _ => OpV_add rfl rfl rfl (by omega)) rfl (by decide) rfl rfl rfl rfl (by decide) ?_
        | refine Y_gv (fun _ => OpV_sub rfl rfl rfl (by omega)) rfl (by decide) rfl rfl rfl rfl (by decide) ?_
        | refine Y_gv (fun _ => OpV_len rfl rfl rfl) rfl (by decide) rfl rfl rfl rfl (by decide) ?_
        | refine Y_gv (fun _ => OpV_nilCheck rfl rfl rfl) rfl (by decide) rfl rfl rfl rfl (by decide) ?_
        | refine Y_gv (fun _ => OpV_fieldAddr rfl rfl rfl rfl) rfl (by decide) rfl rfl rfl rfl (by decide) ?_
        | refine Y_gv (fun _ => OpV_load rfl rfl rfl) rfl (by decide) rfl rfl rfl rfl (by decide) ?_
        | refine Y_gv (fun _ => OpV_not rfl rfl) rfl (by decide) rfl rfl rfl rfl (by decide) ?_
        | refine Y_gv (fun _ => OpV_extract rfl rfl rfl) rfl (by decide) rfl rfl rfl rfl (by decide) ?_
        | refine Y_gv (fun _ => OpV_build rfl rfl rfl rfl) rfl (by decide) rfl rfl rfl rfl (by decide) ?_
        | refine Y_gv (fun _ => OpV_max rfl rfl rfl) rfl (by decide) rfl rfl rfl rfl (by decide) ?_
        | refine Y_gv (fun _ => OpV_min rfl rfl rfl) rfl (by decide) rfl rfl rfl rfl (by decide) ?_
        | refine Y_gv (fun _ => OpV_beq rfl rfl rfl) rfl (by decide) rfl rfl rfl rfl (by decide) ?_
        | refine Y_gv (fun _ => OpV_bne rfl rfl rfl) rfl (by decide) rfl rfl rfl rfl (by decide) ?_
        | refine Y_gv (fun _ => OpV_pick_t rfl rfl (by first | rfl | exact decide_eq_true (by omega) | exact ndec_t (by omega)) rfl) rfl (by decide) rfl rfl rfl rfl (by decide) ?_
        | refine Y_gv (fun _ => OpV_pick_f rfl rfl (by first | rfl | exact decide_eq_false (by omega) | exact ndec_f (by omega)) rfl) rfl (by decide) rfl rfl rfl rfl (by decide) ?_
        | refine Y_gn rfl (by decide) rfl rfl rfl rfl rfl (by decide) ?_
        | refine Y_end ?_)
      have hG := hG3.pick (L' := [(r, ⟨zeroC, 31, true⟩), (p, ⟨pageC width height s2 (slotsN l a height (k + 1)).length H1.length (F0.length + 1) 0 0, 31, true⟩), (s2, ⟨(slotsN l a height (k + 1)).flatMap encSlot, 40, true⟩), (H1.length, ⟨(rawS F0).flatMap encSlot ++ encSlot ⟨f.id, 0, 0, 0, f.h, false⟩, 40, true⟩)]) [1, 2, 3, 4] (by decide) rfl
      repeat (first
        | refine wpL_end ?_
        | refine wpL_nil ?_
        | refine wpA_seq ?_
        | refine wpA_region ?_
        | refine wpA_block ?_
        | refine wpL_v rfl rfl (by decide) (OpV_move rfl rfl) ?_
        | refine wpL_v rfl rfl (by decide) (OpV_assign rfl rfl) ?_
        | refine wpL_v rfl rfl (by decide) (OpV_cmp rfl rfl rfl rfl) ?_
        | refine wpL_v rfl rfl (by decide) (OpV_add rfl rfl rfl (by omega)) ?_
        | refine wpL_v rfl rfl (by decide) (OpV_sub rfl rfl rfl (by omega)) ?_
        | refine wpL_v rfl rfl (by decide) (OpV_len rfl rfl rfl) ?_
        | refine wpL_v rfl rfl (by decide) (OpV_nilCheck rfl rfl rfl) ?_
        | refine wpL_v rfl rfl (by decide) (OpV_fieldAddr rfl rfl rfl rfl) ?_
        | refine wpL_v rfl rfl (by decide) (OpV_load rfl rfl rfl) ?_
        | refine wpL_v rfl rfl (by decide) (OpV_not rfl rfl) ?_
        | refine wpL_v rfl rfl (by decide) (OpV_extract rfl rfl rfl) ?_
        | refine wpL_v rfl rfl (by decide) (OpV_pick_t rfl rfl (by first | rfl | exact decide_eq_true (by omega)) rfl) ?_
        | refine wpL_v rfl rfl (by decide) (OpV_pick_f rfl rfl (by first | rfl | exact decide_eq_false (by omega)) rfl) ?_
        | refine wpL_v rfl rfl (by decide) (OpV_build rfl rfl rfl rfl) ?_
        | refine wpL_v rfl rfl (by decide) (OpV_max rfl rfl rfl) ?_
        | refine wpL_v rfl rfl (by decide) (OpV_min rfl rfl rfl) ?_
        | refine wpL_v rfl rfl (by decide) (OpV_nilptr rfl rfl rfl) ?_
        | refine wpL_v rfl rfl (by decide) (OpV_beq rfl rfl rfl) ?_
        | refine wpL_v rfl rfl (by decide) (OpV_bne rfl rfl rfl) ?_
        | refine wpL_v rfl rfl (by decide) (OpV_makeFunc rfl rfl) ?_
        | refine wpL_loadH 0 hG rfl rfl (by decide) rfl rfl rfl rfl ?_
        | refine wpL_loadH 1 hG rfl rfl (by decide) rfl rfl rfl rfl ?_
        | refine wpL_loadH 2 hG rfl rfl (by decide) rfl rfl rfl rfl ?_
        | refine wpL_loadH 3 hG rfl rfl (by decide) rfl rfl rfl rfl ?_
        | refine wpL_loadH 4 hG rfl rfl (by decide) rfl rfl rfl rfl ?_
        | refine wpL_loadH 5 hG rfl rfl (by decide) rfl rfl rfl rfl ?_
        | (refine wpL_storeH 0 hG rfl rfl rfl rfl rfl rfl rfl rfl rfl rfl rfl ?_; intro G hG)
        | (refine wpL_storeH 1 hG rfl rfl rfl rfl rfl rfl rfl rfl rfl rfl rfl ?_; intro G hG)
        | (refine wpL_storeH 2 hG rfl rfl rfl rfl rfl rfl rfl rfl rfl rfl rfl ?_; intro G hG)
        | (refine wpL_storeH 3 hG rfl rfl rfl rfl rfl rfl rfl rfl rfl rfl rfl ?_; intro G hG)
        | (refine wpL_storeH 4 hG rfl rfl rfl rfl rfl rfl rfl rfl rfl rfl rfl ?_; intro G hG)
        | (refine wpL_storeH 5 hG rfl rfl rfl rfl rfl rfl rfl rfl rfl rfl rfl ?_; intro G hG)
        | (refine wpL_allocH hG rfl rfl (by decide) rfl rfl ?_; intro id G hG)
        | (refine wpL_boxH hG rfl rfl (by decide) rfl rfl rfl ?_; intro id G hG)
        | (refine wpL_sliceH hG rfl rfl (by decide) rfl rfl rfl rfl rfl rfl rfl rfl ?_; intro id G hG)
        | refine wpL_gt rfl rfl rfl rfl rfl (by decide) (by first | rfl | exact decide_eq_true (by omega) | exact decide_eq_false (by omega) | exact ndec_t (by omega) | exact ndec_f (by omega)) ?_
        | refine wpL_gf rfl rfl rfl rfl rfl (by decide) (by first | rfl | exact decide_eq_true (by omega) | exact decide_eq_false (by omega) | exact ndec_t (by omega) | exact ndec_f (by omega)) ?_
        | refine wpA_ct rfl (by first | rfl | exact decide_eq_true (by omega) | exact ndec_t (by omega)) ?_
        | refine wpA_cf rfl (by first | rfl | exact decide_eq_false (by omega) | exact ndec_f (by omega)) ?_
        | refine wpA_skip ?_
        | refine wpA_exit ?_
        | refine wpA_ret ?_
        | refine x_then_exit ?_
        | refine x_then_ret ?_
        | refine x_then_normal ?_
        | refine x_block_ret ?_
        | refine x_block_normal ?_
        | refine x_block_exit ?_
        | refine x_block_other rfl ?_
        | refine wpL_v rfl rfl (by decide) (OpV_pick_t rfl rfl (ndec_t (by omega)) rfl) ?_
        | refine wpL_v rfl rfl (by decide) (OpV_pick_f rfl rfl (ndec_f (by omega)) rfl) ?_)
      refine ⟨(j + 1, H1.length), by dsimp only; omega, ?_, by dsimp only; omega, ?_⟩
      · dsimp only
        rw [m7]
        exact .cons rfl (.cons rfl (.cons rfl (.cons rfl (.cons rfl (.cons rfl (.cons rfl (.cons rfl (.cons rfl (.cons rfl (.nil _))))))))))
      · dsimp only
        rw [m8, m9]
        exact hG
    · have hj' : j = (pg l (a + k)).feet.length := by omega
      subst hj'
      rw [List.take_length] at hG ⊢
      rw [show feetN l a k ++ (pg l (a + k)).feet = feetN l a (k + 1) from rfl] at hG ⊢
      repeat (first
        | refine wpL_end ?_
        | refine wpL_nil ?_
        | refine wpA_seq ?_
        | refine wpA_region ?_
        | refine wpA_block ?_
        | refine wpL_v rfl rfl (by decide) (OpV_index_tr rfl rfl rfl (by omega) (by exact hpp)) ?_
        | refine wpL_v rfl rfl (by decide) (OpV_move rfl rfl) ?_
        | refine wpL_v rfl rfl (by decide) (OpV_assign rfl rfl) ?_
        | refine wpL_v rfl rfl (by decide) (OpV_cmp rfl rfl rfl rfl) ?_
        | refine wpL_v rfl rfl (by decide) (OpV_add rfl rfl rfl (by omega)) ?_
        | refine wpL_v rfl rfl (by decide) (OpV_sub rfl rfl rfl (by omega)) ?_
        | refine wpL_v rfl rfl (by decide) (OpV_len rfl rfl rfl) ?_
        | refine wpL_v rfl rfl (by decide) (OpV_nilCheck rfl rfl rfl) ?_
        | refine wpL_v rfl rfl (by decide) (OpV_fieldAddr rfl rfl rfl rfl) ?_
        | refine wpL_v rfl rfl (by decide) (OpV_load rfl rfl rfl) ?_
        | refine wpL_v rfl rfl (by decide) (OpV_not rfl rfl) ?_
        | refine wpL_v rfl rfl (by decide) (OpV_extract rfl rfl rfl) ?_
        | refine wpL_v rfl rfl (by decide) (OpV_pick_t rfl rfl (by first | rfl | exact decide_eq_true (by omega)) rfl) ?_
        | refine wpL_v rfl rfl (by decide) (OpV_pick_f rfl rfl (by first | rfl | exact decide_eq_false (by omega)) rfl) ?_
        | refine wpL_v rfl rfl (by decide) (OpV_build rfl rfl rfl rfl) ?_
        | refine wpL_v rfl rfl (by decide) (OpV_max rfl rfl rfl) ?_
        | refine wpL_v rfl rfl (by decide) (OpV_min rfl rfl rfl) ?_
        | refine wpL_v rfl rfl (by decide) (OpV_nilptr rfl rfl rfl) ?_
        | refine wpL_v rfl rfl (by decide) (OpV_beq rfl rfl rfl) ?_
        | refine wpL_v rfl rfl (by decide) (OpV_bne rfl rfl rfl) ?_
        | refine wpL_v rfl rfl (by decide) (OpV_makeFunc rfl rfl) ?_
        | refine wpL_loadH 0 hG rfl rfl (by decide) rfl rfl rfl rfl ?_
        | refine wpL_loadH 1 hG rfl rfl (by decide) rfl rfl rfl rfl ?_
        | refine wpL_loadH 2 hG rfl rfl (by decide) rfl rfl rfl rfl ?_
        | refine wpL_loadH 3 hG rfl rfl (by decide) rfl rfl rfl rfl ?_
        | refine wpL_loadH 4 hG rfl rfl (by decide) rfl rfl rfl rfl ?_
        | refine wpL_loadH 5 hG rfl rfl (by decide) rfl rfl rfl rfl ?_
        | (refine wpL_storeH 0 hG rfl rfl rfl rfl rfl rfl rfl rfl rfl rfl rfl ?_; intro G hG)
        | (refine wpL_storeH 1 hG rfl rfl rfl rfl rfl rfl rfl rfl rfl rfl rfl ?_; intro G hG)
        | (refine wpL_storeH 2 hG rfl rfl rfl rfl rfl rfl rfl rfl rfl rfl rfl ?_; intro G hG)
        | (refine wpL_storeH 3 hG rfl rfl rfl rfl rfl rfl rfl rfl rfl rfl rfl ?_; intro G hG)
        | (refine wpL_storeH 4 hG rfl rfl rfl rfl rfl rfl rfl rfl rfl rfl rfl ?_; intro G hG)
        | (refine wpL_storeH 5 hG rfl rfl rfl rfl rfl rfl rfl rfl rfl rfl rfl ?_; intro G hG)
        | (refine wpL_allocH hG rfl rfl (by decide) rfl rfl ?_; intro id G hG)
        | (refine wpL_boxH hG rfl rfl (by decide) rfl rfl rfl ?_; intro id G hG)
        | (refine wpL_sliceH hG rfl rfl (by decide) rfl rfl rfl rfl rfl rfl rfl rfl ?_; intro id G hG)
        | refine wpL_gt rfl rfl rfl rfl rfl (by decide) (by first | rfl | exact decide_eq_true (by omega) | exact decide_eq_false (by omega) | exact ndec_t (by omega) | exact ndec_f (by omega)) ?_
        | refine wpL_gf rfl rfl rfl rfl rfl (by decide) (by first | rfl | exact decide_eq_true (by omega) | exact decide_eq_false (by omega) | exact ndec_t (by omega) | exact ndec_f (by omega)) ?_
        | refine wpA_ct rfl (by first | rfl | exact decide_eq_true (by omega) | exact ndec_t (by omega)) ?_
        | refine wpA_cf rfl (by first | rfl | exact decide_eq_false (by omega) | exact ndec_f (by omega)) ?_
        | refine wpA_skip ?_
        | refine wpA_exit ?_
        | refine wpA_ret ?_
        | refine x_then_exit ?_
        | refine x_then_ret ?_
        | refine x_then_normal ?_
        | refine x_block_ret ?_
        | refine x_block_normal ?_
        | refine x_block_exit ?_
        | refine x_block_other rfl ?_
        | refine wpL_v rfl rfl (by decide) (OpV_pick_t rfl rfl (ndec_t (by omega)) rfl) ?_
        | refine wpL_v rfl rfl (by decide) (OpV_pick_f rfl rfl (ndec_f (by omega)) rfl) ?_)
      exact ⟨(k + 1, s2, u2), by dsimp only; omega, .cons rfl (.cons rfl (.cons rfl (.cons rfl (.cons rfl (.cons rfl (.cons rfl (.cons rfl (.cons rfl (.nil _))))))))), by dsimp only; omega, hG⟩
  · have hk' : k = n := by omega
    subst hk'
    repeat (first
      | refine wpL_end ?_
      | refine wpL_nil ?_
      | refine wpA_seq ?_
      | refine wpA_region ?_
      | refine wpA_block ?_
      | refine wpL_v rfl rfl (by decide) (OpV_move rfl rfl) ?_
      | refine wpL_v rfl rfl (by decide) (OpV_assign rfl rfl) ?_
      | refine wpL_v rfl rfl (by decide) (OpV_cmp rfl rfl rfl rfl) ?_
      | refine wpL_v rfl rfl (by decide) (OpV_add rfl rfl rfl (by omega)) ?_
      | refine wpL_v rfl rfl (by decide) (OpV_sub rfl rfl rfl (by omega)) ?_
      | refine wpL_v rfl rfl (by decide) (OpV_len rfl rfl rfl) ?_
      | refine wpL_v rfl rfl (by decide) (OpV_nilCheck rfl rfl rfl) ?_
      | refine wpL_v rfl rfl (by decide) (OpV_fieldAddr rfl rfl rfl rfl) ?_
      | refine wpL_v rfl rfl (by decide) (OpV_load rfl rfl rfl) ?_
      | refine wpL_v rfl rfl (by decide) (OpV_not rfl rfl) ?_
      | refine wpL_v rfl rfl (by decide) (OpV_extract rfl rfl rfl) ?_
      | refine wpL_v rfl rfl (by decide) (OpV_pick_t rfl rfl (by first | rfl | exact decide_eq_true (by omega)) rfl) ?_
      | refine wpL_v rfl rfl (by decide) (OpV_pick_f rfl rfl (by first | rfl | exact decide_eq_false (by omega)) rfl) ?_
      | refine wpL_v rfl rfl (by decide) (OpV_build rfl rfl rfl rfl) ?_
      | refine wpL_v rfl rfl (by decide) (OpV_max rfl rfl rfl) ?_
      | refine wpL_v rfl rfl (by decide) (OpV_min rfl rfl rfl) ?_
      | refine wpL_v rfl rfl (by decide) (OpV_nilptr rfl rfl rfl) ?_
      | refine wpL_v rfl rfl (by decide) (OpV_beq rfl rfl rfl) ?_
      | refine wpL_v rfl rfl (by decide) (OpV_bne rfl rfl rfl) ?_
      | refine wpL_v rfl rfl (by decide) (OpV_makeFunc rfl rfl) ?_
      | refine wpL_loadH 0 hG rfl rfl (by decide) rfl rfl rfl rfl ?_
      | refine wpL_loadH 1 hG rfl rfl (by decide) rfl rfl rfl rfl ?_
      | refine wpL_loadH 2 hG rfl rfl (by decide) rfl rfl rfl rfl ?_
      | refine wpL_loadH 3 hG rfl rfl (by decide) rfl rfl rfl rfl ?_
      | refine wpL_loadH 4 hG rfl rfl (by decide) rfl rfl rfl rfl ?_
      | refine wpL_loadH 5 hG rfl rfl (by decide) rfl rfl rfl rfl ?_
      | (refine wpL_storeH 0 hG rfl rfl rfl rfl rfl rfl rfl rfl rfl rfl rfl ?_; intro G hG)
      | (refine wpL_storeH 1 hG rfl rfl rfl rfl rfl rfl rfl rfl rfl rfl rfl ?_; intro G hG)
      | (refine wpL_storeH 2 hG rfl rfl rfl rfl rfl rfl rfl rfl rfl rfl rfl ?_; intro G hG)
      | (refine wpL_storeH 3 hG rfl rfl rfl rfl rfl rfl rfl rfl rfl rfl rfl ?_; intro G hG)
      | (refine wpL_storeH 4 hG rfl rfl rfl rfl rfl rfl rfl rfl rfl rfl rfl ?_; intro G hG)
      | (refine wpL_storeH 5 hG rfl rfl rfl rfl rfl rfl rfl rfl rfl rfl rfl ?_; intro G hG)
      | (refine wpL_allocH hG rfl rfl (by decide) rfl rfl ?_; intro id G hG)
      | (refine wpL_boxH hG rfl rfl (by decide) rfl rfl rfl ?_; intro id G hG)
      | (refine wpL_sliceH hG rfl rfl (by decide) rfl rfl rfl rfl rfl rfl rfl rfl ?_; intro id G hG)
      | refine wpL_gt rfl rfl rfl rfl rfl (by decide) (by first | rfl | exact decide_eq_true (by omega) | exact decide_eq_false (by omega) | exact ndec_t (by omega) | exact ndec_f (by omega)) ?_
      | refine wpL_gf rfl rfl rfl rfl rfl (by decide) (by first | rfl | exact decide_eq_true (by omega) | exact decide_eq_false (by omega) | exact ndec_t (by omega) | exact ndec_f (by omega)) ?_
      | refine wpA_ct rfl (by first | rfl | exact decide_eq_true (by omega) | exact ndec_t (by omega)) ?_
      | refine wpA_cf rfl (by first | rfl | exact decide_eq_false (by omega) | exact ndec_f (by omega)) ?_
      | refine wpA_skip ?_
      | refine wpA_exit ?_
      | refine wpA_ret ?_
      | refine x_then_exit ?_
      | refine x_then_ret ?_
      | refine x_then_normal ?_
      | refine x_block_ret ?_
      | refine x_block_normal ?_
      | refine x_block_exit ?_
      | refine x_block_other rfl ?_
      | refine wpL_v rfl rfl (by decide) (OpV_pick_t rfl rfl (ndec_t (by omega)) rfl) ?_
      | refine wpL_v rfl rfl (by decide) (OpV_pick_f rfl rfl (ndec_f (by omega)) rfl) ?_)
    obtain ⟨b1, b2⟩ := bottom0_cases (yB l a height k) height (feetN l a k)
    have e21 : bottom0 (yB l a height k) height (feetN l a k) = if 0 < (feetN l a k).length then max (yB l a height k + 120) (height - sumFeet (feetN l a k)) else yB l a height k := rfl
    have e22 : encPage (placeF l a k width height) = [I 0, I 0, .v (.string .empty), I width, I height, slotsP (slotsN l a height k), slotsP (footSlots (bottom0 (yB l a height k) height (feetN l a k)) (feetN l a k)), I (yB l a height k), I (max 0 (bottom0 (yB l a height k) height (feetN l a k) + sumFeet (feetN l a k) - height))] := rfl
    rw [e22]
    generalize bottom0 (yB l a height k) height (feetN l a k) = b0 at b1 b2 e21
    refine wpA_cut2 (S := Unit) (fun _ => [(0, pcs l), (4, I height), (10, .ptr r 0), (11, .ptr p 0), (12, I b0)])
      (fun _ G => Has G [(r, ⟨zeroC, 31, true⟩), (p, ⟨pageC width height s1 (slotsN l a height k).length u1 (feetN l a k).length (yB l a height k) 0, 31, true⟩), (s1, ⟨(slotsN l a height k).flatMap encSlot, 40, true⟩), (u1, ⟨(rawS (feetN l a k)).flatMap encSlot, 40, true⟩)]) ?_ ?_
    · by_cases h0 : 0 < (feetN l a k).length
      · rw [if_pos h0] at e21
        rw [e21]
        repeat (first
          | refine wpL_end ?_
          | refine wpL_nil ?_
          | refine wpA_seq ?_
          | refine wpA_region ?_
          | refine wpA_block ?_
          | refine wpL_v rfl rfl (by decide) (OpV_move rfl rfl) ?_
          | refine wpL_v rfl rfl (by decide) (OpV_assign rfl rfl) ?_
          | refine wpL_v rfl rfl (by decide) (OpV_cmp rfl rfl rfl rfl) ?_
          | refine wpL_v rfl rfl (by decide) (OpV_add rfl rfl rfl (by omega)) ?_
          | refine wpL_v rfl rfl (by decide) (OpV_sub rfl rfl rfl (by omega)) ?_
          | refine wpL_v rfl rfl (by decide) (OpV_len rfl rfl rfl) ?_
          | refine wpL_v rfl rfl (by decide) (OpV_nilCheck rfl rfl rfl) ?_
          | refine wpL_v rfl rfl (by decide) (OpV_fieldAddr rfl rfl rfl rfl) ?_
          | refine wpL_v rfl rfl (by decide) (OpV_load rfl rfl rfl) ?_
          | refine wpL_v rfl rfl (by decide) (OpV_not rfl rfl) ?_
          | refine wpL_v rfl rfl (by decide) (OpV_extract rfl rfl rfl) ?_
          | refine wpL_v rfl rfl (by decide) (OpV_pick_t rfl rfl (by first | rfl | exact decide_eq_true (by omega)) rfl) ?_
          | refine wpL_v rfl rfl (by decide) (OpV_pick_f rfl rfl (by first | rfl | exact decide_eq_false (by omega)) rfl) ?_
          | refine wpL_v rfl rfl (by decide) (OpV_build rfl rfl rfl rfl) ?_
          | refine wpL_v rfl rfl (by decide) (OpV_max rfl rfl rfl) ?_
          | refine wpL_v rfl rfl (by decide) (OpV_min rfl rfl rfl) ?_
          | refine wpL_v rfl rfl (by decide) (OpV_nilptr rfl rfl rfl) ?_
          | refine wpL_v rfl rfl (by decide) (OpV_beq rfl rfl rfl) ?_
          | refine wpL_v rfl rfl (by decide) (OpV_bne rfl rfl rfl) ?_
          | refine wpL_v rfl rfl (by decide) (OpV_makeFunc rfl rfl) ?_
          | refine wpL_loadH 0 hG rfl rfl (by decide) rfl rfl rfl rfl ?_
          | refine wpL_loadH 1 hG rfl rfl (by decide) rfl rfl rfl rfl ?_
          | refine wpL_loadH 2 hG rfl rfl (by decide) rfl rfl rfl rfl ?_
          | refine wpL_loadH 3 hG rfl rfl (by decide) rfl rfl rfl rfl ?_
          | refine wpL_loadH 4 hG rfl rfl (by decide) rfl rfl rfl rfl ?_
          | refine wpL_loadH 5 hG rfl rfl (by decide) rfl rfl rfl rfl ?_
          | (refine wpL_storeH 0 hG rfl rfl rfl rfl rfl rfl rfl rfl rfl rfl rfl ?_; intro G hG)
          | (refine wpL_storeH 1 hG rfl rfl rfl rfl rfl rfl rfl rfl rfl rfl rfl ?_; intro G hG)
          | (refine wpL_storeH 2 hG rfl rfl rfl rfl rfl rfl rfl rfl rfl rfl rfl ?_; intro G hG)
          | (refine wpL_storeH 3 hG rfl rfl rfl rfl rfl rfl rfl rfl rfl rfl rfl ?_; intro G hG)
          | (refine wpL_storeH 4 hG rfl rfl rfl rfl rfl rfl rfl rfl rfl rfl rfl ?_; intro G hG)
          | (refine wpL_storeH 5 hG rfl rfl rfl rfl rfl rfl rfl rfl rfl rfl rfl ?_; intro G hG)
          | (refine wpL_allocH hG rfl rfl (by decide) rfl rfl ?_; intro id G hG)
          | (refine wpL_boxH hG rfl rfl (by decide) rfl rfl rfl ?_; intro id G hG)
          | (refine wpL_sliceH hG rfl rfl (by decide) rfl rfl rfl rfl rfl rfl rfl rfl ?_; intro id G hG)
          | refine wpL_gt rfl rfl rfl rfl rfl (by decide) (by first | rfl | exact decide_eq_true (by omega) | exact decide_eq_false (by omega) | exact ndec_t (by omega) | exact ndec_f (by omega)) ?_
          | refine wpL_gf rfl rfl rfl rfl rfl (by decide) (by first | rfl | exact decide_eq_true (by omega) | exact decide_eq_false (by omega) | exact ndec_t (by omega) | exact ndec_f (by omega)) ?_
          | refine wpA_ct rfl (by first | rfl | exact decide_eq_true (by omega) | exact ndec_t (by omega)) ?_
          | refine wpA_cf rfl (by first | rfl | exact decide_eq_false (by omega) | exact ndec_f (by omega)) ?_
          | refine wpA_skip ?_
          | refine wpA_exit ?_
          | refine wpA_ret ?_
          | refine x_then_exit ?_
          | refine x_then_ret ?_
          | refine x_then_normal ?_
          | refine x_block_ret ?_
          | refine x_block_normal ?_
          | refine x_block_exit ?_
          | refine x_block_other rfl ?_
          | refine wpL_v rfl rfl (by decide) (OpV_pick_t rfl rfl (ndec_t (by omega)) rfl) ?_
          | refine wpL_v rfl rfl (by decide) (OpV_pick_f rfl rfl (ndec_f (by omega)) rfl) ?_)
        exact ⟨(), .cons rfl (.cons rfl (.cons rfl (.cons rfl (.cons rfl (.nil _))))), hG⟩
      · rw [if_neg h0] at e21
        rw [e21]
        repeat (first
          | refine wpL_end ?_
          | refine wpL_nil ?_
          | refine wpA_seq ?_
          | refine wpA_region ?_
          | refine wpA_block ?_
          | refine wpL_v rfl rfl (by decide) (OpV_move rfl rfl) ?_
          | refine wpL_v rfl rfl (by decide) (OpV_assign rfl rfl) ?_
          | refine wpL_v rfl rfl (by decide) (OpV_cmp rfl rfl rfl rfl) ?_
          | refine wpL_v rfl rfl (by decide) (OpV_add rfl rfl rfl (by omega)) ?_
          | refine wpL_v rfl rfl (by decide) (OpV_sub rfl rfl rfl (by omega)) ?_
          | refine wpL_v rfl rfl (by decide) (OpV_len rfl rfl rfl) ?_
          | refine wpL_v rfl rfl (by decide) (OpV_nilCheck rfl rfl rfl) ?_
          | refine wpL_v rfl rfl (by decide) (OpV_fieldAddr rfl rfl rfl rfl) ?_
          | refine wpL_v rfl rfl (by decide) (OpV_load rfl rfl rfl) ?_
          | refine wpL_v rfl rfl (by decide) (OpV_not rfl rfl) ?_
          | refine wpL_v rfl rfl (by decide) (OpV_extract rfl rfl rfl) ?_
          | refine wpL_v rfl rfl (by decide) (OpV_pick_t rfl rfl (by first | rfl | exact decide_eq_true (by omega)) rfl) ?_
          | refine wpL_v rfl rfl (by decide) (OpV_pick_f rfl rfl (by first | rfl | exact decide_eq_false (by omega)) rfl) ?_
          | refine wpL_v rfl rfl (by decide) (OpV_build rfl rfl rfl rfl) ?_
          | refine wpL_v rfl rfl (by decide) (OpV_max rfl rfl rfl) ?_
          | refine wpL_v rfl rfl (by decide) (OpV_min rfl rfl rfl) ?_
          | refine wpL_v rfl rfl (by decide) (OpV_nilptr rfl rfl rfl) ?_
          | refine wpL_v rfl rfl (by decide) (OpV_beq rfl rfl rfl) ?_
          | refine wpL_v rfl rfl (by decide) (OpV_bne rfl rfl rfl) ?_
          | refine wpL_v rfl rfl (by decide) (OpV_makeFunc rfl rfl) ?_
          | refine wpL_loadH 0 hG rfl rfl (by decide) rfl rfl rfl rfl ?_
          | refine wpL_loadH 1 hG rfl rfl (by decide) rfl rfl rfl rfl ?_
          | refine wpL_loadH 2 hG rfl rfl (by decide) rfl rfl rfl rfl ?_
          | refine wpL_loadH 3 hG rfl rfl (by decide) rfl rfl rfl rfl ?_
          | refine wpL_loadH 4 hG rfl rfl (by decide) rfl rfl rfl rfl ?_
          | refine wpL_loadH 5 hG rfl rfl (by decide) rfl rfl rfl rfl ?_
          | (refine wpL_storeH 0 hG rfl rfl rfl rfl rfl rfl rfl rfl rfl rfl rfl ?_; intro G hG)
          | (refine wpL_storeH 1 hG rfl rfl rfl rfl rfl rfl rfl rfl rfl rfl rfl ?_; intro G hG)
          | (refine wpL_storeH 2 hG rfl rfl rfl rfl rfl rfl rfl rfl rfl rfl rfl ?_; intro G hG)
          | (refine wpL_storeH 3 hG rfl rfl rfl rfl rfl rfl rfl rfl rfl rfl rfl ?_; intro G hG)
          | (refine wpL_storeH 4 hG rfl rfl rfl rfl rfl rfl rfl rfl rfl rfl rfl ?_; intro G hG)
          | (refine wpL_storeH 5 hG rfl rfl rfl rfl rfl rfl rfl rfl rfl rfl rfl ?_; intro G hG)
          | (refine wpL_allocH hG rfl rfl (by decide) rfl rfl ?_; intro id G hG)
          | (refine wpL_boxH hG rfl rfl (by decide) rfl rfl rfl ?_; intro id G hG)
          | (refine wpL_sliceH hG rfl rfl (by decide) rfl rfl rfl rfl rfl rfl rfl rfl ?_; intro id G hG)
          | refine wpL_gt rfl rfl rfl rfl rfl (by decide) (by first | rfl | exact decide_eq_true (by omega) | exact decide_eq_false (by omega) | exact ndec_t (by omega) | exact ndec_f (by omega)) ?_
          | refine wpL_gf rfl rfl rfl rfl rfl (by decide) (by first | rfl | exact decide_eq_true (by omega) | exact decide_eq_false (by omega) | exact ndec_t (by omega) | exact ndec_f (by omega)) ?_
          | refine wpA_ct rfl (by first | rfl | exact decide_eq_true (by omega) | exact ndec_t (by omega)) ?_
          | refine wpA_cf rfl (by first | rfl | exact decide_eq_false (by omega) | exact ndec_f (by omega)) ?_
          | refine wpA_skip ?_
          | refine wpA_exit ?_
          | refine wpA_ret ?_
          | refine x_then_exit ?_
          | refine x_then_ret ?_
          | refine x_then_normal ?_
          | refine x_block_ret ?_
          | refine x_block_normal ?_
          | refine x_block_exit ?_
          | refine x_block_other rfl ?_
          | refine wpL_v rfl rfl (by decide) (OpV_pick_t rfl rfl (ndec_t (by omega)) rfl) ?_
          | refine wpL_v rfl rfl (by decide) (OpV_pick_f rfl rfl (ndec_f (by omega)) rfl) ?_)
        exact ⟨(), .cons rfl (.cons rfl (.cons rfl (.cons rfl (.cons rfl (.nil _))))), hG⟩
    rintro ⟨⟩ G hG
    clear e21 e22
    rw [← midS_zero b0] at hG
    have z0 : b0 + sumFeet ((feetN l a k).take 0) = b0 := by simp [sumFeet]
    repeat (first
      | refine wpL_end ?_
      | refine wpL_nil ?_
      | refine wpA_seq ?_
      | refine wpA_region ?_
      | refine wpA_block ?_
      | refine wpL_v rfl rfl (by decide) (OpV_move rfl rfl) ?_
      | refine wpL_v rfl rfl (by decide) (OpV_assign rfl rfl) ?_
      | refine wpL_v rfl rfl (by decide) (OpV_cmp rfl rfl rfl rfl) ?_
      | refine wpL_v rfl rfl (by decide) (OpV_add rfl rfl rfl (by omega)) ?_
      | refine wpL_v rfl rfl (by decide) (OpV_sub rfl rfl rfl (by omega)) ?_
      | refine wpL_v rfl rfl (by decide) (OpV_len rfl rfl rfl) ?_
      | refine wpL_v rfl rfl (by decide) (OpV_nilCheck rfl rfl rfl) ?_
      | refine wpL_v rfl rfl (by decide) (OpV_fieldAddr rfl rfl rfl rfl) ?_
      | refine wpL_v rfl rfl (by decide) (OpV_load rfl rfl rfl) ?_
      | refine wpL_v rfl rfl (by decide) (OpV_not rfl rfl) ?_
      | refine wpL_v rfl rfl (by decide) (OpV_extract rfl rfl rfl) ?_
      | refine wpL_v rfl rfl (by decide) (OpV_pick_t rfl rfl (by first | rfl | exact decide_eq_true (by omega)) rfl) ?_
      | refine wpL_v rfl rfl (by decide) (OpV_pick_f rfl rfl (by first | rfl | exact decide_eq_false (by omega)) rfl) ?_
      | refine wpL_v rfl rfl (by decide) (OpV_build rfl rfl rfl rfl) ?_
      | refine wpL_v rfl rfl (by decide) (OpV_max rfl rfl rfl) ?_
      | refine wpL_v rfl rfl (by decide) (OpV_min rfl rfl rfl) ?_
      | refine wpL_v rfl rfl (by decide) (OpV_nilptr rfl rfl rfl) ?_
      | refine wpL_v rfl rfl (by decide) (OpV_beq rfl rfl rfl) ?_
      | refine wpL_v rfl rfl (by decide) (OpV_bne rfl rfl rfl) ?_
      | refine wpL_v rfl rfl (by decide) (OpV_makeFunc rfl rfl) ?_
      | refine wpL_loadH 0 hG rfl rfl (by decide) rfl rfl rfl rfl ?_
      | refine wpL_loadH 1 hG rfl rfl (by decide) rfl rfl rfl rfl ?_
      | refine wpL_loadH 2 hG rfl rfl (by decide) rfl rfl rfl rfl ?_
      | refine wpL_loadH 3 hG rfl rfl (by decide) rfl rfl rfl rfl ?_
      | refine wpL_loadH 4 hG rfl rfl (by decide) rfl rfl rfl rfl ?_
      | refine wpL_loadH 5 hG rfl rfl (by decide) rfl rfl rfl rfl ?_
      | (refine wpL_storeH 0 hG rfl rfl rfl rfl rfl rfl rfl rfl rfl rfl rfl ?_; intro G hG)
      | (refine wpL_storeH 1 hG rfl rfl rfl rfl rfl rfl rfl rfl rfl rfl rfl ?_; intro G hG)
      | (refine wpL_storeH 2 hG rfl rfl rfl rfl rfl rfl rfl rfl rfl rfl rfl ?_; intro G hG)
      | (refine wpL_storeH 3 hG rfl rfl rfl rfl rfl rfl rfl rfl rfl rfl rfl ?_; intro G hG)
      | (refine wpL_storeH 4 hG rfl rfl rfl rfl rfl rfl rfl rfl rfl rfl rfl ?_; intro G hG)
      | (refine wpL_storeH 5 hG rfl rfl rfl rfl rfl rfl rfl rfl rfl rfl rfl ?_; intro G hG)
      | (refine wpL_allocH hG rfl rfl (by decide) rfl rfl ?_; intro id G hG)
      | (refine wpL_boxH hG rfl rfl (by decide) rfl rfl rfl ?_; intro id G hG)
      | (refine wpL_sliceH hG rfl rfl (by decide) rfl rfl rfl rfl rfl rfl rfl rfl ?_; intro id G hG)
      | refine wpL_gt rfl rfl rfl rfl rfl (by decide) (by first | rfl | exact decide_eq_true (by omega) | exact decide_eq_false (by omega) | exact ndec_t (by omega) | exact ndec_f (by omega)) ?_
      | refine wpL_gf rfl rfl rfl rfl rfl (by decide) (by first | rfl | exact decide_eq_true (by omega) | exact decide_eq_false (by omega) | exact ndec_t (by omega) | exact ndec_f (by omega)) ?_
      | refine wpA_ct rfl (by first | rfl | exact decide_eq_true (by omega) | exact ndec_t (by omega)) ?_
      | refine wpA_cf rfl (by first | rfl | exact decide_eq_false (by omega) | exact ndec_f (by omega)) ?_
      | refine wpA_skip ?_
      | refine wpA_exit ?_
      | refine wpA_ret ?_
      | refine x_then_exit ?_
      | refine x_then_ret ?_
      | refine x_then_normal ?_
      | refine x_block_ret ?_
      | refine x_block_normal ?_
      | refine x_block_exit ?_
      | refine x_block_other rfl ?_
      | refine wpL_v rfl rfl (by decide) (OpV_pick_t rfl rfl (ndec_t (by omega)) rfl) ?_
      | refine wpL_v rfl rfl (by decide) (OpV_pick_f rfl rfl (ndec_f (by omega)) rfl) ?_)
    refine wpA_loopS (S := Nat) (fun j => [(4, I height), (10, .ptr r 0), (11, .ptr p 0), (12, I (b0 + sumFeet ((feetN l a k).take j))), (16, I j)])
      (fun j G => j ≤ (feetN l a k).length ∧ Has G [(r, ⟨zeroC, 31, true⟩), (p, ⟨pageC width height s1 (slotsN l a height k).length u1 (feetN l a k).length (yB l a height k) 0, 31, true⟩), (s1, ⟨(slotsN l a height k).flatMap encSlot, 40, true⟩), (u1, ⟨midS b0 (feetN l a k) j, 40, true⟩)])
      (fun j => (feetN l a k).length - j) 0 (.cons rfl (.cons rfl (.cons rfl (.cons (by rw [z0]; rfl) (.cons rfl (.nil _)))))) ⟨by omega, hG⟩ ?_
    rintro j G ⟨hj, hG⟩
    have z1 := sumFeet_takes (feetN l a k) j n4
    by_cases hjn : j < (feetN l a k).length
    · obtain ⟨x, hx⟩ : ∃ x, (feetN l a k)[j]? = some x := ⟨_, List.getElem?_eq_getElem hjn⟩
      have x1 := (n4 x (List.mem_of_getElem? hx)).2
      have x2 := sumFeet_takes (feetN l a k) (j + 1) n4
      have x3 := sumFeet_take _ j x hx
      simp only [small] at x1
      obtain ⟨v1, v2⟩ := midS_at b0 (feetN l a k) j x hx
      have v3 : Nat.ble (0 + j * 6 + 3 + 1) (midS b0 (feetN l a k) j).length = true := by
        rw [midS_len _ _ _ hj, Nat.ble_eq]; omega
      have v4 : (midS b0 (feetN l a k) j).set (0 + j * 6 + 3) (I (b0 + sumFeet ((feetN l a k).take j))) = midS b0 (feetN l a k) (j + 1) := by rw [Nat.zero_add]; exact v1
      have v5 : takeN 1 ((midS b0 (feetN l a k) (j + 1)).drop (0 + j * 6 + 4)) = some [I x.h] := by rw [Nat.zero_add]; exact v2
      repeat (first
        | refine wpL_end ?_
        | refine wpL_nil ?_
        | refine wpA_seq ?_
        | refine wpA_region ?_
        | refine wpA_block ?_
        | refine wpL_v rfl rfl (by decide) (OpV_indexAddr rfl rfl rfl rfl rfl (by omega)) ?_
        | (refine wpL_storeH 3 hG rfl rfl rfl rfl rfl rfl rfl rfl rfl (by exact v3) (by exact v4) ?_; intro G hG)
        | refine wpL_loadH 3 hG rfl rfl (by decide) rfl rfl rfl (loadC_one rfl (by exact v5)) ?_
        | refine wpL_v rfl rfl (by decide) (OpV_move rfl rfl) ?_
        | refine wpL_v rfl rfl (by decide) (OpV_assign rfl rfl) ?_
        | refine wpL_v rfl rfl (by decide) (OpV_cmp rfl rfl rfl rfl) ?_
        | refine wpL_v rfl rfl (by decide) (OpV_add rfl rfl rfl (by omega)) ?_
        | refine wpL_v rfl rfl (by decide) (OpV_sub rfl rfl rfl (by omega)) ?_
        | refine wpL_v rfl rfl (by decide) (OpV_len rfl rfl rfl) ?_
        | refine wpL_v rfl rfl (by decide) (OpV_nilCheck rfl rfl rfl) ?_
        | refine wpL_v rfl rfl (by decide) (OpV_fieldAddr rfl rfl rfl rfl) ?_
        | refine wpL_v rfl rfl (by decide) (OpV_load rfl rfl rfl) ?_
        | refine wpL_v rfl rfl (by decide) (OpV_not rfl rfl) ?_
        | refine wpL_v rfl rfl (by decide) (OpV_extract rfl rfl rfl) ?_
        | refine wpL_v rfl rfl (by decide) (OpV_pick_t rfl rfl (by first | rfl | exact decide_eq_true (by omega)) rfl) ?_
        | refine wpL_v rfl rfl (by decide) (OpV_pick_f rfl rfl (by first | rfl | exact decide_eq_false (by omega)) rfl) ?_
        | refine wpL_v rfl rfl (by decide) (OpV_build rfl rfl rfl rfl) ?_
        | refine wpL_v rfl rfl (by decide) (OpV_max rfl rfl rfl) ?_
        | refine wpL_v rfl rfl (by decide) (OpV_min rfl rfl rfl) ?_
        | refine wpL_v rfl rfl (by decide) (OpV_nilptr rfl rfl rfl) ?_
        | refine wpL_v rfl rfl (by decide) (OpV_beq rfl rfl rfl) ?_
        | refine wpL_v rfl rfl (by decide) (OpV_bne rfl rfl rfl) ?_
        | refine wpL_v rfl rfl (by decide) (OpV_makeFunc rfl rfl) ?_
        | refine wpL_loadH 0 hG rfl rfl (by decide) rfl rfl rfl rfl ?_
        | refine wpL_loadH 1 hG rfl rfl (by decide) rfl rfl rfl rfl ?_
        | refine wpL_loadH 2 hG rfl rfl (by decide) rfl rfl rfl rfl ?_
        | refine wpL_loadH 3 hG rfl rfl (by decide) rfl rfl rfl rfl ?_
        | refine wpL_loadH 4 hG rfl rfl (by decide) rfl rfl rfl rfl ?_
        | refine wpL_loadH 5 hG rfl rfl (by decide) rfl rfl rfl rfl ?_
        | (refine wpL_storeH 0 hG rfl rfl rfl rfl rfl rfl rfl rfl rfl rfl rfl ?_; intro G hG)
        | (refine wpL_storeH 1 hG rfl rfl rfl rfl rfl rfl rfl rfl rfl rfl rfl ?_; intro G hG)
        | (refine wpL_storeH 2 hG rfl rfl rfl rfl rfl rfl rfl rfl rfl rfl rfl ?_; intro G hG)
        | (refine wpL_storeH 3 hG rfl rfl rfl rfl rfl rfl rfl rfl rfl rfl rfl ?_; intro G hG)
        | (refine wpL_storeH 4 hG rfl rfl rfl rfl rfl rfl rfl rfl rfl rfl rfl ?_; intro G hG)
        | (refine wpL_storeH 5 hG rfl rfl rfl rfl rfl rfl rfl rfl rfl rfl rfl ?_; intro G hG)
        | (refine wpL_allocH hG rfl rfl (by decide) rfl rfl ?_; intro id G hG)
        | (refine wpL_boxH hG rfl rfl (by decide) rfl rfl rfl ?_; intro id G hG)
        | (refine wpL_sliceH hG rfl rfl (by decide) rfl rfl rfl rfl rfl rfl rfl rfl ?_; intro id G hG)
        | refine wpL_gt rfl rfl rfl rfl rfl (by decide) (by first | rfl | exact decide_eq_true (by omega) | exact decide_eq_false (by omega) | exact ndec_t (by omega) | exact ndec_f (by omega)) ?_
        | refine wpL_gf rfl rfl rfl rfl rfl (by decide) (by first | rfl | exact decide_eq_true (by omega) | exact decide_eq_false (by omega) | exact ndec_t (by omega) | exact ndec_f (by omega)) ?_
        | refine wpA_ct rfl (by first | rfl | exact decide_eq_true (by omega) | exact ndec_t (by omega)) ?_
        | refine wpA_cf rfl (by first | rfl | exact decide_eq_false (by omega) | exact ndec_f (by omega)) ?_
        | refine wpA_skip ?_
        | refine wpA_exit ?_
        | refine wpA_ret ?_
        | refine x_then_exit ?_
        | refine x_then_ret ?_
        | refine x_then_normal ?_
        | refine x_block_ret ?_
        | refine x_block_normal ?_
        | refine x_block_exit ?_
        | refine x_block_other rfl ?_
        | refine wpL_v rfl rfl (by decide) (OpV_pick_t rfl rfl (ndec_t (by omega)) rfl) ?_
        | refine wpL_v rfl rfl (by decide) (OpV_pick_f rfl rfl (ndec_f (by omega)) rfl) ?_)
      refine ⟨j + 1, by omega, ?_, by omega, hG⟩
      rw [show b0 + sumFeet ((feetN l a k).take (j + 1)) = b0 + sumFeet ((feetN l a k).take j) + x.h by omega]
      exact .cons rfl (.cons rfl (.cons rfl (.cons rfl (.cons rfl (.nil _)))))
    · have hj' : j = (feetN l a k).length := by omega
      subst hj'
      rw [midS_end] at hG
      rw [List.take_length]
      have c1 : ((slotsN l a height k).flatMap encSlot).length = (slotsN l a height k).length * 6 := flat_len encSlot_len _
      have c4 : ((footSlots b0 (feetN l a k)).flatMap encSlot).length = (feetN l a k).length * 6 := by rw [flat_len encSlot_len, footSlots_len]
      have hmx : max 0 (b0 + sumFeet (feetN l a k) - height) = max (b0 + sumFeet (feetN l a k) - height) 0 := by omega
      rw [hmx]
      repeat (first
        | refine wpL_end ?_
        | refine wpL_nil ?_
        | refine wpA_seq ?_
        | refine wpA_region ?_
        | refine wpA_block ?_
        | refine wpL_v rfl rfl (by decide) (OpV_move rfl rfl) ?_
        | refine wpL_v rfl rfl (by decide) (OpV_assign rfl rfl) ?_
        | refine wpL_v rfl rfl (by decide) (OpV_cmp rfl rfl rfl rfl) ?_
        | refine wpL_v rfl rfl (by decide) (OpV_add rfl rfl rfl (by omega)) ?_
        | refine wpL_v rfl rfl (by decide) (OpV_sub rfl rfl rfl (by omega)) ?_
        | refine wpL_v rfl rfl (by decide) (OpV_len rfl rfl rfl) ?_
        | refine wpL_v rfl rfl (by decide) (OpV_nilCheck rfl rfl rfl) ?_
        | refine wpL_v rfl rfl (by decide) (OpV_fieldAddr rfl rfl rfl rfl) ?_
        | refine wpL_v rfl rfl (by decide) (OpV_load rfl rfl rfl) ?_
        | refine wpL_v rfl rfl (by decide) (OpV_not rfl rfl) ?_
        | refine wpL_v rfl rfl (by decide) (OpV_extract rfl rfl rfl) ?_
        | refine wpL_v rfl rfl (by decide) (OpV_pick_t rfl rfl (by first | rfl | exact decide_eq_true (by omega)) rfl) ?_
        | refine wpL_v rfl rfl (by decide) (OpV_pick_f rfl rfl (by first | rfl | exact decide_eq_false (by omega)) rfl) ?_
        | refine wpL_v rfl rfl (by decide) (OpV_build rfl rfl rfl rfl) ?_
        | refine wpL_v rfl rfl (by decide) (OpV_max rfl rfl rfl) ?_
        | refine wpL_v rfl rfl (by decide) (OpV_min rfl rfl rfl) ?_
        | refine wpL_v rfl rfl (by decide) (OpV_nilptr rfl rfl rfl) ?_
        | refine wpL_v rfl rfl (by decide) (OpV_beq rfl rfl rfl) ?_
        | refine wpL_v rfl rfl (by decide) (OpV_bne rfl rfl rfl) ?_
        | refine wpL_v rfl rfl (by decide) (OpV_makeFunc rfl rfl) ?_
        | refine wpL_loadH 0 hG rfl rfl (by decide) rfl rfl rfl rfl ?_
        | refine wpL_loadH 1 hG rfl rfl (by decide) rfl rfl rfl rfl ?_
        | refine wpL_loadH 2 hG rfl rfl (by decide) rfl rfl rfl rfl ?_
        | refine wpL_loadH 3 hG rfl rfl (by decide) rfl rfl rfl rfl ?_
        | refine wpL_loadH 4 hG rfl rfl (by decide) rfl rfl rfl rfl ?_
        | refine wpL_loadH 5 hG rfl rfl (by decide) rfl rfl rfl rfl ?_
        | (refine wpL_storeH 0 hG rfl rfl rfl rfl rfl rfl rfl rfl rfl rfl rfl ?_; intro G hG)
        | (refine wpL_storeH 1 hG rfl rfl rfl rfl rfl rfl rfl rfl rfl rfl rfl ?_; intro G hG)
        | (refine wpL_storeH 2 hG rfl rfl rfl rfl rfl rfl rfl rfl rfl rfl rfl ?_; intro G hG)
        | (refine wpL_storeH 3 hG rfl rfl rfl rfl rfl rfl rfl rfl rfl rfl rfl ?_; intro G hG)
        | (refine wpL_storeH 4 hG rfl rfl rfl rfl rfl rfl rfl rfl rfl rfl rfl ?_; intro G hG)
        | (refine wpL_storeH 5 hG rfl rfl rfl rfl rfl rfl rfl rfl rfl rfl rfl ?_; intro G hG)
        | (refine wpL_allocH hG rfl rfl (by decide) rfl rfl ?_; intro id G hG)
        | (refine wpL_boxH hG rfl rfl (by decide) rfl rfl rfl ?_; intro id G hG)
        | (refine wpL_sliceH hG rfl rfl (by decide) rfl rfl rfl rfl rfl rfl rfl rfl ?_; intro id G hG)
        | refine wpL_gt rfl rfl rfl rfl rfl (by decide) (by first | rfl | exact decide_eq_true (by omega) | exact decide_eq_false (by omega) | exact ndec_t (by omega) | exact ndec_f (by omega)) ?_
        | refine wpL_gf rfl rfl rfl rfl rfl (by decide) (by first | rfl | exact decide_eq_true (by omega) | exact decide_eq_false (by omega) | exact ndec_t (by omega) | exact ndec_f (by omega)) ?_
        | refine wpA_ct rfl (by first | rfl | exact decide_eq_true (by omega) | exact ndec_t (by omega)) ?_
        | refine wpA_cf rfl (by first | rfl | exact decide_eq_false (by omega) | exact ndec_f (by omega)) ?_
        | refine wpA_skip ?_
        | refine wpA_exit ?_
        | refine wpA_ret ?_
        | refine x_then_exit ?_
        | refine x_then_ret ?_
        | refine x_then_normal ?_
        | refine x_block_ret ?_
        | refine x_block_normal ?_
        | refine x_block_exit ?_
        | refine x_block_other rfl ?_
        | refine wpL_v rfl rfl (by decide) (OpV_pick_t rfl rfl (ndec_t (by omega)) rfl) ?_
        | refine wpL_v rfl rfl (by decide) (OpV_pick_f rfl rfl (ndec_f (by omega)) rfl) ?_)
      exact postI_c rfl rfl ((loadA_at (hG.get 0 _ _ rfl)).trans rfl)
        (ConvL.agg (.cons (.refl _) (.cons (.refl _) (.cons (.refl _) (.cons (.refl _) (.cons (.refl _) (.cons (.own hG (k := 2) rfl c1) (.cons (.own hG (k := 3) rfl c4) (.cons (.refl _) (.cons (.refl _) .nil))))))))))
        (by have := Tree.agg (tree_encPage ⟨width, height, slotsN l a height k, footSlots b0 (feetN l a k), yB l a height k, max (b0 + sumFeet (feetN l a k) - height) 0⟩); simp only [encPage, slotsP, footSlots_len] at this; exact this) (by simp only [slotsP, footSlots_len]; rfl)
end Go.Proofs.Ytpkeceifnmmhcaa
