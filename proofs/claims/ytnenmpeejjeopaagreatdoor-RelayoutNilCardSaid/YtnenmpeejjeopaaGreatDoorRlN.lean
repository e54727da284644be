/- The walk of lines. -/
import Derived.Test.YtnenmpeejjeopaaGreatDoorRlM
namespace Go.Proofs.YtnenmpeejjeopaaGreatDoor
open Go.RowKit Go.Th
set_option linter.unusedVariables false
set_option maxRecDepth 20000

def lp (hs : List Int) (i : Nat) : Piece := ⟨0, 0, i, 0, 0, hs.getD i 0, 0, 0, 0, [], false, false⟩
def linesK (hs : List Int) (k : Nat) : List Piece := (List.range k).map (lp hs)
theorem linesK_succ (hs : List Int) (k : Nat) : linesK hs (k + 1) = linesK hs k ++ [lp hs k] := by simp [linesK, List.range_succ]
theorem linesK_len (hs : List Int) (k : Nat) : (linesK hs k).length = k := by simp [linesK]
theorem linesK_feet (hs : List Int) (k : Nat) : ∀ p ∈ linesK hs k, p.feet = [] := fun p hp => by
  obtain ⟨i, _, rfl⟩ := List.mem_map.1 hp
  rfl

set_option maxHeartbeats 4000000 in
theorem lines_iso (hs : List Int) (hl : hs.length ≤ 1000) : Iso Tryz.prog 18 [intsP hs] (fun p => p = pcs (linesK hs hs.length)) := by
  have hG := has_nil
  refine Iso_enter Tryz.func18 rfl rfl rfl ?_
  repeat (first | refine wpL_end ?_ | refine wpL_nil ?_ | refine wpA_seq ?_ | refine wpA_region ?_ | refine wpA_block ?_ | refine wpL_v rfl rfl (by decide) (OpV_cmp rfl rfl rfl (congrArg some (decide_eq_true (by omega)))) ?_ | refine wpL_v rfl rfl (by decide) (OpV_cmp rfl rfl rfl (congrArg some (decide_eq_false (by omega)))) ?_ | refine wpL_v rfl rfl (by decide) (OpV_cmp rfl rfl rfl (congrArg some (ndec_t (by omega)))) ?_ | refine wpL_v rfl rfl (by decide) (OpV_cmp rfl rfl rfl (congrArg some (ndec_f (by omega)))) ?_ | refine wpL_v rfl rfl (by decide) (OpV_move rfl rfl) ?_ | refine wpL_v rfl rfl (by decide) (OpV_assign rfl rfl) ?_ | refine wpL_v rfl rfl (by decide) (OpV_cmp rfl rfl rfl rfl) ?_ | refine wpL_v rfl rfl (by decide) (OpV_add rfl rfl rfl (by omega)) ?_ | refine wpL_v rfl rfl (by decide) (OpV_len rfl rfl rfl) ?_ | refine wpL_v rfl rfl (by decide) (OpV_load rfl rfl rfl) ?_ | refine wpL_v rfl rfl (by decide) (OpV_build rfl rfl rfl rfl) ?_ | refine wpL_loadH 0 hG rfl rfl (by decide) rfl rfl rfl rfl ?_ | refine wpL_loadH 1 hG rfl rfl (by decide) rfl rfl rfl rfl ?_ | refine wpL_loadH 2 hG rfl rfl (by decide) rfl rfl rfl rfl ?_ | refine wpL_loadH 3 hG rfl rfl (by decide) rfl rfl rfl rfl ?_ | refine wpL_loadH 4 hG rfl rfl (by decide) rfl rfl rfl rfl ?_ | refine wpL_loadH 5 hG rfl rfl (by decide) rfl rfl rfl rfl ?_ | (refine wpL_sliceH hG rfl rfl (by decide) rfl rfl rfl rfl rfl rfl rfl rfl ?_; intro id G hG) | refine wpA_ct rfl (by first | rfl | exact decide_eq_true (by omega) | exact ndec_t (by omega)) ?_ | refine wpA_cf rfl (by first | rfl | exact decide_eq_false (by omega) | exact ndec_f (by omega)) ?_ | refine wpA_skip ?_ | refine wpA_exit ?_ | refine wpA_ret ?_ | refine x_then_exit ?_ | refine x_then_ret ?_ | refine x_then_normal ?_ | refine x_block_ret ?_ | refine x_block_normal ?_ | refine x_block_exit ?_ | refine x_block_other rfl ?_)
  refine wpA_ghostH 3 93 12 hG rfl ?_
  intro o0 G hG
  refine wpA_loopS (S := Nat × Nat) (fun x => [(0, intsP hs), (3, .sl x.2 0 x.1 12), (4, I x.1)])
    (fun x G => x.1 ≤ hs.length ∧ Has G [(x.2, Blk.mk ((linesK hs x.1).flatMap encNil) 93 true)]) (fun x => hs.length - x.1) (0, o0)
    (.cons rfl (.cons rfl (.cons rfl (.nil _)))) ⟨by simp, hG⟩ ?_
  rintro ⟨k, o⟩ G ⟨hk, hG⟩
  dsimp only at hk hG ⊢
  have c1 : ((linesK hs k).flatMap encNil).length = k * 12 := by rw [flat_len (f := encNil) (k := 12) (fun _ => rfl), linesK_len]
  by_cases hkl : k < hs.length
  · have hx := getD_some hkl
    repeat (first | refine wpL_end ?_ | refine wpL_nil ?_ | refine wpA_seq ?_ | refine wpA_region ?_ | refine wpA_block ?_ | refine wpL_v rfl rfl (by decide) (OpV_index_tr (cells := hs.map I) rfl rfl rfl (by omega) (by exact int_spot hx)) ?_ | (refine wpL_appendH 1 hG rfl rfl (by decide) rfl rfl rfl rfl rfl rfl (by exact c1) rfl (hG.cellsOf (k := 0) rfl rfl) rfl (by omega) (by omega) ?_; intro o2 G hG) | refine wpL_v rfl rfl (by decide) (OpV_cmp rfl rfl rfl (congrArg some (decide_eq_true (by omega)))) ?_ | refine wpL_v rfl rfl (by decide) (OpV_cmp rfl rfl rfl (congrArg some (decide_eq_false (by omega)))) ?_ | refine wpL_v rfl rfl (by decide) (OpV_cmp rfl rfl rfl (congrArg some (ndec_t (by omega)))) ?_ | refine wpL_v rfl rfl (by decide) (OpV_cmp rfl rfl rfl (congrArg some (ndec_f (by omega)))) ?_ | refine wpL_v rfl rfl (by decide) (OpV_move rfl rfl) ?_ | refine wpL_v rfl rfl (by decide) (OpV_assign rfl rfl) ?_ | refine wpL_v rfl rfl (by decide) (OpV_cmp rfl rfl rfl rfl) ?_ | refine wpL_v rfl rfl (by decide) (OpV_add rfl rfl rfl (by omega)) ?_ | refine wpL_v rfl rfl (by decide) (OpV_len rfl rfl rfl) ?_ | refine wpL_v rfl rfl (by decide) (OpV_load rfl rfl rfl) ?_ | refine wpL_v rfl rfl (by decide) (OpV_build rfl rfl rfl rfl) ?_ | refine wpL_loadH 0 hG rfl rfl (by decide) rfl rfl rfl rfl ?_ | refine wpL_loadH 1 hG rfl rfl (by decide) rfl rfl rfl rfl ?_ | refine wpL_loadH 2 hG rfl rfl (by decide) rfl rfl rfl rfl ?_ | refine wpL_loadH 3 hG rfl rfl (by decide) rfl rfl rfl rfl ?_ | refine wpL_loadH 4 hG rfl rfl (by decide) rfl rfl rfl rfl ?_ | refine wpL_loadH 5 hG rfl rfl (by decide) rfl rfl rfl rfl ?_ | (refine wpL_sliceH hG rfl rfl (by decide) rfl rfl rfl rfl rfl rfl rfl rfl ?_; intro id G hG) | refine wpA_ct rfl (by first | rfl | exact decide_eq_true (by omega) | exact ndec_t (by omega)) ?_ | refine wpA_cf rfl (by first | rfl | exact decide_eq_false (by omega) | exact ndec_f (by omega)) ?_ | refine wpA_skip ?_ | refine wpA_exit ?_ | refine wpA_ret ?_ | refine x_then_exit ?_ | refine x_then_ret ?_ | refine x_then_normal ?_ | refine x_block_ret ?_ | refine x_block_normal ?_ | refine x_block_exit ?_ | refine x_block_other rfl ?_)
    refine ⟨(k + 1, o2), by dsimp only; omega, .cons rfl (.cons rfl (.cons rfl (.nil _))), by dsimp only; omega, ?_⟩
    dsimp only
    rw [linesK_succ, List.flatMap_append]
    exact hG.pick [1] (by decide) rfl
  · have hk' : k = hs.length := by omega
    subst hk'
    refine wpA_altC 0 hG rfl (wk_nil _ (linesK_feet hs hs.length)) ?_
    intro G hG
    have c2 : ((linesK hs hs.length).flatMap encPiece).length = hs.length * 12 := by rw [flat_len encPiece_len, linesK_len]
    repeat (first | refine wpL_end ?_ | refine wpL_nil ?_ | refine wpA_seq ?_ | refine wpA_region ?_ | refine wpA_block ?_ | refine wpL_v rfl rfl (by decide) (OpV_cmp rfl rfl rfl (congrArg some (decide_eq_true (by omega)))) ?_ | refine wpL_v rfl rfl (by decide) (OpV_cmp rfl rfl rfl (congrArg some (decide_eq_false (by omega)))) ?_ | refine wpL_v rfl rfl (by decide) (OpV_cmp rfl rfl rfl (congrArg some (ndec_t (by omega)))) ?_ | refine wpL_v rfl rfl (by decide) (OpV_cmp rfl rfl rfl (congrArg some (ndec_f (by omega)))) ?_ | refine wpL_v rfl rfl (by decide) (OpV_move rfl rfl) ?_ | refine wpL_v rfl rfl (by decide) (OpV_assign rfl rfl) ?_ | refine wpL_v rfl rfl (by decide) (OpV_cmp rfl rfl rfl rfl) ?_ | refine wpL_v rfl rfl (by decide) (OpV_add rfl rfl rfl (by omega)) ?_ | refine wpL_v rfl rfl (by decide) (OpV_len rfl rfl rfl) ?_ | refine wpL_v rfl rfl (by decide) (OpV_load rfl rfl rfl) ?_ | refine wpL_v rfl rfl (by decide) (OpV_build rfl rfl rfl rfl) ?_ | refine wpL_loadH 0 hG rfl rfl (by decide) rfl rfl rfl rfl ?_ | refine wpL_loadH 1 hG rfl rfl (by decide) rfl rfl rfl rfl ?_ | refine wpL_loadH 2 hG rfl rfl (by decide) rfl rfl rfl rfl ?_ | refine wpL_loadH 3 hG rfl rfl (by decide) rfl rfl rfl rfl ?_ | refine wpL_loadH 4 hG rfl rfl (by decide) rfl rfl rfl rfl ?_ | refine wpL_loadH 5 hG rfl rfl (by decide) rfl rfl rfl rfl ?_ | (refine wpL_sliceH hG rfl rfl (by decide) rfl rfl rfl rfl rfl rfl rfl rfl ?_; intro id G hG) | refine wpA_ct rfl (by first | rfl | exact decide_eq_true (by omega) | exact ndec_t (by omega)) ?_ | refine wpA_cf rfl (by first | rfl | exact decide_eq_false (by omega) | exact ndec_f (by omega)) ?_ | refine wpA_skip ?_ | refine wpA_exit ?_ | refine wpA_ret ?_ | refine x_then_exit ?_ | refine x_then_ret ?_ | refine x_then_normal ?_ | refine x_block_ret ?_ | refine x_block_normal ?_ | refine x_block_exit ?_ | refine x_block_other rfl ?_)
    refine postI_1 rfl rfl (.own hG (k := 0) rfl c2) ?_ ?_
    · have := tree_pcs (linesK hs hs.length)
      simp only [pcs, linesK_len] at this
      exact this
    · simp only [pcs, linesK_len]
end Go.Proofs.YtnenmpeejjeopaaGreatDoor
