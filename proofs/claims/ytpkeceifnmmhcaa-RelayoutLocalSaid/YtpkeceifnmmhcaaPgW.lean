/- The model's need and repeat. -/
import Derived.Test.YtpkeceifnmmhcaaPgT
import Derived.Test.YtpkeceifnmmhcaaThC
namespace Go.Proofs.Ytpkeceifnmmhcaa
open Go.RowKit Go.Th
set_option linter.unusedVariables false
set_option maxRecDepth 20000

def gapB (l : List Piece) : Nat → Int
  | 0 => 0
  | i + 1 => (pg l i).after + (pg l (i + 1)).before
/-- What the first i pieces need, without the gap above the feet. -/
def nd (l : List Piece) : Nat → Int
  | 0 => 0
  | i + 1 => nd l i + (pg l i).height + gapB l i + sumFeet (pg l i).feet
def gp : Nat → Int
  | 0 => 0
  | _ + 1 => 120

theorem gapB_le {l : List Piece} (h : allOk l) {i : Nat} (hi : i < l.length) : 0 ≤ gapB l i ∧ gapB l i ≤ 2200000000 := by
  cases i with
  | zero => simp [gapB]
  | succ i =>
    have h1 := (ok_pg h hi).before
    have h2 := (ok_pg h (show i < l.length by omega)).after
    simp only [small] at h1 h2
    simp only [gapB]; omega

theorem nd_le {l : List Piece} (h : allOk l) (i : Nat) (hi : i ≤ l.length) : 0 ≤ nd l i ∧ nd l i ≤ 10000000000 * i := by
  induction i with
  | zero => simp [nd]
  | succ i ih =>
    have ih := ih (by omega)
    have hp := ok_pg h (show i < l.length by omega)
    have h1 := hp.height
    have h2 := sumFeet_take_le _ (pg l i).feet.length hp.foot hp.feet
    rw [List.take_length] at h2
    have h3 := gapB_le h (show i < l.length by omega)
    simp only [small] at h1
    simp only [nd]; omega

theorem gp_eq (n : Nat) : gp n = 0 ∨ gp n = 120 := by cases n <;> simp [gp]
theorem gp_pos {n : Nat} (h : 0 < n) : gp n = 120 := by cases n <;> simp_all [gp]

set_option maxHeartbeats 4000000 in
theorem need_iso (l : List Piece) (hl : allOk l) : Iso Try.prog 44 [pcs l] (fun p => p = I (nd l l.length + gp (feetN l 0 l.length).length)) := by
  have hlen := hl.1
  have hG := has_nil
  refine Iso_enter Try.func44 rfl rfl rfl ?_
  repeat (first | refine wpL_end ?_ | refine wpL_nil ?_ | refine wpA_seq ?_ | refine wpA_region ?_ | refine wpA_block ?_ | refine wpL_v rfl rfl (by decide) (OpV_cmp rfl rfl rfl (congrArg some (decide_eq_true (by omega)))) ?_ | refine wpL_v rfl rfl (by decide) (OpV_cmp rfl rfl rfl (congrArg some (decide_eq_false (by omega)))) ?_ | refine wpL_v rfl rfl (by decide) (OpV_cmp rfl rfl rfl (congrArg some (ndec_t (by omega)))) ?_ | refine wpL_v rfl rfl (by decide) (OpV_cmp rfl rfl rfl (congrArg some (ndec_f (by omega)))) ?_ | refine wpL_v rfl rfl (by decide) (OpV_move rfl rfl) ?_ | refine wpL_v rfl rfl (by decide) (OpV_assign rfl rfl) ?_ | refine wpL_v rfl rfl (by decide) (OpV_cmp rfl rfl rfl rfl) ?_ | refine wpL_v rfl rfl (by decide) (OpV_add rfl rfl rfl (by omega)) ?_ | refine wpL_v rfl rfl (by decide) (OpV_sub rfl rfl rfl (by omega)) ?_ | refine wpL_v rfl rfl (by decide) (OpV_len rfl rfl rfl) ?_ | refine wpL_v rfl rfl (by decide) (OpV_fieldAddr rfl rfl rfl rfl) ?_ | refine wpL_v rfl rfl (by decide) (OpV_load rfl rfl rfl) ?_ | refine wpL_loadH 0 hG rfl rfl (by decide) rfl rfl rfl rfl ?_ | refine wpL_loadH 1 hG rfl rfl (by decide) rfl rfl rfl rfl ?_ | refine wpL_loadH 2 hG rfl rfl (by decide) rfl rfl rfl rfl ?_ | refine wpL_loadH 3 hG rfl rfl (by decide) rfl rfl rfl rfl ?_ | refine wpL_loadH 4 hG rfl rfl (by decide) rfl rfl rfl rfl ?_ | refine wpL_loadH 5 hG rfl rfl (by decide) rfl rfl rfl rfl ?_ | refine wpA_ct rfl (by first | rfl | exact decide_eq_true (by omega) | exact ndec_t (by omega)) ?_ | refine wpA_cf rfl (by first | rfl | exact decide_eq_false (by omega) | exact ndec_f (by omega)) ?_ | refine wpA_skip ?_ | refine wpA_exit ?_ | refine wpA_ret ?_ | refine x_then_exit ?_ | refine x_then_ret ?_ | refine x_then_normal ?_ | refine x_block_ret ?_ | refine x_block_normal ?_ | refine x_block_exit ?_ | refine x_block_other rfl ?_)
  refine wpA_loopS (S := Nat) (fun i => [(0, pcs l), (3, I (nd l i)), (4, I (gp (feetN l 0 i).length)), (5, I i)])
    (fun i G => i ≤ l.length) (fun i => l.length - i) 0
    (.cons rfl (.cons rfl (.cons rfl (.cons rfl (.nil _))))) (by omega) ?_
  rintro i G hi
  have hG := Has.nil G
  have n1 := nd_le hl i hi
  have n2 := gp_eq (feetN l 0 i).length
  by_cases hil : i < l.length
  · have hpi := pcs_spot (pg_some hil)
    have hp := ok_pg hl hil
    have n3 := hp.height
    have n4 := gapB_le hl hil
    simp only [small] at n3
    have hfl := hp.feet
    repeat (first | refine wpL_end ?_ | refine wpL_nil ?_ | refine wpA_seq ?_ | refine wpA_region ?_ | refine wpA_block ?_ | refine wpL_v rfl rfl (by decide) (OpV_index_tr rfl rfl rfl (by omega) (by exact hpi)) ?_ | refine wpL_v rfl rfl (by decide) (OpV_cmp rfl rfl rfl (congrArg some (decide_eq_true (by omega)))) ?_ | refine wpL_v rfl rfl (by decide) (OpV_cmp rfl rfl rfl (congrArg some (decide_eq_false (by omega)))) ?_ | refine wpL_v rfl rfl (by decide) (OpV_cmp rfl rfl rfl (congrArg some (ndec_t (by omega)))) ?_ | refine wpL_v rfl rfl (by decide) (OpV_cmp rfl rfl rfl (congrArg some (ndec_f (by omega)))) ?_ | refine wpL_v rfl rfl (by decide) (OpV_move rfl rfl) ?_ | refine wpL_v rfl rfl (by decide) (OpV_assign rfl rfl) ?_ | refine wpL_v rfl rfl (by decide) (OpV_cmp rfl rfl rfl rfl) ?_ | refine wpL_v rfl rfl (by decide) (OpV_add rfl rfl rfl (by omega)) ?_ | refine wpL_v rfl rfl (by decide) (OpV_sub rfl rfl rfl (by omega)) ?_ | refine wpL_v rfl rfl (by decide) (OpV_len rfl rfl rfl) ?_ | refine wpL_v rfl rfl (by decide) (OpV_fieldAddr rfl rfl rfl rfl) ?_ | refine wpL_v rfl rfl (by decide) (OpV_load rfl rfl rfl) ?_ | refine wpL_loadH 0 hG rfl rfl (by decide) rfl rfl rfl rfl ?_ | refine wpL_loadH 1 hG rfl rfl (by decide) rfl rfl rfl rfl ?_ | refine wpL_loadH 2 hG rfl rfl (by decide) rfl rfl rfl rfl ?_ | refine wpL_loadH 3 hG rfl rfl (by decide) rfl rfl rfl rfl ?_ | refine wpL_loadH 4 hG rfl rfl (by decide) rfl rfl rfl rfl ?_ | refine wpL_loadH 5 hG rfl rfl (by decide) rfl rfl rfl rfl ?_ | refine wpA_ct rfl (by first | rfl | exact decide_eq_true (by omega) | exact ndec_t (by omega)) ?_ | refine wpA_cf rfl (by first | rfl | exact decide_eq_false (by omega) | exact ndec_f (by omega)) ?_ | refine wpA_skip ?_ | refine wpA_exit ?_ | refine wpA_ret ?_ | refine x_then_exit ?_ | refine x_then_ret ?_ | refine x_then_normal ?_ | refine x_block_ret ?_ | refine x_block_normal ?_ | refine x_block_exit ?_ | refine x_block_other rfl ?_)
    refine wpA_cut2 (S := Unit) (fun _ => [(0, pcs l), (3, I (nd l i + (pg l i).height + gapB l i)), (4, I (gp (feetN l 0 i).length)), (5, I i)]) (fun _ G => Has G []) ?_ ?_
    · by_cases hi0 : 0 < i
      · have hpj := pcs_spot (pg_some (show i - 1 < l.length by omega))
        have b1 := (ok_pg hl (show i - 1 < l.length by omega)).after
        have b2 := hp.before
        simp only [small] at b1 b2
        have e1 : gapB l i = (pg l (i - 1)).after + (pg l i).before := by cases i with
          | zero => omega
          | succ i => rfl
        have e2 : ((i : Int) - 1).toNat = i - 1 := by omega
        repeat (first | refine wpL_end ?_ | refine wpL_nil ?_ | refine wpA_seq ?_ | refine wpA_region ?_ | refine wpA_block ?_ | refine wpL_v rfl rfl (by decide) (OpV_cmp rfl rfl rfl (congrArg some (decide_eq_true (by omega)))) ?_ | refine wpL_v rfl rfl (by decide) (OpV_cmp rfl rfl rfl (congrArg some (decide_eq_false (by omega)))) ?_ | refine wpL_v rfl rfl (by decide) (OpV_cmp rfl rfl rfl (congrArg some (ndec_t (by omega)))) ?_ | refine wpL_v rfl rfl (by decide) (OpV_cmp rfl rfl rfl (congrArg some (ndec_f (by omega)))) ?_ | refine wpL_v rfl rfl (by decide) (OpV_move rfl rfl) ?_ | refine wpL_v rfl rfl (by decide) (OpV_assign rfl rfl) ?_ | refine wpL_v rfl rfl (by decide) (OpV_cmp rfl rfl rfl rfl) ?_ | refine wpL_v rfl rfl (by decide) (OpV_add rfl rfl rfl (by omega)) ?_ | refine wpL_v rfl rfl (by decide) (OpV_sub rfl rfl rfl (by omega)) ?_ | refine wpL_v rfl rfl (by decide) (OpV_len rfl rfl rfl) ?_ | refine wpL_v rfl rfl (by decide) (OpV_fieldAddr rfl rfl rfl rfl) ?_ | refine wpL_v rfl rfl (by decide) (OpV_load rfl rfl rfl) ?_ | refine wpL_loadH 0 hG rfl rfl (by decide) rfl rfl rfl rfl ?_ | refine wpL_loadH 1 hG rfl rfl (by decide) rfl rfl rfl rfl ?_ | refine wpL_loadH 2 hG rfl rfl (by decide) rfl rfl rfl rfl ?_ | refine wpL_loadH 3 hG rfl rfl (by decide) rfl rfl rfl rfl ?_ | refine wpL_loadH 4 hG rfl rfl (by decide) rfl rfl rfl rfl ?_ | refine wpL_loadH 5 hG rfl rfl (by decide) rfl rfl rfl rfl ?_ | refine wpA_ct rfl (by first | rfl | exact decide_eq_true (by omega) | exact ndec_t (by omega)) ?_ | refine wpA_cf rfl (by first | rfl | exact decide_eq_false (by omega) | exact ndec_f (by omega)) ?_ | refine wpA_skip ?_ | refine wpA_exit ?_ | refine wpA_ret ?_ | refine x_then_exit ?_ | refine x_then_ret ?_ | refine x_then_normal ?_ | refine x_block_ret ?_ | refine x_block_normal ?_ | refine x_block_exit ?_ | refine x_block_other rfl ?_)
        refine wpA_yq mixed (by decide +kernel) ?_
        repeat (first | refine Y_q rfl rfl rfl (by decide) (OpV_index_tr rfl rfl rfl (by omega) (by exact hpi)) ?_ | refine Y_q rfl rfl rfl (by decide) (OpV_index_tr rfl rfl rfl (by omega) (by rw [e2]; exact hpj)) ?_ | refine Y_q rfl rfl rfl (by decide) (OpV_cmp rfl rfl rfl (congrArg some (decide_eq_true (by omega)))) ?_ | refine Y_q rfl rfl rfl (by decide) (OpV_cmp rfl rfl rfl (congrArg some (decide_eq_false (by omega)))) ?_ | refine Y_q rfl rfl rfl (by decide) (OpV_cmp rfl rfl rfl (congrArg some (ndec_t (by omega)))) ?_ | refine Y_q rfl rfl rfl (by decide) (OpV_cmp rfl rfl rfl (congrArg some (ndec_f (by omega)))) ?_ | refine Y_q rfl rfl rfl (by decide) (OpV_move rfl rfl) ?_ | refine Y_q rfl rfl rfl (by decide) (OpV_assign rfl rfl) ?_ | refine Y_q rfl rfl rfl (by decide) (OpV_cmp rfl rfl rfl rfl) ?_ | refine Y_q rfl rfl rfl (by decide) (OpV_add rfl rfl rfl (by omega)) ?_ | refine Y_q rfl rfl rfl (by decide) (OpV_sub rfl rfl rfl (by omega)) ?_ | refine Y_q rfl rfl rfl (by decide) (OpV_len rfl rfl rfl) ?_ | refine Y_q rfl rfl rfl (by decide) (OpV_fieldAddr rfl rfl rfl rfl) ?_ | refine Y_q rfl rfl rfl (by decide) (OpV_load rfl rfl rfl) ?_ | refine Y_end ?_)
        rw [e1]
        rw [show nd l i + (pg l i).height + ((pg l (i - 1)).after + (pg l i).before) = nd l i + (pg l i).height + (pg l (i - 1)).after + (pg l i).before from by omega]
        exact ⟨(), .cons rfl (.cons rfl (.cons rfl (.cons rfl (.nil _)))), hG⟩
      · have e1 : gapB l i = 0 := by cases i with
          | zero => rfl
          | succ i => omega
        repeat (first | refine wpL_end ?_ | refine wpL_nil ?_ | refine wpA_seq ?_ | refine wpA_region ?_ | refine wpA_block ?_ | refine wpL_v rfl rfl (by decide) (OpV_cmp rfl rfl rfl (congrArg some (decide_eq_true (by omega)))) ?_ | refine wpL_v rfl rfl (by decide) (OpV_cmp rfl rfl rfl (congrArg some (decide_eq_false (by omega)))) ?_ | refine wpL_v rfl rfl (by decide) (OpV_cmp rfl rfl rfl (congrArg some (ndec_t (by omega)))) ?_ | refine wpL_v rfl rfl (by decide) (OpV_cmp rfl rfl rfl (congrArg some (ndec_f (by omega)))) ?_ | refine wpL_v rfl rfl (by decide) (OpV_move rfl rfl) ?_ | refine wpL_v rfl rfl (by decide) (OpV_assign rfl rfl) ?_ | refine wpL_v rfl rfl (by decide) (OpV_cmp rfl rfl rfl rfl) ?_ | refine wpL_v rfl rfl (by decide) (OpV_add rfl rfl rfl (by omega)) ?_ | refine wpL_v rfl rfl (by decide) (OpV_sub rfl rfl rfl (by omega)) ?_ | refine wpL_v rfl rfl (by decide) (OpV_len rfl rfl rfl) ?_ | refine wpL_v rfl rfl (by decide) (OpV_fieldAddr rfl rfl rfl rfl) ?_ | refine wpL_v rfl rfl (by decide) (OpV_load rfl rfl rfl) ?_ | refine wpL_loadH 0 hG rfl rfl (by decide) rfl rfl rfl rfl ?_ | refine wpL_loadH 1 hG rfl rfl (by decide) rfl rfl rfl rfl ?_ | refine wpL_loadH 2 hG rfl rfl (by decide) rfl rfl rfl rfl ?_ | refine wpL_loadH 3 hG rfl rfl (by decide) rfl rfl rfl rfl ?_ | refine wpL_loadH 4 hG rfl rfl (by decide) rfl rfl rfl rfl ?_ | refine wpL_loadH 5 hG rfl rfl (by decide) rfl rfl rfl rfl ?_ | refine wpA_ct rfl (by first | rfl | exact decide_eq_true (by omega) | exact ndec_t (by omega)) ?_ | refine wpA_cf rfl (by first | rfl | exact decide_eq_false (by omega) | exact ndec_f (by omega)) ?_ | refine wpA_skip ?_ | refine wpA_exit ?_ | refine wpA_ret ?_ | refine x_then_exit ?_ | refine x_then_ret ?_ | refine x_then_normal ?_ | refine x_block_ret ?_ | refine x_block_normal ?_ | refine x_block_exit ?_ | refine x_block_other rfl ?_)
        rw [e1, Int.add_zero]
        exact ⟨(), .cons rfl (.cons rfl (.cons rfl (.cons rfl (.nil _)))), hG⟩
    rintro _ G hG
    have d1 : sumFeet ((pg l i).feet.take 0) = 0 := by simp [sumFeet]
    repeat (first | refine wpL_end ?_ | refine wpL_nil ?_ | refine wpA_seq ?_ | refine wpA_region ?_ | refine wpA_block ?_ | refine wpL_v rfl rfl (by decide) (OpV_cmp rfl rfl rfl (congrArg some (decide_eq_true (by omega)))) ?_ | refine wpL_v rfl rfl (by decide) (OpV_cmp rfl rfl rfl (congrArg some (decide_eq_false (by omega)))) ?_ | refine wpL_v rfl rfl (by decide) (OpV_cmp rfl rfl rfl (congrArg some (ndec_t (by omega)))) ?_ | refine wpL_v rfl rfl (by decide) (OpV_cmp rfl rfl rfl (congrArg some (ndec_f (by omega)))) ?_ | refine wpL_v rfl rfl (by decide) (OpV_move rfl rfl) ?_ | refine wpL_v rfl rfl (by decide) (OpV_assign rfl rfl) ?_ | refine wpL_v rfl rfl (by decide) (OpV_cmp rfl rfl rfl rfl) ?_ | refine wpL_v rfl rfl (by decide) (OpV_add rfl rfl rfl (by omega)) ?_ | refine wpL_v rfl rfl (by decide) (OpV_sub rfl rfl rfl (by omega)) ?_ | refine wpL_v rfl rfl (by decide) (OpV_len rfl rfl rfl) ?_ | refine wpL_v rfl rfl (by decide) (OpV_fieldAddr rfl rfl rfl rfl) ?_ | refine wpL_v rfl rfl (by decide) (OpV_load rfl rfl rfl) ?_ | refine wpL_loadH 0 hG rfl rfl (by decide) rfl rfl rfl rfl ?_ | refine wpL_loadH 1 hG rfl rfl (by decide) rfl rfl rfl rfl ?_ | refine wpL_loadH 2 hG rfl rfl (by decide) rfl rfl rfl rfl ?_ | refine wpL_loadH 3 hG rfl rfl (by decide) rfl rfl rfl rfl ?_ | refine wpL_loadH 4 hG rfl rfl (by decide) rfl rfl rfl rfl ?_ | refine wpL_loadH 5 hG rfl rfl (by decide) rfl rfl rfl rfl ?_ | refine wpA_ct rfl (by first | rfl | exact decide_eq_true (by omega) | exact ndec_t (by omega)) ?_ | refine wpA_cf rfl (by first | rfl | exact decide_eq_false (by omega) | exact ndec_f (by omega)) ?_ | refine wpA_skip ?_ | refine wpA_exit ?_ | refine wpA_ret ?_ | refine x_then_exit ?_ | refine x_then_ret ?_ | refine x_then_normal ?_ | refine x_block_ret ?_ | refine x_block_normal ?_ | refine x_block_exit ?_ | refine x_block_other rfl ?_)
    refine wpA_loopS (S := Nat) (fun k => [(0, pcs l), (3, I (nd l i + (pg l i).height + gapB l i + sumFeet ((pg l i).feet.take k))), (4, I (gp ((feetN l 0 i).length + k))), (5, I i), (6, I k)])
      (fun k G => k ≤ (pg l i).feet.length) (fun k => (pg l i).feet.length - k) 0
      (.cons rfl (.cons (by rw [d1, Int.add_zero]; rfl) (.cons rfl (.cons rfl (.cons rfl (.nil _)))))) (by omega) ?_
    rintro k G hk
    have hG := Has.nil G
    have d2 := sumFeet_take_le _ k hp.foot hp.feet
    by_cases hkl : k < (pg l i).feet.length
    · obtain ⟨f, hf⟩ : ∃ f, (pg l i).feet[k]? = some f := ⟨_, List.getElem?_eq_getElem hkl⟩
      have d3 := sumFeet_take _ _ _ hf
      have d4 := (hp.foot f (List.mem_of_getElem? hf)).2
      simp only [small] at d4
      repeat (first | refine wpL_end ?_ | refine wpL_nil ?_ | refine wpA_seq ?_ | refine wpA_region ?_ | refine wpA_block ?_ | refine wpL_v rfl rfl (by decide) (OpV_index_tr rfl rfl rfl (by omega) (by exact hpi)) ?_ | refine wpL_v rfl rfl (by decide) (OpV_index_tr rfl rfl rfl (by omega) (feet_spot hf)) ?_ | refine wpL_v rfl rfl (by decide) (OpV_cmp rfl rfl rfl (congrArg some (decide_eq_true (by omega)))) ?_ | refine wpL_v rfl rfl (by decide) (OpV_cmp rfl rfl rfl (congrArg some (decide_eq_false (by omega)))) ?_ | refine wpL_v rfl rfl (by decide) (OpV_cmp rfl rfl rfl (congrArg some (ndec_t (by omega)))) ?_ | refine wpL_v rfl rfl (by decide) (OpV_cmp rfl rfl rfl (congrArg some (ndec_f (by omega)))) ?_ | refine wpL_v rfl rfl (by decide) (OpV_move rfl rfl) ?_ | refine wpL_v rfl rfl (by decide) (OpV_assign rfl rfl) ?_ | refine wpL_v rfl rfl (by decide) (OpV_cmp rfl rfl rfl rfl) ?_ | refine wpL_v rfl rfl (by decide) (OpV_add rfl rfl rfl (by omega)) ?_ | refine wpL_v rfl rfl (by decide) (OpV_sub rfl rfl rfl (by omega)) ?_ | refine wpL_v rfl rfl (by decide) (OpV_len rfl rfl rfl) ?_ | refine wpL_v rfl rfl (by decide) (OpV_fieldAddr rfl rfl rfl rfl) ?_ | refine wpL_v rfl rfl (by decide) (OpV_load rfl rfl rfl) ?_ | refine wpL_loadH 0 hG rfl rfl (by decide) rfl rfl rfl rfl ?_ | refine wpL_loadH 1 hG rfl rfl (by decide) rfl rfl rfl rfl ?_ | refine wpL_loadH 2 hG rfl rfl (by decide) rfl rfl rfl rfl ?_ | refine wpL_loadH 3 hG rfl rfl (by decide) rfl rfl rfl rfl ?_ | refine wpL_loadH 4 hG rfl rfl (by decide) rfl rfl rfl rfl ?_ | refine wpL_loadH 5 hG rfl rfl (by decide) rfl rfl rfl rfl ?_ | refine wpA_ct rfl (by first | rfl | exact decide_eq_true (by omega) | exact ndec_t (by omega)) ?_ | refine wpA_cf rfl (by first | rfl | exact decide_eq_false (by omega) | exact ndec_f (by omega)) ?_ | refine wpA_skip ?_ | refine wpA_exit ?_ | refine wpA_ret ?_ | refine x_then_exit ?_ | refine x_then_ret ?_ | refine x_then_normal ?_ | refine x_block_ret ?_ | refine x_block_normal ?_ | refine x_block_exit ?_ | refine x_block_other rfl ?_)
      refine ⟨k + 1, by omega, ?_, by omega⟩
      rw [d3, gp_pos (show 0 < (feetN l 0 i).length + (k + 1) by omega), ← Int.add_assoc]
      exact .cons rfl (.cons rfl (.cons rfl (.cons rfl (.cons rfl (.nil _)))))
    · have hk' : k = (pg l i).feet.length := by omega
      subst hk'
      rw [List.take_length]
      repeat (first | refine wpL_end ?_ | refine wpL_nil ?_ | refine wpA_seq ?_ | refine wpA_region ?_ | refine wpA_block ?_ | refine wpL_v rfl rfl (by decide) (OpV_index_tr rfl rfl rfl (by omega) (by exact hpi)) ?_ | refine wpL_v rfl rfl (by decide) (OpV_cmp rfl rfl rfl (congrArg some (decide_eq_true (by omega)))) ?_ | refine wpL_v rfl rfl (by decide) (OpV_cmp rfl rfl rfl (congrArg some (decide_eq_false (by omega)))) ?_ | refine wpL_v rfl rfl (by decide) (OpV_cmp rfl rfl rfl (congrArg some (ndec_t (by omega)))) ?_ | refine wpL_v rfl rfl (by decide) (OpV_cmp rfl rfl rfl (congrArg some (ndec_f (by omega)))) ?_ | refine wpL_v rfl rfl (by decide) (OpV_move rfl rfl) ?_ | refine wpL_v rfl rfl (by decide) (OpV_assign rfl rfl) ?_ | refine wpL_v rfl rfl (by decide) (OpV_cmp rfl rfl rfl rfl) ?_ | refine wpL_v rfl rfl (by decide) (OpV_add rfl rfl rfl (by omega)) ?_ | refine wpL_v rfl rfl (by decide) (OpV_sub rfl rfl rfl (by omega)) ?_ | refine wpL_v rfl rfl (by decide) (OpV_len rfl rfl rfl) ?_ | refine wpL_v rfl rfl (by decide) (OpV_fieldAddr rfl rfl rfl rfl) ?_ | refine wpL_v rfl rfl (by decide) (OpV_load rfl rfl rfl) ?_ | refine wpL_loadH 0 hG rfl rfl (by decide) rfl rfl rfl rfl ?_ | refine wpL_loadH 1 hG rfl rfl (by decide) rfl rfl rfl rfl ?_ | refine wpL_loadH 2 hG rfl rfl (by decide) rfl rfl rfl rfl ?_ | refine wpL_loadH 3 hG rfl rfl (by decide) rfl rfl rfl rfl ?_ | refine wpL_loadH 4 hG rfl rfl (by decide) rfl rfl rfl rfl ?_ | refine wpL_loadH 5 hG rfl rfl (by decide) rfl rfl rfl rfl ?_ | refine wpA_ct rfl (by first | rfl | exact decide_eq_true (by omega) | exact ndec_t (by omega)) ?_ | refine wpA_cf rfl (by first | rfl | exact decide_eq_false (by omega) | exact ndec_f (by omega)) ?_ | refine wpA_skip ?_ | refine wpA_exit ?_ | refine wpA_ret ?_ | refine x_then_exit ?_ | refine x_then_ret ?_ | refine x_then_normal ?_ | refine x_block_ret ?_ | refine x_block_normal ?_ | refine x_block_exit ?_ | refine x_block_other rfl ?_)
      refine ⟨i + 1, by omega, ?_, by omega⟩
      have e3 : (feetN l 0 (i + 1)).length = (feetN l 0 i).length + (pg l i).feet.length := sumLens l i hil
      rw [e3]
      exact .cons rfl (.cons rfl (.cons rfl (.cons rfl (.nil _))))
  · have hi' : i = l.length := by omega
    subst hi'
    repeat (first | refine wpL_end ?_ | refine wpL_nil ?_ | refine wpA_seq ?_ | refine wpA_region ?_ | refine wpA_block ?_ | refine wpL_v rfl rfl (by decide) (OpV_cmp rfl rfl rfl (congrArg some (decide_eq_true (by omega)))) ?_ | refine wpL_v rfl rfl (by decide) (OpV_cmp rfl rfl rfl (congrArg some (decide_eq_false (by omega)))) ?_ | refine wpL_v rfl rfl (by decide) (OpV_cmp rfl rfl rfl (congrArg some (ndec_t (by omega)))) ?_ | refine wpL_v rfl rfl (by decide) (OpV_cmp rfl rfl rfl (congrArg some (ndec_f (by omega)))) ?_ | refine wpL_v rfl rfl (by decide) (OpV_move rfl rfl) ?_ | refine wpL_v rfl rfl (by decide) (OpV_assign rfl rfl) ?_ | refine wpL_v rfl rfl (by decide) (OpV_cmp rfl rfl rfl rfl) ?_ | refine wpL_v rfl rfl (by decide) (OpV_add rfl rfl rfl (by omega)) ?_ | refine wpL_v rfl rfl (by decide) (OpV_sub rfl rfl rfl (by omega)) ?_ | refine wpL_v rfl rfl (by decide) (OpV_len rfl rfl rfl) ?_ | refine wpL_v rfl rfl (by decide) (OpV_fieldAddr rfl rfl rfl rfl) ?_ | refine wpL_v rfl rfl (by decide) (OpV_load rfl rfl rfl) ?_ | refine wpL_loadH 0 hG rfl rfl (by decide) rfl rfl rfl rfl ?_ | refine wpL_loadH 1 hG rfl rfl (by decide) rfl rfl rfl rfl ?_ | refine wpL_loadH 2 hG rfl rfl (by decide) rfl rfl rfl rfl ?_ | refine wpL_loadH 3 hG rfl rfl (by decide) rfl rfl rfl rfl ?_ | refine wpL_loadH 4 hG rfl rfl (by decide) rfl rfl rfl rfl ?_ | refine wpL_loadH 5 hG rfl rfl (by decide) rfl rfl rfl rfl ?_ | refine wpA_ct rfl (by first | rfl | exact decide_eq_true (by omega) | exact ndec_t (by omega)) ?_ | refine wpA_cf rfl (by first | rfl | exact decide_eq_false (by omega) | exact ndec_f (by omega)) ?_ | refine wpA_skip ?_ | refine wpA_exit ?_ | refine wpA_ret ?_ | refine x_then_exit ?_ | refine x_then_ret ?_ | refine x_then_normal ?_ | refine x_block_ret ?_ | refine x_block_normal ?_ | refine x_block_exit ?_ | refine x_block_other rfl ?_)
    exact postI_1 rfl rfl (.refl _) (.v _) rfl

theorem nd_tx (l : List Piece) (a j : Nat) (h : a + j < l.length) : nd ((l.drop a).take (j + 1)) (j + 1) = tx l a j + nt l a j ∧ (feetN ((l.drop a).take (j + 1)) 0 (j + 1)).length = ft l a j := by
  have key : ∀ i, i ≤ j → nd ((l.drop a).take (j + 1)) (i + 1) = tx l a i + nt l a i ∧ (feetN ((l.drop a).take (j + 1)) 0 (i + 1)).length = ft l a i := by
    have hpg : ∀ i, i ≤ j → pg ((l.drop a).take (j + 1)) i = pg l (a + i) := fun i hi => by
      simp only [pg, List.getD_eq_getElem?_getD, List.getElem?_take, List.getElem?_drop]
      rw [if_pos (by omega)]
    intro i
    induction i with
    | zero =>
      intro _
      have h0 := hpg 0 (by omega)
      simp only [nd, gapB, feetN, tx, nt, ft, Nat.add_zero, List.nil_append] at h0 ⊢
      rw [h0]
      exact ⟨by omega, rfl⟩
    | succ i ih =>
      intro hi
      obtain ⟨h1, h2⟩ := ih (by omega)
      have h3 := hpg (i + 1) hi
      have h4 := hpg i (by omega)
      rw [nd, h1, feetN, List.length_append, h2]
      simp only [gapB, tx, nt, ft, Nat.zero_add]
      rw [h3, h4]
      exact ⟨by rw [show a + (i + 1) = a + i + 1 from rfl]; omega, rfl⟩
  exact key j (Nat.le_refl _)

theorem allOk_sub {l l' : List Piece} (h : allOk l) (hs : l'.length ≤ l.length) (hm : ∀ p ∈ l', p ∈ l) : allOk l' := ⟨by have := h.1; omega, fun p hp => h.2 p (hm p hp)⟩

set_option maxHeartbeats 4000000 in
theorem repeat_iso (p : Piece) (height : Int) (hp : p.ok) : Iso Try.prog 42 [.agg (encPiece p), I height] (fun x => x = I (repOf p height)) := by
  have hG := has_nil
  have hl : allOk [p] := ⟨by simp, fun q hq => by simp at hq; rw [hq]; exact hp⟩
  have hn := need_iso [p] hl
  have e1 : nd [p] [p].length + gp (feetN [p] 0 [p].length).length = p.height + sumFeet p.feet + gp p.feet.length := by
    simp [nd, gapB, feetN, pg]
  rw [e1] at hn
  have b1 := hp.height
  have b2 := hp.rep
  have b3 := sumFeet_take_le _ p.feet.length hp.foot hp.feet
  have b4 := gp_eq p.feet.length
  rw [List.take_length] at b3
  simp only [small] at b1 b2
  have e2 : fillH p.rep p.height (sumFeet p.feet) p.feet.length = p.rep + (p.height + sumFeet p.feet + gp p.feet.length) := by
    have : gp p.feet.length = (if (0 : Int) < (p.feet.length : Int) then 120 else 0) := by
      by_cases h0 : 0 < p.feet.length
      · rw [gp_pos h0, if_pos (by omega)]
      · rw [show p.feet.length = 0 by omega]; rfl
    rw [this]
    simp only [fillH]; omega
  refine Iso_enter Try.func42 rfl rfl rfl ?_
  repeat (first | refine wpL_end ?_ | refine wpL_nil ?_ | refine wpA_seq ?_ | refine wpA_region ?_ | refine wpA_block ?_ | refine wpL_v rfl rfl (by decide) (OpV_cmp rfl rfl rfl (congrArg some (decide_eq_true (by omega)))) ?_ | refine wpL_v rfl rfl (by decide) (OpV_cmp rfl rfl rfl (congrArg some (decide_eq_false (by omega)))) ?_ | refine wpL_v rfl rfl (by decide) (OpV_cmp rfl rfl rfl (congrArg some (ndec_t (by omega)))) ?_ | refine wpL_v rfl rfl (by decide) (OpV_cmp rfl rfl rfl (congrArg some (ndec_f (by omega)))) ?_ | refine wpL_v rfl rfl (by decide) (OpV_move rfl rfl) ?_ | refine wpL_v rfl rfl (by decide) (OpV_assign rfl rfl) ?_ | refine wpL_v rfl rfl (by decide) (OpV_cmp rfl rfl rfl rfl) ?_ | refine wpL_v rfl rfl (by decide) (OpV_add rfl rfl rfl (by omega)) ?_ | refine wpL_v rfl rfl (by decide) (OpV_fieldAddr rfl rfl rfl rfl) ?_ | refine wpL_v rfl rfl (by decide) (OpV_load rfl rfl rfl) ?_ | refine wpL_loadH 0 hG rfl rfl (by decide) rfl rfl rfl rfl ?_ | refine wpL_loadH 1 hG rfl rfl (by decide) rfl rfl rfl rfl ?_ | refine wpL_loadH 2 hG rfl rfl (by decide) rfl rfl rfl rfl ?_ | refine wpL_loadH 3 hG rfl rfl (by decide) rfl rfl rfl rfl ?_ | refine wpL_loadH 4 hG rfl rfl (by decide) rfl rfl rfl rfl ?_ | refine wpL_loadH 5 hG rfl rfl (by decide) rfl rfl rfl rfl ?_ | (refine wpL_boxH hG rfl rfl (by decide) rfl rfl rfl ?_; intro id G hG) | (refine wpL_sliceH hG rfl rfl (by decide) rfl rfl rfl rfl rfl rfl rfl rfl ?_; intro id G hG) | refine wpA_ct rfl (by first | rfl | exact decide_eq_true (by omega) | exact ndec_t (by omega)) ?_ | refine wpA_cf rfl (by first | rfl | exact decide_eq_false (by omega) | exact ndec_f (by omega)) ?_ | refine wpA_skip ?_ | refine wpA_exit ?_ | refine wpA_ret ?_ | refine x_then_exit ?_ | refine x_then_ret ?_ | refine x_then_normal ?_ | refine x_block_ret ?_ | refine x_block_normal ?_ | refine x_block_exit ?_ | refine x_block_other rfl ?_)
  have hG1 : Has _ _ := hG.new (Blk.mk (encPiece p) 43 true)
  obtain ⟨H1, f1⟩ : ∃ X, X = G ++ [some (Blk.mk (encPiece p) 43 true)] := ⟨_, rfl⟩
  rw [← f1] at hG1
  refine wpA_yL [H1] H1 mixed (by decide +kernel) (N := 1) (by decide +kernel) rfl ?_
  repeat (first | refine Y_r2 0 (by decide +kernel) (by decide +kernel) rfl rfl rfl rfl rfl (by decide) (OpV_load_at rfl rfl (hG.get 0 _ _ rfl) rfl) (OpV_load_at rfl rfl (hG1.get 1 _ _ rfl) rfl) ?_ | refine Y_r 0 (by decide +kernel) (by decide +kernel) rfl rfl rfl rfl (by decide) (OpV_load_at rfl rfl (hG.get 0 _ _ rfl) rfl) ?_ | refine Y_w 0 (by decide +kernel) rfl rfl rfl rfl (by decide) (OpW_buildSlice rfl rfl rfl rfl rfl rfl rfl rfl) f1 ?_ | refine Y_rk 1 (by decide +kernel) (by decide +kernel) rfl rfl rfl rfl (by decide) (Iso_Kv rfl rfl rfl rfl hn (.cons (Conv.own hG1 (k := 0) rfl rfl) .nil) (TreeL.cons (tree_pcs [p]) TreeL.nil)) ?_ | refine Y_v rfl rfl rfl (by decide) (fun _ => OpV_cmp rfl rfl rfl (congrArg some (decide_eq_true (by omega)))) ?_ | refine Y_v rfl rfl rfl (by decide) (fun _ => OpV_cmp rfl rfl rfl (congrArg some (decide_eq_false (by omega)))) ?_ | refine Y_v rfl rfl rfl (by decide) (fun _ => OpV_cmp rfl rfl rfl (congrArg some (ndec_t (by omega)))) ?_ | refine Y_v rfl rfl rfl (by decide) (fun _ => OpV_cmp rfl rfl rfl (congrArg some (ndec_f (by omega)))) ?_ | refine Y_v rfl rfl rfl (by decide) (fun _ => OpV_move rfl rfl) ?_ | refine Y_v rfl rfl rfl (by decide) (fun _ => OpV_assign rfl rfl) ?_ | refine Y_v rfl rfl rfl (by decide) (fun _ => OpV_cmp rfl rfl rfl rfl) ?_ | refine Y_v rfl rfl rfl (by decide) (fun _ => OpV_add rfl rfl rfl (by omega)) ?_ | refine Y_v rfl rfl rfl (by decide) (fun _ => OpV_fieldAddr rfl rfl rfl rfl) ?_ | refine Y_v rfl rfl rfl (by decide) (fun _ => OpV_load rfl rfl rfl) ?_ | refine Y_end ?_)
  have hG := hG1
  by_cases h0 : height < p.rep + (p.height + sumFeet p.feet + gp p.feet.length)
  · have e3 : repOf p height = 0 := by unfold repOf; rw [e2, if_pos h0]
    repeat (first | refine wpL_end ?_ | refine wpL_nil ?_ | refine wpA_seq ?_ | refine wpA_region ?_ | refine wpA_block ?_ | refine wpL_v rfl rfl (by decide) (OpV_cmp rfl rfl rfl (congrArg some (decide_eq_true (by omega)))) ?_ | refine wpL_v rfl rfl (by decide) (OpV_cmp rfl rfl rfl (congrArg some (decide_eq_false (by omega)))) ?_ | refine wpL_v rfl rfl (by decide) (OpV_cmp rfl rfl rfl (congrArg some (ndec_t (by omega)))) ?_ | refine wpL_v rfl rfl (by decide) (OpV_cmp rfl rfl rfl (congrArg some (ndec_f (by omega)))) ?_ | refine wpL_v rfl rfl (by decide) (OpV_move rfl rfl) ?_ | refine wpL_v rfl rfl (by decide) (OpV_assign rfl rfl) ?_ | refine wpL_v rfl rfl (by decide) (OpV_cmp rfl rfl rfl rfl) ?_ | refine wpL_v rfl rfl (by decide) (OpV_add rfl rfl rfl (by omega)) ?_ | refine wpL_v rfl rfl (by decide) (OpV_fieldAddr rfl rfl rfl rfl) ?_ | refine wpL_v rfl rfl (by decide) (OpV_load rfl rfl rfl) ?_ | refine wpL_loadH 0 hG rfl rfl (by decide) rfl rfl rfl rfl ?_ | refine wpL_loadH 1 hG rfl rfl (by decide) rfl rfl rfl rfl ?_ | refine wpL_loadH 2 hG rfl rfl (by decide) rfl rfl rfl rfl ?_ | refine wpL_loadH 3 hG rfl rfl (by decide) rfl rfl rfl rfl ?_ | refine wpL_loadH 4 hG rfl rfl (by decide) rfl rfl rfl rfl ?_ | refine wpL_loadH 5 hG rfl rfl (by decide) rfl rfl rfl rfl ?_ | (refine wpL_boxH hG rfl rfl (by decide) rfl rfl rfl ?_; intro id G hG) | (refine wpL_sliceH hG rfl rfl (by decide) rfl rfl rfl rfl rfl rfl rfl rfl ?_; intro id G hG) | refine wpA_ct rfl (by first | rfl | exact decide_eq_true (by omega) | exact ndec_t (by omega)) ?_ | refine wpA_cf rfl (by first | rfl | exact decide_eq_false (by omega) | exact ndec_f (by omega)) ?_ | refine wpA_skip ?_ | refine wpA_exit ?_ | refine wpA_ret ?_ | refine x_then_exit ?_ | refine x_then_ret ?_ | refine x_then_normal ?_ | refine x_block_ret ?_ | refine x_block_normal ?_ | refine x_block_exit ?_ | refine x_block_other rfl ?_)
    rw [e3]
    exact postI_1 rfl rfl (.refl _) (.v _) rfl
  · have e3 : repOf p height = p.rep := by unfold repOf; rw [e2, if_neg h0]
    repeat (first | refine wpL_end ?_ | refine wpL_nil ?_ | refine wpA_seq ?_ | refine wpA_region ?_ | refine wpA_block ?_ | refine wpL_v rfl rfl (by decide) (OpV_cmp rfl rfl rfl (congrArg some (decide_eq_true (by omega)))) ?_ | refine wpL_v rfl rfl (by decide) (OpV_cmp rfl rfl rfl (congrArg some (decide_eq_false (by omega)))) ?_ | refine wpL_v rfl rfl (by decide) (OpV_cmp rfl rfl rfl (congrArg some (ndec_t (by omega)))) ?_ | refine wpL_v rfl rfl (by decide) (OpV_cmp rfl rfl rfl (congrArg some (ndec_f (by omega)))) ?_ | refine wpL_v rfl rfl (by decide) (OpV_move rfl rfl) ?_ | refine wpL_v rfl rfl (by decide) (OpV_assign rfl rfl) ?_ | refine wpL_v rfl rfl (by decide) (OpV_cmp rfl rfl rfl rfl) ?_ | refine wpL_v rfl rfl (by decide) (OpV_add rfl rfl rfl (by omega)) ?_ | refine wpL_v rfl rfl (by decide) (OpV_fieldAddr rfl rfl rfl rfl) ?_ | refine wpL_v rfl rfl (by decide) (OpV_load rfl rfl rfl) ?_ | refine wpL_loadH 0 hG rfl rfl (by decide) rfl rfl rfl rfl ?_ | refine wpL_loadH 1 hG rfl rfl (by decide) rfl rfl rfl rfl ?_ | refine wpL_loadH 2 hG rfl rfl (by decide) rfl rfl rfl rfl ?_ | refine wpL_loadH 3 hG rfl rfl (by decide) rfl rfl rfl rfl ?_ | refine wpL_loadH 4 hG rfl rfl (by decide) rfl rfl rfl rfl ?_ | refine wpL_loadH 5 hG rfl rfl (by decide) rfl rfl rfl rfl ?_ | (refine wpL_boxH hG rfl rfl (by decide) rfl rfl rfl ?_; intro id G hG) | (refine wpL_sliceH hG rfl rfl (by decide) rfl rfl rfl rfl rfl rfl rfl rfl ?_; intro id G hG) | refine wpA_ct rfl (by first | rfl | exact decide_eq_true (by omega) | exact ndec_t (by omega)) ?_ | refine wpA_cf rfl (by first | rfl | exact decide_eq_false (by omega) | exact ndec_f (by omega)) ?_ | refine wpA_skip ?_ | refine wpA_exit ?_ | refine wpA_ret ?_ | refine x_then_exit ?_ | refine x_then_ret ?_ | refine x_then_normal ?_ | refine x_block_ret ?_ | refine x_block_normal ?_ | refine x_block_exit ?_ | refine x_block_other rfl ?_)
    rw [e3]
    exact postI_1 rfl rfl (.refl _) (.v _) rfl
end Go.Proofs.Ytpkeceifnmmhcaa
