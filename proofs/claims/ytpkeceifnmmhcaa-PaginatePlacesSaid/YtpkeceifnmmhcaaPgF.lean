/- The walk of Place. -/
import Derived.Test.YtpkeceifnmmhcaaPgE
import Derived.Test.YtpkeceifnmmhcaaThFourteen
namespace Go.Proofs.Ytpkeceifnmmhcaa
open Go.Th
set_option linter.unusedVariables false
set_option maxRecDepth 20000

def pageC (w h : Int) (s ns u nu : Nat) (used over : Int) : List PV := [I 0, I 0, .v (.string .empty), I w, I h, .sl s 0 ns 6, .sl u 0 nu 6, I used, I over]

theorem has_nil : Has [] [] := Has.nil _

theorem flat_len {α : Type} {f : α → List PV} {k : Nat} (h : ∀ x, (f x).length = k) (l : List α) : (l.flatMap f).length = l.length * k := by
  induction l with
  | nil => simp
  | cons a l ih => simp [ih, h, Nat.add_mul]; omega

theorem bottom0_cases (y height : Int) (feet : List Foot) : (bottom0 y height feet = y ∨ bottom0 y height feet = y + 120 ∨ bottom0 y height feet = height - sumFeet feet) ∧ y ≤ bottom0 y height feet := by
  unfold bottom0
  split
  · rcases Int.le_total (y + 120) (height - sumFeet feet) with h | h
    · rw [Int.max_eq_right h]; omega
    · rw [Int.max_eq_left h]; omega
  · omega

theorem sumFeet_takes (l : List Foot) (k : Nat) (h : ∀ f ∈ l, small f.id ∧ small f.h) : 0 ≤ sumFeet (l.take k) ∧ sumFeet (l.take k) ≤ sumFeet l := by
  have h1 := sumFeet_le (l.take k) (fun f hf => h f (List.mem_of_mem_take hf))
  have h2 := sumFeet_le (l.drop k) (fun f hf => h f (List.mem_of_mem_drop hf))
  have h3 := sumFeet_app (l.take k) (l.drop k)
  rw [List.take_append_drop] at h3
  omega

set_option maxHeartbeats 4000000 in
theorem Place_main (l : List Piece) (a n : Nat) (width height : Int) (hl : allOk l) (h1 : 0 < n) (h2 : a + n ≤ l.length) (h3 : 1 ≤ width) (h4 : 1 ≤ height) (h5 : height ≤ 9223372036854775807) :
    Iso Try.prog 16 [pcs l, I a, I ((a + n : Nat) : Int), I width, I height] (fun p => p = .tup [.agg (encPage (placeF l a n width height)), I 0]) := by
  have hlen := hl.1
  have ha : a < l.length := by omega
  have hG := has_nil
  refine Iso_enter Try.func16 rfl rfl rfl ?_
  repeat (first
    | refine wpL_end ?_
    | refine wpL_nil ?_
    | refine wpA_seq ?_
    | refine wpA_region ?_
    | refine wpA_block ?_
    | refine wpL_v rfl rfl (by decide) (OpV_index_tr rfl rfl rfl (by omega) (pcs_spot (pg_some ha))) ?_
    | refine wpL_v rfl rfl (by decide) (OpV_move rfl rfl) ?_
    | refine wpL_v rfl rfl (by decide) (OpV_assign rfl rfl) ?_
    | refine wpL_v rfl rfl (by decide) (OpV_cmp rfl rfl rfl rfl) ?_
    | refine wpL_v rfl rfl (by decide) (OpV_add rfl rfl rfl (by omega)) ?_
    | refine wpL_v rfl rfl (by decide) (OpV_sub rfl rfl rfl (by omega)) ?_
    | refine wpL_v rfl rfl (by decide) (OpV_len rfl rfl rfl) ?_
    | refine wpL_v rfl rfl (by decide) (OpV_nilCheck rfl rfl rfl) ?_
    | refine wpL_v rfl rfl (by decide) (OpV_fieldAddr rfl rfl rfl rfl) ?_
    | refine wpL_v rfl rfl (by decide) (OpV_load rfl rfl rfl) ?_
    | refine wpL_v rfl rfl (by decide) (OpV_not rfl rfl) ?_
    | refine wpL_v rfl rfl (by decide) (OpV_extract rfl rfl rfl) ?_
    | refine wpL_v rfl rfl (by decide) (OpV_pick_t rfl rfl (by first | rfl | exact decide_eq_true (by omega)) rfl) ?_
    | refine wpL_v rfl rfl (by decide) (OpV_pick_f rfl rfl (by first | rfl | exact decide_eq_false (by omega)) rfl) ?_
    | refine wpL_v rfl rfl (by decide) (OpV_build rfl rfl rfl rfl) ?_
    | refine wpL_v rfl rfl (by decide) (OpV_max rfl rfl rfl) ?_
    | refine wpL_v rfl rfl (by decide) (OpV_min rfl rfl rfl) ?_
    | refine wpL_v rfl rfl (by decide) (OpV_nilptr rfl rfl rfl) ?_
    | refine wpL_v rfl rfl (by decide) (OpV_beq rfl rfl rfl) ?_
    | refine wpL_v rfl rfl (by decide) (OpV_bne rfl rfl rfl) ?_
    | refine wpL_v rfl rfl (by decide) (OpV_makeFunc rfl rfl) ?_
    | refine wpL_loadH 0 hG rfl rfl (by decide) rfl rfl rfl rfl ?_
    | refine wpL_loadH 1 hG rfl rfl (by decide) rfl rfl rfl rfl ?_
    | refine wpL_loadH 2 hG rfl rfl (by decide) rfl rfl rfl rfl ?_
    | refine wpL_loadH 3 hG rfl rfl (by decide) rfl rfl rfl rfl ?_
    | refine wpL_loadH 4 hG rfl rfl (by decide) rfl rfl rfl rfl ?_
    | refine wpL_loadH 5 hG rfl rfl (by decide) rfl rfl rfl rfl ?_
    | (refine wpL_storeH 0 hG rfl rfl rfl rfl rfl rfl rfl rfl rfl rfl rfl ?_; intro G hG)
    | (refine wpL_storeH 1 hG rfl rfl rfl rfl rfl rfl rfl rfl rfl rfl rfl ?_; intro G hG)
    | (refine wpL_storeH 2 hG rfl rfl rfl rfl rfl rfl rfl rfl rfl rfl rfl ?_; intro G hG)
    | (refine wpL_storeH 3 hG rfl rfl rfl rfl rfl rfl rfl rfl rfl rfl rfl ?_; intro G hG)
    | (refine wpL_storeH 4 hG rfl rfl rfl rfl rfl rfl rfl rfl rfl rfl rfl ?_; intro G hG)
    | (refine wpL_storeH 5 hG rfl rfl rfl rfl rfl rfl rfl rfl rfl rfl rfl ?_; intro G hG)
    | (refine wpL_allocH hG rfl rfl (by decide) rfl rfl ?_; intro id G hG)
    | (refine wpL_boxH hG rfl rfl (by decide) rfl rfl rfl ?_; intro id G hG)
    | (refine wpL_sliceH hG rfl rfl (by decide) rfl rfl rfl rfl rfl rfl rfl rfl ?_; intro id G hG)
    | refine wpL_gt rfl rfl rfl rfl rfl (by decide) (by first | rfl | exact decide_eq_true (by omega) | exact decide_eq_false (by omega) | exact ndec_t (by omega) | exact ndec_f (by omega)) ?_
    | refine wpL_gf rfl rfl rfl rfl rfl (by decide) (by first | rfl | exact decide_eq_true (by omega) | exact decide_eq_false (by omega) | exact ndec_t (by omega) | exact ndec_f (by omega)) ?_
    | refine wpA_ct rfl (by first | rfl | exact decide_eq_true (by omega) | exact ndec_t (by omega)) ?_
    | refine wpA_cf rfl (by first | rfl | exact decide_eq_false (by omega) | exact ndec_f (by omega)) ?_
    | refine wpA_skip ?_
    | refine wpA_exit ?_
    | refine wpA_ret ?_
    | refine x_then_exit ?_
    | refine x_then_ret ?_
    | refine x_then_normal ?_
    | refine x_block_ret ?_
    | refine x_block_normal ?_
    | refine x_block_exit ?_
    | refine x_block_other rfl ?_
    | refine wpL_v rfl rfl (by decide) (OpV_pick_t rfl rfl (ndec_t (by omega)) rfl) ?_
    | refine wpL_v rfl rfl (by decide) (OpV_pick_f rfl rfl (ndec_f (by omega)) rfl) ?_)
  refine wpL_ac rfl rfl rfl rfl rfl rfl (by decide) (begin_ac _ (pg l a) height (ok_pg hl ha)) ?_
  rintro _ G ⟨idf, rfl, q1, q2, q3⟩
  have hG := (hG.ext q3).cons hG q2 q1
  repeat (first
    | refine wpL_end ?_
    | refine wpL_nil ?_
    | refine wpA_seq ?_
    | refine wpA_region ?_
    | refine wpA_block ?_
    | refine wpL_v rfl rfl (by decide) (OpV_move rfl rfl) ?_
    | refine wpL_v rfl rfl (by decide) (OpV_assign rfl rfl) ?_
    | refine wpL_v rfl rfl (by decide) (OpV_cmp rfl rfl rfl rfl) ?_
    | refine wpL_v rfl rfl (by decide) (OpV_add rfl rfl rfl (by omega)) ?_
    | refine wpL_v rfl rfl (by decide) (OpV_sub rfl rfl rfl (by omega)) ?_
    | refine wpL_v rfl rfl (by decide) (OpV_len rfl rfl rfl) ?_
    | refine wpL_v rfl rfl (by decide) (OpV_nilCheck rfl rfl rfl) ?_
    | refine wpL_v rfl rfl (by decide) (OpV_fieldAddr rfl rfl rfl rfl) ?_
    | refine wpL_v rfl rfl (by decide) (OpV_load rfl rfl rfl) ?_
    | refine wpL_v rfl rfl (by decide) (OpV_not rfl rfl) ?_
    | refine wpL_v rfl rfl (by decide) (OpV_extract rfl rfl rfl) ?_
    | refine wpL_v rfl rfl (by decide) (OpV_pick_t rfl rfl (by first | rfl | exact decide_eq_true (by omega)) rfl) ?_
    | refine wpL_v rfl rfl (by decide) (OpV_pick_f rfl rfl (by first | rfl | exact decide_eq_false (by omega)) rfl) ?_
    | refine wpL_v rfl rfl (by decide) (OpV_build rfl rfl rfl rfl) ?_
    | refine wpL_v rfl rfl (by decide) (OpV_max rfl rfl rfl) ?_
    | refine wpL_v rfl rfl (by decide) (OpV_min rfl rfl rfl) ?_
    | refine wpL_v rfl rfl (by decide) (OpV_nilptr rfl rfl rfl) ?_
    | refine wpL_v rfl rfl (by decide) (OpV_beq rfl rfl rfl) ?_
    | refine wpL_v rfl rfl (by decide) (OpV_bne rfl rfl rfl) ?_
    | refine wpL_v rfl rfl (by decide) (OpV_makeFunc rfl rfl) ?_
    | refine wpL_loadH 0 hG rfl rfl (by decide) rfl rfl rfl rfl ?_
    | refine wpL_loadH 1 hG rfl rfl (by decide) rfl rfl rfl rfl ?_
    | refine wpL_loadH 2 hG rfl rfl (by decide) rfl rfl rfl rfl ?_
    | refine wpL_loadH 3 hG rfl rfl (by decide) rfl rfl rfl rfl ?_
    | refine wpL_loadH 4 hG rfl rfl (by decide) rfl rfl rfl rfl ?_
    | refine wpL_loadH 5 hG rfl rfl (by decide) rfl rfl rfl rfl ?_
    | (refine wpL_storeH 0 hG rfl rfl rfl rfl rfl rfl rfl rfl rfl rfl rfl ?_; intro G hG)
    | (refine wpL_storeH 1 hG rfl rfl rfl rfl rfl rfl rfl rfl rfl rfl rfl ?_; intro G hG)
    | (refine wpL_storeH 2 hG rfl rfl rfl rfl rfl rfl rfl rfl rfl rfl rfl ?_; intro G hG)
    | (refine wpL_storeH 3 hG rfl rfl rfl rfl rfl rfl rfl rfl rfl rfl rfl ?_; intro G hG)
    | (refine wpL_storeH 4 hG rfl rfl rfl rfl rfl rfl rfl rfl rfl rfl rfl ?_; intro G hG)
    | (refine wpL_storeH 5 hG rfl rfl rfl rfl rfl rfl rfl rfl rfl rfl rfl ?_; intro G hG)
    | (refine wpL_allocH hG rfl rfl (by decide) rfl rfl ?_; intro id G hG)
    | (refine wpL_boxH hG rfl rfl (by decide) rfl rfl rfl ?_; intro id G hG)
    | (refine wpL_sliceH hG rfl rfl (by decide) rfl rfl rfl rfl rfl rfl rfl rfl ?_; intro id G hG)
    | refine wpL_gt rfl rfl rfl rfl rfl (by decide) (by first | rfl | exact decide_eq_true (by omega) | exact decide_eq_false (by omega) | exact ndec_t (by omega) | exact ndec_f (by omega)) ?_
    | refine wpL_gf rfl rfl rfl rfl rfl (by decide) (by first | rfl | exact decide_eq_true (by omega) | exact decide_eq_false (by omega) | exact ndec_t (by omega) | exact ndec_f (by omega)) ?_
    | refine wpA_ct rfl (by first | rfl | exact decide_eq_true (by omega) | exact ndec_t (by omega)) ?_
    | refine wpA_cf rfl (by first | rfl | exact decide_eq_false (by omega) | exact ndec_f (by omega)) ?_
    | refine wpA_skip ?_
    | refine wpA_exit ?_
    | refine wpA_ret ?_
    | refine x_then_exit ?_
    | refine x_then_ret ?_
    | refine x_then_normal ?_
    | refine x_block_ret ?_
    | refine x_block_normal ?_
    | refine x_block_exit ?_
    | refine x_block_other rfl ?_
    | refine wpL_v rfl rfl (by decide) (OpV_pick_t rfl rfl (ndec_t (by omega)) rfl) ?_
    | refine wpL_v rfl rfl (by decide) (OpV_pick_f rfl rfl (ndec_f (by omega)) rfl) ?_)
  refine wpA_ghostC 2 5 40 6 hG rfl rfl ?_
  intro s0 G hG
  refine wpA_ghostC 3 6 40 6 hG rfl rfl ?_
  intro u0 G hG
  refine wpA_cut2 (S := Nat × Nat × Nat × Nat) (fun x => [(0, pcs l), (1, I a), (2, I ((a + n : Nat) : Int)), (4, I height), (10, .ptr x.1 0), (12, .ptr x.2.1 0), (14, I (yB l a height 0))])
    (fun x G => Has G [(x.1, ⟨[I 0, I 0, .v (.string .empty), I 0, I 0, .v (.slice none 0 0), .v (.slice none 0 0), I 0, I 0], 31, true⟩), (x.2.1, ⟨pageC width height x.2.2.1 (slotsN l a height 0).length x.2.2.2 0 0 0, 31, true⟩), (x.2.2.1, ⟨(slotsN l a height 0).flatMap encSlot, 40, true⟩), (x.2.2.2, ⟨[], 40, true⟩)]) ?_ ?_
  · by_cases hr : 0 < repOf (pg l a) height
    · have e : slotsN l a height 0 = [⟨(pg l a).flow, (pg l a).block, 0, 0, repOf (pg l a) height, true⟩] := by simp [slotsN, hr]
      rw [e]
      repeat (first
        | refine wpL_end ?_
        | refine wpL_nil ?_
        | refine wpA_seq ?_
        | refine wpA_region ?_
        | refine wpA_block ?_
        | (refine wpL_appendH 2 hG rfl rfl (by decide) rfl rfl rfl rfl rfl rfl rfl rfl (hG.cellsOf (k := 0) rfl rfl) rfl (by omega) (by omega) ?_; intro id G hG)
        | refine wpL_v rfl rfl (by decide) (OpV_move rfl rfl) ?_
        | refine wpL_v rfl rfl (by decide) (OpV_assign rfl rfl) ?_
        | refine wpL_v rfl rfl (by decide) (OpV_cmp rfl rfl rfl rfl) ?_
        | refine wpL_v rfl rfl (by decide) (OpV_add rfl rfl rfl (by omega)) ?_
        | refine wpL_v rfl rfl (by decide) (OpV_sub rfl rfl rfl (by omega)) ?_
        | refine wpL_v rfl rfl (by decide) (OpV_len rfl rfl rfl) ?_
        | refine wpL_v rfl rfl (by decide) (OpV_nilCheck rfl rfl rfl) ?_
        | refine wpL_v rfl rfl (by decide) (OpV_fieldAddr rfl rfl rfl rfl) ?_
        | refine wpL_v rfl rfl (by decide) (OpV_load rfl rfl rfl) ?_
        | refine wpL_v rfl rfl (by decide) (OpV_not rfl rfl) ?_
        | refine wpL_v rfl rfl (by decide) (OpV_extract rfl rfl rfl) ?_
        | refine wpL_v rfl rfl (by decide) (OpV_pick_t rfl rfl (by first | rfl | exact decide_eq_true (by omega)) rfl) ?_
        | refine wpL_v rfl rfl (by decide) (OpV_pick_f rfl rfl (by first | rfl | exact decide_eq_false (by omega)) rfl) ?_
        | refine wpL_v rfl rfl (by decide) (OpV_build rfl rfl rfl rfl) ?_
        | refine wpL_v rfl rfl (by decide) (OpV_max rfl rfl rfl) ?_
        | refine wpL_v rfl rfl (by decide) (OpV_min rfl rfl rfl) ?_
        | refine wpL_v rfl rfl (by decide) (OpV_nilptr rfl rfl rfl) ?_
        | refine wpL_v rfl rfl (by decide) (OpV_beq rfl rfl rfl) ?_
        | refine wpL_v rfl rfl (by decide) (OpV_bne rfl rfl rfl) ?_
        | refine wpL_v rfl rfl (by decide) (OpV_makeFunc rfl rfl) ?_
        | refine wpL_loadH 0 hG rfl rfl (by decide) rfl rfl rfl rfl ?_
        | refine wpL_loadH 1 hG rfl rfl (by decide) rfl rfl rfl rfl ?_
        | refine wpL_loadH 2 hG rfl rfl (by decide) rfl rfl rfl rfl ?_
        | refine wpL_loadH 3 hG rfl rfl (by decide) rfl rfl rfl rfl ?_
        | refine wpL_loadH 4 hG rfl rfl (by decide) rfl rfl rfl rfl ?_
        | refine wpL_loadH 5 hG rfl rfl (by decide) rfl rfl rfl rfl ?_
        | (refine wpL_storeH 0 hG rfl rfl rfl rfl rfl rfl rfl rfl rfl rfl rfl ?_; intro G hG)
        | (refine wpL_storeH 1 hG rfl rfl rfl rfl rfl rfl rfl rfl rfl rfl rfl ?_; intro G hG)
        | (refine wpL_storeH 2 hG rfl rfl rfl rfl rfl rfl rfl rfl rfl rfl rfl ?_; intro G hG)
        | (refine wpL_storeH 3 hG rfl rfl rfl rfl rfl rfl rfl rfl rfl rfl rfl ?_; intro G hG)
        | (refine wpL_storeH 4 hG rfl rfl rfl rfl rfl rfl rfl rfl rfl rfl rfl ?_; intro G hG)
        | (refine wpL_storeH 5 hG rfl rfl rfl rfl rfl rfl rfl rfl rfl rfl rfl ?_; intro G hG)
        | (refine wpL_allocH hG rfl rfl (by decide) rfl rfl ?_; intro id G hG)
        | (refine wpL_boxH hG rfl rfl (by decide) rfl rfl rfl ?_; intro id G hG)
        | (refine wpL_sliceH hG rfl rfl (by decide) rfl rfl rfl rfl rfl rfl rfl rfl ?_; intro id G hG)
        | refine wpL_gt rfl rfl rfl rfl rfl (by decide) (by first | rfl | exact decide_eq_true (by omega) | exact decide_eq_false (by omega) | exact ndec_t (by omega) | exact ndec_f (by omega)) ?_
        | refine wpL_gf rfl rfl rfl rfl rfl (by decide) (by first | rfl | exact decide_eq_true (by omega) | exact decide_eq_false (by omega) | exact ndec_t (by omega) | exact ndec_f (by omega)) ?_
        | refine wpA_ct rfl (by first | rfl | exact decide_eq_true (by omega) | exact ndec_t (by omega)) ?_
        | refine wpA_cf rfl (by first | rfl | exact decide_eq_false (by omega) | exact ndec_f (by omega)) ?_
        | refine wpA_skip ?_
        | refine wpA_exit ?_
        | refine wpA_ret ?_
        | refine x_then_exit ?_
        | refine x_then_ret ?_
        | refine x_then_normal ?_
        | refine x_block_ret ?_
        | refine x_block_normal ?_
        | refine x_block_exit ?_
        | refine x_block_other rfl ?_
        | refine wpL_v rfl rfl (by decide) (OpV_pick_t rfl rfl (ndec_t (by omega)) rfl) ?_
        | refine wpL_v rfl rfl (by decide) (OpV_pick_f rfl rfl (ndec_f (by omega)) rfl) ?_)
      exact ⟨(_, _, _, _), .cons rfl (.cons rfl (.cons rfl (.cons rfl (.cons rfl (.cons rfl (.cons rfl (.nil _))))))), hG.pick [6, 5, 2, 1] (by decide) rfl⟩
    · have e : slotsN l a height 0 = [] := by simp [slotsN, hr]
      rw [e]
      repeat (first
        | refine wpL_end ?_
        | refine wpL_nil ?_
        | refine wpA_seq ?_
        | refine wpA_region ?_
        | refine wpA_block ?_
        | refine wpL_v rfl rfl (by decide) (OpV_move rfl rfl) ?_
        | refine wpL_v rfl rfl (by decide) (OpV_assign rfl rfl) ?_
        | refine wpL_v rfl rfl (by decide) (OpV_cmp rfl rfl rfl rfl) ?_
        | refine wpL_v rfl rfl (by decide) (OpV_add rfl rfl rfl (by omega)) ?_
        | refine wpL_v rfl rfl (by decide) (OpV_sub rfl rfl rfl (by omega)) ?_
        | refine wpL_v rfl rfl (by decide) (OpV_len rfl rfl rfl) ?_
        | refine wpL_v rfl rfl (by decide) (OpV_nilCheck rfl rfl rfl) ?_
        | refine wpL_v rfl rfl (by decide) (OpV_fieldAddr rfl rfl rfl rfl) ?_
        | refine wpL_v rfl rfl (by decide) (OpV_load rfl rfl rfl) ?_
        | refine wpL_v rfl rfl (by decide) (OpV_not rfl rfl) ?_
        | refine wpL_v rfl rfl (by decide) (OpV_extract rfl rfl rfl) ?_
        | refine wpL_v rfl rfl (by decide) (OpV_pick_t rfl rfl (by first | rfl | exact decide_eq_true (by omega)) rfl) ?_
        | refine wpL_v rfl rfl (by decide) (OpV_pick_f rfl rfl (by first | rfl | exact decide_eq_false (by omega)) rfl) ?_
        | refine wpL_v rfl rfl (by decide) (OpV_build rfl rfl rfl rfl) ?_
        | refine wpL_v rfl rfl (by decide) (OpV_max rfl rfl rfl) ?_
        | refine wpL_v rfl rfl (by decide) (OpV_min rfl rfl rfl) ?_
        | refine wpL_v rfl rfl (by decide) (OpV_nilptr rfl rfl rfl) ?_
        | refine wpL_v rfl rfl (by decide) (OpV_beq rfl rfl rfl) ?_
        | refine wpL_v rfl rfl (by decide) (OpV_bne rfl rfl rfl) ?_
        | refine wpL_v rfl rfl (by decide) (OpV_makeFunc rfl rfl) ?_
        | refine wpL_loadH 0 hG rfl rfl (by decide) rfl rfl rfl rfl ?_
        | refine wpL_loadH 1 hG rfl rfl (by decide) rfl rfl rfl rfl ?_
        | refine wpL_loadH 2 hG rfl rfl (by decide) rfl rfl rfl rfl ?_
        | refine wpL_loadH 3 hG rfl rfl (by decide) rfl rfl rfl rfl ?_
        | refine wpL_loadH 4 hG rfl rfl (by decide) rfl rfl rfl rfl ?_
        | refine wpL_loadH 5 hG rfl rfl (by decide) rfl rfl rfl rfl ?_
        | (refine wpL_storeH 0 hG rfl rfl rfl rfl rfl rfl rfl rfl rfl rfl rfl ?_; intro G hG)
        | (refine wpL_storeH 1 hG rfl rfl rfl rfl rfl rfl rfl rfl rfl rfl rfl ?_; intro G hG)
        | (refine wpL_storeH 2 hG rfl rfl rfl rfl rfl rfl rfl rfl rfl rfl rfl ?_; intro G hG)
        | (refine wpL_storeH 3 hG rfl rfl rfl rfl rfl rfl rfl rfl rfl rfl rfl ?_; intro G hG)
        | (refine wpL_storeH 4 hG rfl rfl rfl rfl rfl rfl rfl rfl rfl rfl rfl ?_; intro G hG)
        | (refine wpL_storeH 5 hG rfl rfl rfl rfl rfl rfl rfl rfl rfl rfl rfl ?_; intro G hG)
        | (refine wpL_allocH hG rfl rfl (by decide) rfl rfl ?_; intro id G hG)
        | (refine wpL_boxH hG rfl rfl (by decide) rfl rfl rfl ?_; intro id G hG)
        | (refine wpL_sliceH hG rfl rfl (by decide) rfl rfl rfl rfl rfl rfl rfl rfl ?_; intro id G hG)
        | refine wpL_gt rfl rfl rfl rfl rfl (by decide) (by first | rfl | exact decide_eq_true (by omega) | exact decide_eq_false (by omega) | exact ndec_t (by omega) | exact ndec_f (by omega)) ?_
        | refine wpL_gf rfl rfl rfl rfl rfl (by decide) (by first | rfl | exact decide_eq_true (by omega) | exact decide_eq_false (by omega) | exact ndec_t (by omega) | exact ndec_f (by omega)) ?_
        | refine wpA_ct rfl (by first | rfl | exact decide_eq_true (by omega) | exact ndec_t (by omega)) ?_
        | refine wpA_cf rfl (by first | rfl | exact decide_eq_false (by omega) | exact ndec_f (by omega)) ?_
        | refine wpA_skip ?_
        | refine wpA_exit ?_
        | refine wpA_ret ?_
        | refine x_then_exit ?_
        | refine x_then_ret ?_
        | refine x_then_normal ?_
        | refine x_block_ret ?_
        | refine x_block_normal ?_
        | refine x_block_exit ?_
        | refine x_block_other rfl ?_
        | refine wpL_v rfl rfl (by decide) (OpV_pick_t rfl rfl (ndec_t (by omega)) rfl) ?_
        | refine wpL_v rfl rfl (by decide) (OpV_pick_f rfl rfl (ndec_f (by omega)) rfl) ?_)
      exact ⟨(_, _, _, _), .cons rfl (.cons rfl (.cons rfl (.cons rfl (.cons rfl (.cons rfl (.cons rfl (.nil _))))))), hG.pick [5, 4, 1, 0] (by decide) rfl⟩
  rintro ⟨r, p, s, u⟩ G hG
  simp only at hG
  repeat (first
    | refine wpL_end ?_
    | refine wpL_nil ?_
    | refine wpA_seq ?_
    | refine wpA_region ?_
    | refine wpA_block ?_
    | refine wpL_v rfl rfl (by decide) (OpV_move rfl rfl) ?_
    | refine wpL_v rfl rfl (by decide) (OpV_assign rfl rfl) ?_
    | refine wpL_v rfl rfl (by decide) (OpV_cmp rfl rfl rfl rfl) ?_
    | refine wpL_v rfl rfl (by decide) (OpV_add rfl rfl rfl (by omega)) ?_
    | refine wpL_v rfl rfl (by decide) (OpV_sub rfl rfl rfl (by omega)) ?_
    | refine wpL_v rfl rfl (by decide) (OpV_len rfl rfl rfl) ?_
    | refine wpL_v rfl rfl (by decide) (OpV_nilCheck rfl rfl rfl) ?_
    | refine wpL_v rfl rfl (by decide) (OpV_fieldAddr rfl rfl rfl rfl) ?_
    | refine wpL_v rfl rfl (by decide) (OpV_load rfl rfl rfl) ?_
    | refine wpL_v rfl rfl (by decide) (OpV_not rfl rfl) ?_
    | refine wpL_v rfl rfl (by decide) (OpV_extract rfl rfl rfl) ?_
    | refine wpL_v rfl rfl (by decide) (OpV_pick_t rfl rfl (by first | rfl | exact decide_eq_true (by omega)) rfl) ?_
    | refine wpL_v rfl rfl (by decide) (OpV_pick_f rfl rfl (by first | rfl | exact decide_eq_false (by omega)) rfl) ?_
    | refine wpL_v rfl rfl (by decide) (OpV_build rfl rfl rfl rfl) ?_
    | refine wpL_v rfl rfl (by decide) (OpV_max rfl rfl rfl) ?_
    | refine wpL_v rfl rfl (by decide) (OpV_min rfl rfl rfl) ?_
    | refine wpL_v rfl rfl (by decide) (OpV_nilptr rfl rfl rfl) ?_
    | refine wpL_v rfl rfl (by decide) (OpV_beq rfl rfl rfl) ?_
    | refine wpL_v rfl rfl (by decide) (OpV_bne rfl rfl rfl) ?_
    | refine wpL_v rfl rfl (by decide) (OpV_makeFunc rfl rfl) ?_
    | refine wpL_loadH 0 hG rfl rfl (by decide) rfl rfl rfl rfl ?_
    | refine wpL_loadH 1 hG rfl rfl (by decide) rfl rfl rfl rfl ?_
    | refine wpL_loadH 2 hG rfl rfl (by decide) rfl rfl rfl rfl ?_
    | refine wpL_loadH 3 hG rfl rfl (by decide) rfl rfl rfl rfl ?_
    | refine wpL_loadH 4 hG rfl rfl (by decide) rfl rfl rfl rfl ?_
    | refine wpL_loadH 5 hG rfl rfl (by decide) rfl rfl rfl rfl ?_
    | (refine wpL_storeH 0 hG rfl rfl rfl rfl rfl rfl rfl rfl rfl rfl rfl ?_; intro G hG)
    | (refine wpL_storeH 1 hG rfl rfl rfl rfl rfl rfl rfl rfl rfl rfl rfl ?_; intro G hG)
    | (refine wpL_storeH 2 hG rfl rfl rfl rfl rfl rfl rfl rfl rfl rfl rfl ?_; intro G hG)
    | (refine wpL_storeH 3 hG rfl rfl rfl rfl rfl rfl rfl rfl rfl rfl rfl ?_; intro G hG)
    | (refine wpL_storeH 4 hG rfl rfl rfl rfl rfl rfl rfl rfl rfl rfl rfl ?_; intro G hG)
    | (refine wpL_storeH 5 hG rfl rfl rfl rfl rfl rfl rfl rfl rfl rfl rfl ?_; intro G hG)
    | (refine wpL_allocH hG rfl rfl (by decide) rfl rfl ?_; intro id G hG)
    | (refine wpL_boxH hG rfl rfl (by decide) rfl rfl rfl ?_; intro id G hG)
    | (refine wpL_sliceH hG rfl rfl (by decide) rfl rfl rfl rfl rfl rfl rfl rfl ?_; intro id G hG)
    | refine wpL_gt rfl rfl rfl rfl rfl (by decide) (by first | rfl | exact decide_eq_true (by omega) | exact decide_eq_false (by omega) | exact ndec_t (by omega) | exact ndec_f (by omega)) ?_
    | refine wpL_gf rfl rfl rfl rfl rfl (by decide) (by first | rfl | exact decide_eq_true (by omega) | exact decide_eq_false (by omega) | exact ndec_t (by omega) | exact ndec_f (by omega)) ?_
    | refine wpA_ct rfl (by first | rfl | exact decide_eq_true (by omega) | exact ndec_t (by omega)) ?_
    | refine wpA_cf rfl (by first | rfl | exact decide_eq_false (by omega) | exact ndec_f (by omega)) ?_
    | refine wpA_skip ?_
    | refine wpA_exit ?_
    | refine wpA_ret ?_
    | refine x_then_exit ?_
    | refine x_then_ret ?_
    | refine x_then_normal ?_
    | refine x_block_ret ?_
    | refine x_block_normal ?_
    | refine x_block_exit ?_
    | refine x_block_other rfl ?_
    | refine wpL_v rfl rfl (by decide) (OpV_pick_t rfl rfl (ndec_t (by omega)) rfl) ?_
    | refine wpL_v rfl rfl (by decide) (OpV_pick_f rfl rfl (ndec_f (by omega)) rfl) ?_)
  refine wpA_ghostH 15 71 2 hG rfl ?_
  intro f0 G hG
  refine wpA_loopS (S := Nat × Nat × Nat) (fun x => [(0, pcs l), (1, I a), (2, I ((a + n : Nat) : Int)), (4, I height), (10, .ptr r 0), (12, .ptr p 0), (14, I (yB l a height x.1)), (15, .sl x.2.2 0 (feetN l a x.1).length 2), (16, I 0), (17, I ((a + x.1 : Nat) : Int))])
    (fun x G => x.1 ≤ n ∧ Has G [(x.2.2, ⟨(feetN l a x.1).flatMap encFoot, 71, true⟩), (r, ⟨[I 0, I 0, .v (.string .empty), I 0, I 0, .v (.slice none 0 0), .v (.slice none 0 0), I 0, I 0], 31, true⟩), (p, ⟨pageC width height x.2.1 (slotsN l a height x.1).length u 0 0 0, 31, true⟩), (x.2.1, ⟨(slotsN l a height x.1).flatMap encSlot, 40, true⟩), (u, ⟨[], 40, true⟩)])
    (fun x => n - x.1) (0, s, f0) (.cons rfl (.cons rfl (.cons rfl (.cons rfl (.cons rfl (.cons rfl (.cons rfl (.cons rfl (.cons rfl (.cons rfl (.nil _))))))))))) ⟨by omega, hG⟩ ?_
  rintro ⟨k, s1, f1⟩ G ⟨hk, hG⟩
  dsimp only at hG hk ⊢
  by_cases hkn : k < n
  · have hp := pg_some (show a + k < l.length by omega)
    have hpk := ok_pg hl (show a + k < l.length by omega)
    have y1 := yA_le hl a height k (by omega)
    have y2 := yB_le hl a height k (by omega) ha
    have y3 := hpk.height
    have y4 := hpk.before
    have n1 := slotsN_len l a height k
    have n2 := feetN_len hl a k (by omega)
    have n3 := hpk.feet
    simp only [small] at y3 y4
    repeat (first
      | refine wpL_end ?_
      | refine wpL_nil ?_
      | refine wpA_seq ?_
      | refine wpA_region ?_
      | refine wpA_block ?_
      | refine wpL_v rfl rfl (by decide) (OpV_index_tr rfl rfl rfl (by omega) (pcs_spot hp)) ?_
      | refine wpL_v rfl rfl (by decide) (OpV_move rfl rfl) ?_
      | refine wpL_v rfl rfl (by decide) (OpV_assign rfl rfl) ?_
      | refine wpL_v rfl rfl (by decide) (OpV_cmp rfl rfl rfl rfl) ?_
      | refine wpL_v rfl rfl (by decide) (OpV_add rfl rfl rfl (by omega)) ?_
      | refine wpL_v rfl rfl (by decide) (OpV_sub rfl rfl rfl (by omega)) ?_
      | refine wpL_v rfl rfl (by decide) (OpV_len rfl rfl rfl) ?_
      | refine wpL_v rfl rfl (by decide) (OpV_nilCheck rfl rfl rfl) ?_
      | refine wpL_v rfl rfl (by decide) (OpV_fieldAddr rfl rfl rfl rfl) ?_
      | refine wpL_v rfl rfl (by decide) (OpV_load rfl rfl rfl) ?_
      | refine wpL_v rfl rfl (by decide) (OpV_not rfl rfl) ?_
      | refine wpL_v rfl rfl (by decide) (OpV_extract rfl rfl rfl) ?_
      | refine wpL_v rfl rfl (by decide) (OpV_pick_t rfl rfl (by first | rfl | exact decide_eq_true (by omega)) rfl) ?_
      | refine wpL_v rfl rfl (by decide) (OpV_pick_f rfl rfl (by first | rfl | exact decide_eq_false (by omega)) rfl) ?_
      | refine wpL_v rfl rfl (by decide) (OpV_build rfl rfl rfl rfl) ?_
      | refine wpL_v rfl rfl (by decide) (OpV_max rfl rfl rfl) ?_
      | refine wpL_v rfl rfl (by decide) (OpV_min rfl rfl rfl) ?_
      | refine wpL_v rfl rfl (by decide) (OpV_nilptr rfl rfl rfl) ?_
      | refine wpL_v rfl rfl (by decide) (OpV_beq rfl rfl rfl) ?_
      | refine wpL_v rfl rfl (by decide) (OpV_bne rfl rfl rfl) ?_
      | refine wpL_v rfl rfl (by decide) (OpV_makeFunc rfl rfl) ?_
      | refine wpL_loadH 0 hG rfl rfl (by decide) rfl rfl rfl rfl ?_
      | refine wpL_loadH 1 hG rfl rfl (by decide) rfl rfl rfl rfl ?_
      | refine wpL_loadH 2 hG rfl rfl (by decide) rfl rfl rfl rfl ?_
      | refine wpL_loadH 3 hG rfl rfl (by decide) rfl rfl rfl rfl ?_
      | refine wpL_loadH 4 hG rfl rfl (by decide) rfl rfl rfl rfl ?_
      | refine wpL_loadH 5 hG rfl rfl (by decide) rfl rfl rfl rfl ?_
      | (refine wpL_storeH 0 hG rfl rfl rfl rfl rfl rfl rfl rfl rfl rfl rfl ?_; intro G hG)
      | (refine wpL_storeH 1 hG rfl rfl rfl rfl rfl rfl rfl rfl rfl rfl rfl ?_; intro G hG)
      | (refine wpL_storeH 2 hG rfl rfl rfl rfl rfl rfl rfl rfl rfl rfl rfl ?_; intro G hG)
      | (refine wpL_storeH 3 hG rfl rfl rfl rfl rfl rfl rfl rfl rfl rfl rfl ?_; intro G hG)
      | (refine wpL_storeH 4 hG rfl rfl rfl rfl rfl rfl rfl rfl rfl rfl rfl ?_; intro G hG)
      | (refine wpL_storeH 5 hG rfl rfl rfl rfl rfl rfl rfl rfl rfl rfl rfl ?_; intro G hG)
      | (refine wpL_allocH hG rfl rfl (by decide) rfl rfl ?_; intro id G hG)
      | (refine wpL_boxH hG rfl rfl (by decide) rfl rfl rfl ?_; intro id G hG)
      | (refine wpL_sliceH hG rfl rfl (by decide) rfl rfl rfl rfl rfl rfl rfl rfl ?_; intro id G hG)
      | refine wpL_gt rfl rfl rfl rfl rfl (by decide) (by first | rfl | exact decide_eq_true (by omega) | exact decide_eq_false (by omega) | exact ndec_t (by omega) | exact ndec_f (by omega)) ?_
      | refine wpL_gf rfl rfl rfl rfl rfl (by decide) (by first | rfl | exact decide_eq_true (by omega) | exact decide_eq_false (by omega) | exact ndec_t (by omega) | exact ndec_f (by omega)) ?_
      | refine wpA_ct rfl (by first | rfl | exact decide_eq_true (by omega) | exact ndec_t (by omega)) ?_
      | refine wpA_cf rfl (by first | rfl | exact decide_eq_false (by omega) | exact ndec_f (by omega)) ?_
      | refine wpA_skip ?_
      | refine wpA_exit ?_
      | refine wpA_ret ?_
      | refine x_then_exit ?_
      | refine x_then_ret ?_
      | refine x_then_normal ?_
      | refine x_block_ret ?_
      | refine x_block_normal ?_
      | refine x_block_exit ?_
      | refine x_block_other rfl ?_
      | refine wpL_v rfl rfl (by decide) (OpV_pick_t rfl rfl (ndec_t (by omega)) rfl) ?_
      | refine wpL_v rfl rfl (by decide) (OpV_pick_f rfl rfl (ndec_f (by omega)) rfl) ?_)
    refine wpA_cut2 (S := Nat) (fun x => [(0, pcs l), (1, I a), (2, I ((a + n : Nat) : Int)), (4, I height), (10, .ptr r 0), (12, .ptr p 0), (14, I (yA l a height k)), (15, .sl f1 0 (feetN l a k).length 2), (16, I 0), (17, I ((a + k : Nat) : Int)), (18, .ptr x 0)])
      (fun x G => Has G [(x, ⟨encPiece (pg l (a + k)), 43, true⟩), (f1, ⟨(feetN l a k).flatMap encFoot, 71, true⟩), (r, ⟨[I 0, I 0, .v (.string .empty), I 0, I 0, .v (.slice none 0 0), .v (.slice none 0 0), I 0, I 0], 31, true⟩), (p, ⟨pageC width height s1 (slotsN l a height k).length u 0 0 0, 31, true⟩), (s1, ⟨(slotsN l a height k).flatMap encSlot, 40, true⟩), (u, ⟨[], 40, true⟩)]) ?_ ?_
    · cases k with
      | zero =>
        repeat (first
          | refine wpL_end ?_
          | refine wpL_nil ?_
          | refine wpA_seq ?_
          | refine wpA_region ?_
          | refine wpA_block ?_
          | refine wpL_v rfl rfl (by decide) (OpV_move rfl rfl) ?_
          | refine wpL_v rfl rfl (by decide) (OpV_assign rfl rfl) ?_
          | refine wpL_v rfl rfl (by decide) (OpV_cmp rfl rfl rfl rfl) ?_
          | refine wpL_v rfl rfl (by decide) (OpV_add rfl rfl rfl (by omega)) ?_
          | refine wpL_v rfl rfl (by decide) (OpV_sub rfl rfl rfl (by omega)) ?_
          | refine wpL_v rfl rfl (by decide) (OpV_len rfl rfl rfl) ?_
          | refine wpL_v rfl rfl (by decide) (OpV_nilCheck rfl rfl rfl) ?_
          | refine wpL_v rfl rfl (by decide) (OpV_fieldAddr rfl rfl rfl rfl) ?_
          | refine wpL_v rfl rfl (by decide) (OpV_load rfl rfl rfl) ?_
          | refine wpL_v rfl rfl (by decide) (OpV_not rfl rfl) ?_
          | refine wpL_v rfl rfl (by decide) (OpV_extract rfl rfl rfl) ?_
          | refine wpL_v rfl rfl (by decide) (OpV_pick_t rfl rfl (by first | rfl | exact decide_eq_true (by omega)) rfl) ?_
          | refine wpL_v rfl rfl (by decide) (OpV_pick_f rfl rfl (by first | rfl | exact decide_eq_false (by omega)) rfl) ?_
          | refine wpL_v rfl rfl (by decide) (OpV_build rfl rfl rfl rfl) ?_
          | refine wpL_v rfl rfl (by decide) (OpV_max rfl rfl rfl) ?_
          | refine wpL_v rfl rfl (by decide) (OpV_min rfl rfl rfl) ?_
          | refine wpL_v rfl rfl (by decide) (OpV_nilptr rfl rfl rfl) ?_
          | refine wpL_v rfl rfl (by decide) (OpV_beq rfl rfl rfl) ?_
          | refine wpL_v rfl rfl (by decide) (OpV_bne rfl rfl rfl) ?_
          | refine wpL_v rfl rfl (by decide) (OpV_makeFunc rfl rfl) ?_
          | refine wpL_loadH 0 hG rfl rfl (by decide) rfl rfl rfl rfl ?_
          | refine wpL_loadH 1 hG rfl rfl (by decide) rfl rfl rfl rfl ?_
          | refine wpL_loadH 2 hG rfl rfl (by decide) rfl rfl rfl rfl ?_
          | refine wpL_loadH 3 hG rfl rfl (by decide) rfl rfl rfl rfl ?_
          | refine wpL_loadH 4 hG rfl rfl (by decide) rfl rfl rfl rfl ?_
          | refine wpL_loadH 5 hG rfl rfl (by decide) rfl rfl rfl rfl ?_
          | (refine wpL_storeH 0 hG rfl rfl rfl rfl rfl rfl rfl rfl rfl rfl rfl ?_; intro G hG)
          | (refine wpL_storeH 1 hG rfl rfl rfl rfl rfl rfl rfl rfl rfl rfl rfl ?_; intro G hG)
          | (refine wpL_storeH 2 hG rfl rfl rfl rfl rfl rfl rfl rfl rfl rfl rfl ?_; intro G hG)
          | (refine wpL_storeH 3 hG rfl rfl rfl rfl rfl rfl rfl rfl rfl rfl rfl ?_; intro G hG)
          | (refine wpL_storeH 4 hG rfl rfl rfl rfl rfl rfl rfl rfl rfl rfl rfl ?_; intro G hG)
          | (refine wpL_storeH 5 hG rfl rfl rfl rfl rfl rfl rfl rfl rfl rfl rfl ?_; intro G hG)
          | (refine wpL_allocH hG rfl rfl (by decide) rfl rfl ?_; intro id G hG)
          | (refine wpL_boxH hG rfl rfl (by decide) rfl rfl rfl ?_; intro id G hG)
          | (refine wpL_sliceH hG rfl rfl (by decide) rfl rfl rfl rfl rfl rfl rfl rfl ?_; intro id G hG)
          | refine wpL_gt rfl rfl rfl rfl rfl (by decide) (by first | rfl | exact decide_eq_true (by omega) | exact decide_eq_false (by omega) | exact ndec_t (by omega) | exact ndec_f (by omega)) ?_
          | refine wpL_gf rfl rfl rfl rfl rfl (by decide) (by first | rfl | exact decide_eq_true (by omega) | exact decide_eq_false (by omega) | exact ndec_t (by omega) | exact ndec_f (by omega)) ?_
          | refine wpA_ct rfl (by first | rfl | exact decide_eq_true (by omega) | exact ndec_t (by omega)) ?_
          | refine wpA_cf rfl (by first | rfl | exact decide_eq_false (by omega) | exact ndec_f (by omega)) ?_
          | refine wpA_skip ?_
          | refine wpA_exit ?_
          | refine wpA_ret ?_
          | refine x_then_exit ?_
          | refine x_then_ret ?_
          | refine x_then_normal ?_
          | refine x_block_ret ?_
          | refine x_block_normal ?_
          | refine x_block_exit ?_
          | refine x_block_other rfl ?_
          | refine wpL_v rfl rfl (by decide) (OpV_pick_t rfl rfl (ndec_t (by omega)) rfl) ?_
          | refine wpL_v rfl rfl (by decide) (OpV_pick_f rfl rfl (ndec_f (by omega)) rfl) ?_)
        exact ⟨_, .cons rfl (.cons rfl (.cons rfl (.cons rfl (.cons rfl (.cons rfl (.cons rfl (.cons rfl (.cons rfl (.cons rfl (.cons rfl (.nil _))))))))))), hG⟩
      | succ k =>
        have hq := ok_pg hl (show a + k < l.length by omega)
        have y5 := hq.after
        simp only [small] at y5
        have hpj : takeN 12 ((l.flatMap encPiece).drop ((((a + (k + 1) : Nat) : Int) - 1).toNat * 12)) = some (encPiece (pg l (a + k))) := by
          rw [show (((a + (k + 1) : Nat) : Int) - 1).toNat = a + k from by omega]
          exact pcs_spot (pg_some (by omega))
        repeat (first
          | refine wpL_end ?_
          | refine wpL_nil ?_
          | refine wpA_seq ?_
          | refine wpA_region ?_
          | refine wpA_block ?_
          | refine wpL_v rfl rfl (by decide) (OpV_move rfl rfl) ?_
          | refine wpL_v rfl rfl (by decide) (OpV_assign rfl rfl) ?_
          | refine wpL_v rfl rfl (by decide) (OpV_cmp rfl rfl rfl rfl) ?_
          | refine wpL_v rfl rfl (by decide) (OpV_add rfl rfl rfl (by omega)) ?_
          | refine wpL_v rfl rfl (by decide) (OpV_sub rfl rfl rfl (by omega)) ?_
          | refine wpL_v rfl rfl (by decide) (OpV_len rfl rfl rfl) ?_
          | refine wpL_v rfl rfl (by decide) (OpV_nilCheck rfl rfl rfl) ?_
          | refine wpL_v rfl rfl (by decide) (OpV_fieldAddr rfl rfl rfl rfl) ?_
          | refine wpL_v rfl rfl (by decide) (OpV_load rfl rfl rfl) ?_
          | refine wpL_v rfl rfl (by decide) (OpV_not rfl rfl) ?_
          | refine wpL_v rfl rfl (by decide) (OpV_extract rfl rfl rfl) ?_
          | refine wpL_v rfl rfl (by decide) (OpV_pick_t rfl rfl (by first | rfl | exact decide_eq_true (by omega)) rfl) ?_
          | refine wpL_v rfl rfl (by decide) (OpV_pick_f rfl rfl (by first | rfl | exact decide_eq_false (by omega)) rfl) ?_
          | refine wpL_v rfl rfl (by decide) (OpV_build rfl rfl rfl rfl) ?_
          | refine wpL_v rfl rfl (by decide) (OpV_max rfl rfl rfl) ?_
          | refine wpL_v rfl rfl (by decide) (OpV_min rfl rfl rfl) ?_
          | refine wpL_v rfl rfl (by decide) (OpV_nilptr rfl rfl rfl) ?_
          | refine wpL_v rfl rfl (by decide) (OpV_beq rfl rfl rfl) ?_
          | refine wpL_v rfl rfl (by decide) (OpV_bne rfl rfl rfl) ?_
          | refine wpL_v rfl rfl (by decide) (OpV_makeFunc rfl rfl) ?_
          | refine wpL_loadH 0 hG rfl rfl (by decide) rfl rfl rfl rfl ?_
          | refine wpL_loadH 1 hG rfl rfl (by decide) rfl rfl rfl rfl ?_
          | refine wpL_loadH 2 hG rfl rfl (by decide) rfl rfl rfl rfl ?_
          | refine wpL_loadH 3 hG rfl rfl (by decide) rfl rfl rfl rfl ?_
          | refine wpL_loadH 4 hG rfl rfl (by decide) rfl rfl rfl rfl ?_
          | refine wpL_loadH 5 hG rfl rfl (by decide) rfl rfl rfl rfl ?_
          | (refine wpL_storeH 0 hG rfl rfl rfl rfl rfl rfl rfl rfl rfl rfl rfl ?_; intro G hG)
          | (refine wpL_storeH 1 hG rfl rfl rfl rfl rfl rfl rfl rfl rfl rfl rfl ?_; intro G hG)
          | (refine wpL_storeH 2 hG rfl rfl rfl rfl rfl rfl rfl rfl rfl rfl rfl ?_; intro G hG)
          | (refine wpL_storeH 3 hG rfl rfl rfl rfl rfl rfl rfl rfl rfl rfl rfl ?_; intro G hG)
          | (refine wpL_storeH 4 hG rfl rfl rfl rfl rfl rfl rfl rfl rfl rfl rfl ?_; intro G hG)
          | (refine wpL_storeH 5 hG rfl rfl rfl rfl rfl rfl rfl rfl rfl rfl rfl ?_; intro G hG)
          | (refine wpL_allocH hG rfl rfl (by decide) rfl rfl ?_; intro id G hG)
          | (refine wpL_boxH hG rfl rfl (by decide) rfl rfl rfl ?_; intro id G hG)
          | (refine wpL_sliceH hG rfl rfl (by decide) rfl rfl rfl rfl rfl rfl rfl rfl ?_; intro id G hG)
          | refine wpL_gt rfl rfl rfl rfl rfl (by decide) (by first | rfl | exact decide_eq_true (by omega) | exact decide_eq_false (by omega) | exact ndec_t (by omega) | exact ndec_f (by omega)) ?_
          | refine wpL_gf rfl rfl rfl rfl rfl (by decide) (by first | rfl | exact decide_eq_true (by omega) | exact decide_eq_false (by omega) | exact ndec_t (by omega) | exact ndec_f (by omega)) ?_
          | refine wpA_ct rfl (by first | rfl | exact decide_eq_true (by omega) | exact ndec_t (by omega)) ?_
          | refine wpA_cf rfl (by first | rfl | exact decide_eq_false (by omega) | exact ndec_f (by omega)) ?_
          | refine wpA_skip ?_
          | refine wpA_exit ?_
          | refine wpA_ret ?_
          | refine x_then_exit ?_
          | refine x_then_ret ?_
          | refine x_then_normal ?_
          | refine x_block_ret ?_
          | refine x_block_normal ?_
          | refine x_block_exit ?_
          | refine x_block_other rfl ?_
          | refine wpL_v rfl rfl (by decide) (OpV_pick_t rfl rfl (ndec_t (by omega)) rfl) ?_
          | refine wpL_v rfl rfl (by decide) (OpV_pick_f rfl rfl (ndec_f (by omega)) rfl) ?_)
        refine wpA_dq mixed (by decide +kernel) ?_
        repeat (first
          | refine D_q rfl rfl rfl (by decide) (OpV_load_at rfl rfl (hG.get 0 _ _ rfl) rfl) ?_
          | refine D_q rfl rfl rfl (by decide) (OpV_index_tr rfl rfl rfl (by omega) hpj) ?_
          | refine D_q rfl rfl rfl (by decide) (OpV_move rfl rfl) ?_
          | refine D_q rfl rfl rfl (by decide) (OpV_assign rfl rfl) ?_
          | refine D_q rfl rfl rfl (by decide) (OpV_cmp rfl rfl rfl rfl) ?_
          | refine D_q rfl rfl rfl (by decide) (OpV_add rfl rfl rfl (by omega)) ?_
          | refine D_q rfl rfl rfl (by decide) (OpV_sub rfl rfl rfl (by omega)) ?_
          | refine D_q rfl rfl rfl (by decide) (OpV_len rfl rfl rfl) ?_
          | refine D_q rfl rfl rfl (by decide) (OpV_nilCheck rfl rfl rfl) ?_
          | refine D_q rfl rfl rfl (by decide) (OpV_fieldAddr rfl rfl rfl rfl) ?_
          | refine D_q rfl rfl rfl (by decide) (OpV_load rfl rfl rfl) ?_
          | refine D_q rfl rfl rfl (by decide) (OpV_load_at rfl rfl (get_new _ _) rfl) ?_
          | refine D_q rfl rfl rfl (by decide) (OpV_not rfl rfl) ?_
          | refine D_q rfl rfl rfl (by decide) (OpV_extract rfl rfl rfl) ?_
          | refine D_q rfl rfl rfl (by decide) (OpV_pick_t rfl rfl (by first | rfl | exact decide_eq_true (by omega)) rfl) ?_
          | refine D_q rfl rfl rfl (by decide) (OpV_pick_f rfl rfl (by first | rfl | exact decide_eq_false (by omega)) rfl) ?_
          | refine D_q rfl rfl rfl (by decide) (OpV_build rfl rfl rfl rfl) ?_
          | refine D_q rfl rfl rfl (by decide) (OpV_max rfl rfl rfl) ?_
          | refine D_q rfl rfl rfl (by decide) (OpV_min rfl rfl rfl) ?_
          | refine D_q rfl rfl rfl (by decide) (OpV_nilptr rfl rfl rfl) ?_
          | refine D_q rfl rfl rfl (by decide) (OpV_beq rfl rfl rfl) ?_
          | refine D_q rfl rfl rfl (by decide) (OpV_bne rfl rfl rfl) ?_
          | refine D_q rfl rfl rfl (by decide) (OpV_makeFunc rfl rfl) ?_
          | refine D_gq rfl rfl rfl rfl rfl (by decide) (OpV_move rfl rfl) ?_
          | refine D_gq rfl rfl rfl rfl rfl (by decide) (OpV_assign rfl rfl) ?_
          | refine D_gq rfl rfl rfl rfl rfl (by decide) (OpV_cmp rfl rfl rfl rfl) ?_
          | refine D_gq rfl rfl rfl rfl rfl (by decide) (OpV_add rfl rfl rfl (by omega)) ?_
          | refine D_gq rfl rfl rfl rfl rfl (by decide) (OpV_sub rfl rfl rfl (by omega)) ?_
          | refine D_gq rfl rfl rfl rfl rfl (by decide) (OpV_len rfl rfl rfl) ?_
          | refine D_gq rfl rfl rfl rfl rfl (by decide) (OpV_nilCheck rfl rfl rfl) ?_
          | refine D_gq rfl rfl rfl rfl rfl (by decide) (OpV_fieldAddr rfl rfl rfl rfl) ?_
          | refine D_gq rfl rfl rfl rfl rfl (by decide) (OpV_load rfl rfl rfl) ?_
          | refine D_gq rfl rfl rfl rfl rfl (by decide) (OpV_not rfl rfl) ?_
          | refine D_gq rfl rfl rfl rfl rfl (by decide) (OpV_extract rfl rfl rfl) ?_
          | refine D_gn rfl rfl rfl rfl rfl rfl (by decide) ?_
          | refine D_end ?_)
        exact ⟨_, .cons rfl (.cons rfl (.cons rfl (.cons rfl (.cons rfl (.cons rfl (.cons rfl (.cons rfl (.cons rfl (.cons rfl (.cons rfl (.nil _))))))))))), hG⟩
    intro q G hG
    have c1 : ((slotsN l a height k).flatMap encSlot).length = (slotsN l a height k).length * 6 := flat_len encSlot_len _
    have c2 : ((feetN l a k).flatMap encFoot).length = (feetN l a k).length * 2 := flat_len encFoot_len _
    have c3 : ((pg l (a + k)).feet.flatMap encFoot).all pvOne = true := by
      rw [List.all_eq_true]
      intro c hc
      obtain ⟨x, _, hx⟩ := List.mem_flatMap.1 hc
      simp only [encFoot, List.mem_cons, List.not_mem_nil, or_false] at hx
      rcases hx with rfl | rfl <;> rfl
    repeat (first
      | refine wpL_end ?_
      | refine wpL_nil ?_
      | refine wpA_seq ?_
      | refine wpA_region ?_
      | refine wpA_block ?_
      | (refine wpL_appendH 5 hG rfl rfl (by decide) rfl rfl rfl rfl rfl rfl c1 rfl (hG.cellsOf (k := 0) rfl rfl) rfl (by omega) (by omega) ?_; intro s2 G hG)
      | (refine wpL_appendH 2 hG rfl rfl (by decide) rfl rfl rfl rfl rfl rfl c2 rfl rfl c3 (by omega) (by omega) ?_; intro f2 G hG)
      | refine wpL_v rfl rfl (by decide) (OpV_move rfl rfl) ?_
      | refine wpL_v rfl rfl (by decide) (OpV_assign rfl rfl) ?_
      | refine wpL_v rfl rfl (by decide) (OpV_cmp rfl rfl rfl rfl) ?_
      | refine wpL_v rfl rfl (by decide) (OpV_add rfl rfl rfl (by omega)) ?_
      | refine wpL_v rfl rfl (by decide) (OpV_sub rfl rfl rfl (by omega)) ?_
      | refine wpL_v rfl rfl (by decide) (OpV_len rfl rfl rfl) ?_
      | refine wpL_v rfl rfl (by decide) (OpV_nilCheck rfl rfl rfl) ?_
      | refine wpL_v rfl rfl (by decide) (OpV_fieldAddr rfl rfl rfl rfl) ?_
      | refine wpL_v rfl rfl (by decide) (OpV_load rfl rfl rfl) ?_
      | refine wpL_v rfl rfl (by decide) (OpV_not rfl rfl) ?_
      | refine wpL_v rfl rfl (by decide) (OpV_extract rfl rfl rfl) ?_
      | refine wpL_v rfl rfl (by decide) (OpV_pick_t rfl rfl (by first | rfl | exact decide_eq_true (by omega)) rfl) ?_
      | refine wpL_v rfl rfl (by decide) (OpV_pick_f rfl rfl (by first | rfl | exact decide_eq_false (by omega)) rfl) ?_
      | refine wpL_v rfl rfl (by decide) (OpV_build rfl rfl rfl rfl) ?_
      | refine wpL_v rfl rfl (by decide) (OpV_max rfl rfl rfl) ?_
      | refine wpL_v rfl rfl (by decide) (OpV_min rfl rfl rfl) ?_
      | refine wpL_v rfl rfl (by decide) (OpV_nilptr rfl rfl rfl) ?_
      | refine wpL_v rfl rfl (by decide) (OpV_beq rfl rfl rfl) ?_
      | refine wpL_v rfl rfl (by decide) (OpV_bne rfl rfl rfl) ?_
      | refine wpL_v rfl rfl (by decide) (OpV_makeFunc rfl rfl) ?_
      | refine wpL_loadH 0 hG rfl rfl (by decide) rfl rfl rfl rfl ?_
      | refine wpL_loadH 1 hG rfl rfl (by decide) rfl rfl rfl rfl ?_
      | refine wpL_loadH 2 hG rfl rfl (by decide) rfl rfl rfl rfl ?_
      | refine wpL_loadH 3 hG rfl rfl (by decide) rfl rfl rfl rfl ?_
      | refine wpL_loadH 4 hG rfl rfl (by decide) rfl rfl rfl rfl ?_
      | refine wpL_loadH 5 hG rfl rfl (by decide) rfl rfl rfl rfl ?_
      | (refine wpL_storeH 0 hG rfl rfl rfl rfl rfl rfl rfl rfl rfl rfl rfl ?_; intro G hG)
      | (refine wpL_storeH 1 hG rfl rfl rfl rfl rfl rfl rfl rfl rfl rfl rfl ?_; intro G hG)
      | (refine wpL_storeH 2 hG rfl rfl rfl rfl rfl rfl rfl rfl rfl rfl rfl ?_; intro G hG)
      | (refine wpL_storeH 3 hG rfl rfl rfl rfl rfl rfl rfl rfl rfl rfl rfl ?_; intro G hG)
      | (refine wpL_storeH 4 hG rfl rfl rfl rfl rfl rfl rfl rfl rfl rfl rfl ?_; intro G hG)
      | (refine wpL_storeH 5 hG rfl rfl rfl rfl rfl rfl rfl rfl rfl rfl rfl ?_; intro G hG)
      | (refine wpL_allocH hG rfl rfl (by decide) rfl rfl ?_; intro id G hG)
      | (refine wpL_boxH hG rfl rfl (by decide) rfl rfl rfl ?_; intro id G hG)
      | (refine wpL_sliceH hG rfl rfl (by decide) rfl rfl rfl rfl rfl rfl rfl rfl ?_; intro id G hG)
      | refine wpL_gt rfl rfl rfl rfl rfl (by decide) (by first | rfl | exact decide_eq_true (by omega) | exact decide_eq_false (by omega) | exact ndec_t (by omega) | exact ndec_f (by omega)) ?_
      | refine wpL_gf rfl rfl rfl rfl rfl (by decide) (by first | rfl | exact decide_eq_true (by omega) | exact decide_eq_false (by omega) | exact ndec_t (by omega) | exact ndec_f (by omega)) ?_
      | refine wpA_ct rfl (by first | rfl | exact decide_eq_true (by omega) | exact ndec_t (by omega)) ?_
      | refine wpA_cf rfl (by first | rfl | exact decide_eq_false (by omega) | exact ndec_f (by omega)) ?_
      | refine wpA_skip ?_
      | refine wpA_exit ?_
      | refine wpA_ret ?_
      | refine x_then_exit ?_
      | refine x_then_ret ?_
      | refine x_then_normal ?_
      | refine x_block_ret ?_
      | refine x_block_normal ?_
      | refine x_block_exit ?_
      | refine x_block_other rfl ?_
      | refine wpL_v rfl rfl (by decide) (OpV_pick_t rfl rfl (ndec_t (by omega)) rfl) ?_
      | refine wpL_v rfl rfl (by decide) (OpV_pick_f rfl rfl (ndec_f (by omega)) rfl) ?_)
    have d1 : (slotsN l a height (k + 1)).flatMap encSlot = (slotsN l a height k).flatMap encSlot ++ encSlot (slotAt l a height k) := by simp [slotsN]
    have d2 : (slotsN l a height (k + 1)).length = (slotsN l a height k).length + 1 := by simp [slotsN]
    have d3 : (feetN l a (k + 1)).flatMap encFoot = (feetN l a k).flatMap encFoot ++ (pg l (a + k)).feet.flatMap encFoot := by simp [feetN]
    have d4 : (feetN l a (k + 1)).length = (feetN l a k).length + (pg l (a + k)).feet.length := by simp [feetN]
    refine ⟨(k + 1, s2, f2), by simp only; omega, ?_, by simp only; omega, ?_⟩
    · simp only [d4]
      exact .cons rfl (.cons rfl (.cons rfl (.cons rfl (.cons rfl (.cons rfl (.cons rfl (.cons rfl (.cons rfl (.cons rfl (.nil _))))))))))
    · simp only [d1, d2, d3]
      exact hG.pick [2, 3, 4, 5, 6] (by decide) rfl
  · have hk' : k = n := by omega
    subst hk'
    have c2 : ((feetN l a k).flatMap encFoot).length = (feetN l a k).length * 2 := flat_len encFoot_len _
    refine wpA_freeze 15 rfl (hG.get 0 _ _ rfl) (takeN_all c2) ?_
    have hG := hG.forget
    have n1 := slotsN_len l a height k
    have n2 := feetN_len hl a k (by omega)
    have n3 := feetN_ok hl a k (by omega)
    have y2 := yB_le hl a height k (by omega) ha
    have n4 := sumFeet_le _ n3
    repeat (first
      | refine wpL_end ?_
      | refine wpL_nil ?_
      | refine wpA_seq ?_
      | refine wpA_region ?_
      | refine wpA_block ?_
      | refine wpL_v rfl rfl (by decide) (OpV_move rfl rfl) ?_
      | refine wpL_v rfl rfl (by decide) (OpV_assign rfl rfl) ?_
      | refine wpL_v rfl rfl (by decide) (OpV_cmp rfl rfl rfl rfl) ?_
      | refine wpL_v rfl rfl (by decide) (OpV_add rfl rfl rfl (by omega)) ?_
      | refine wpL_v rfl rfl (by decide) (OpV_sub rfl rfl rfl (by omega)) ?_
      | refine wpL_v rfl rfl (by decide) (OpV_len rfl rfl rfl) ?_
      | refine wpL_v rfl rfl (by decide) (OpV_nilCheck rfl rfl rfl) ?_
      | refine wpL_v rfl rfl (by decide) (OpV_fieldAddr rfl rfl rfl rfl) ?_
      | refine wpL_v rfl rfl (by decide) (OpV_load rfl rfl rfl) ?_
      | refine wpL_v rfl rfl (by decide) (OpV_not rfl rfl) ?_
      | refine wpL_v rfl rfl (by decide) (OpV_extract rfl rfl rfl) ?_
      | refine wpL_v rfl rfl (by decide) (OpV_pick_t rfl rfl (by first | rfl | exact decide_eq_true (by omega)) rfl) ?_
      | refine wpL_v rfl rfl (by decide) (OpV_pick_f rfl rfl (by first | rfl | exact decide_eq_false (by omega)) rfl) ?_
      | refine wpL_v rfl rfl (by decide) (OpV_build rfl rfl rfl rfl) ?_
      | refine wpL_v rfl rfl (by decide) (OpV_max rfl rfl rfl) ?_
      | refine wpL_v rfl rfl (by decide) (OpV_min rfl rfl rfl) ?_
      | refine wpL_v rfl rfl (by decide) (OpV_nilptr rfl rfl rfl) ?_
      | refine wpL_v rfl rfl (by decide) (OpV_beq rfl rfl rfl) ?_
      | refine wpL_v rfl rfl (by decide) (OpV_bne rfl rfl rfl) ?_
      | refine wpL_v rfl rfl (by decide) (OpV_makeFunc rfl rfl) ?_
      | refine wpL_loadH 0 hG rfl rfl (by decide) rfl rfl rfl rfl ?_
      | refine wpL_loadH 1 hG rfl rfl (by decide) rfl rfl rfl rfl ?_
      | refine wpL_loadH 2 hG rfl rfl (by decide) rfl rfl rfl rfl ?_
      | refine wpL_loadH 3 hG rfl rfl (by decide) rfl rfl rfl rfl ?_
      | refine wpL_loadH 4 hG rfl rfl (by decide) rfl rfl rfl rfl ?_
      | refine wpL_loadH 5 hG rfl rfl (by decide) rfl rfl rfl rfl ?_
      | (refine wpL_storeH 0 hG rfl rfl rfl rfl rfl rfl rfl rfl rfl rfl rfl ?_; intro G hG)
      | (refine wpL_storeH 1 hG rfl rfl rfl rfl rfl rfl rfl rfl rfl rfl rfl ?_; intro G hG)
      | (refine wpL_storeH 2 hG rfl rfl rfl rfl rfl rfl rfl rfl rfl rfl rfl ?_; intro G hG)
      | (refine wpL_storeH 3 hG rfl rfl rfl rfl rfl rfl rfl rfl rfl rfl rfl ?_; intro G hG)
      | (refine wpL_storeH 4 hG rfl rfl rfl rfl rfl rfl rfl rfl rfl rfl rfl ?_; intro G hG)
      | (refine wpL_storeH 5 hG rfl rfl rfl rfl rfl rfl rfl rfl rfl rfl rfl ?_; intro G hG)
      | (refine wpL_allocH hG rfl rfl (by decide) rfl rfl ?_; intro id G hG)
      | (refine wpL_boxH hG rfl rfl (by decide) rfl rfl rfl ?_; intro id G hG)
      | (refine wpL_sliceH hG rfl rfl (by decide) rfl rfl rfl rfl rfl rfl rfl rfl ?_; intro id G hG)
      | refine wpL_gt rfl rfl rfl rfl rfl (by decide) (by first | rfl | exact decide_eq_true (by omega) | exact decide_eq_false (by omega) | exact ndec_t (by omega) | exact ndec_f (by omega)) ?_
      | refine wpL_gf rfl rfl rfl rfl rfl (by decide) (by first | rfl | exact decide_eq_true (by omega) | exact decide_eq_false (by omega) | exact ndec_t (by omega) | exact ndec_f (by omega)) ?_
      | refine wpA_ct rfl (by first | rfl | exact decide_eq_true (by omega) | exact ndec_t (by omega)) ?_
      | refine wpA_cf rfl (by first | rfl | exact decide_eq_false (by omega) | exact ndec_f (by omega)) ?_
      | refine wpA_skip ?_
      | refine wpA_exit ?_
      | refine wpA_ret ?_
      | refine x_then_exit ?_
      | refine x_then_ret ?_
      | refine x_then_normal ?_
      | refine x_block_ret ?_
      | refine x_block_normal ?_
      | refine x_block_exit ?_
      | refine x_block_other rfl ?_
      | refine wpL_v rfl rfl (by decide) (OpV_pick_t rfl rfl (ndec_t (by omega)) rfl) ?_
      | refine wpL_v rfl rfl (by decide) (OpV_pick_f rfl rfl (ndec_f (by omega)) rfl) ?_)
    refine wpA_loopS (S := Nat) (fun j => [(0, pcs l), (1, I a), (4, I height), (10, .ptr r 0), (12, .ptr p 0), (14, I (yB l a height k)), (15, feetP (feetN l a k)), (16, I (sumFeet ((feetN l a k).take j))), (120, feetP (feetN l a k)), (121, I (feetN l a k).length), (122, I j)])
      (fun j G => j ≤ (feetN l a k).length ∧ Has G [(r, ⟨[I 0, I 0, .v (.string .empty), I 0, I 0, .v (.slice none 0 0), .v (.slice none 0 0), I 0, I 0], 31, true⟩), (p, ⟨pageC width height s1 (slotsN l a height k).length u 0 0 0, 31, true⟩), (s1, ⟨(slotsN l a height k).flatMap encSlot, 40, true⟩), (u, ⟨[], 40, true⟩)])
      (fun j => (feetN l a k).length - j) 0 (.cons rfl (.cons rfl (.cons rfl (.cons rfl (.cons rfl (.cons rfl (.cons rfl (.cons rfl (.cons rfl (.cons rfl (.cons rfl (.nil _)))))))))))) ⟨by omega, hG⟩ ?_
    rintro j G ⟨hj, hG⟩
    by_cases hjn : j < (feetN l a k).length
    · obtain ⟨x, hx⟩ : ∃ x, (feetN l a k)[j]? = some x := ⟨_, List.getElem?_eq_getElem hjn⟩
      have x1 := (n3 x (List.mem_of_getElem? hx)).2
      have x2 := sumFeet_takes (feetN l a k) j n3
      have x3 := sumFeet_take _ j x hx
      simp only [small] at x1
      repeat (first
        | refine wpL_end ?_
        | refine wpL_nil ?_
        | refine wpA_seq ?_
        | refine wpA_region ?_
        | refine wpA_block ?_
        | refine wpL_v rfl rfl (by decide) (OpV_index_tr rfl rfl rfl (by omega) (feet_spot hx)) ?_
        | refine wpL_v rfl rfl (by decide) (OpV_move rfl rfl) ?_
        | refine wpL_v rfl rfl (by decide) (OpV_assign rfl rfl) ?_
        | refine wpL_v rfl rfl (by decide) (OpV_cmp rfl rfl rfl rfl) ?_
        | refine wpL_v rfl rfl (by decide) (OpV_add rfl rfl rfl (by omega)) ?_
        | refine wpL_v rfl rfl (by decide) (OpV_sub rfl rfl rfl (by omega)) ?_
        | refine wpL_v rfl rfl (by decide) (OpV_len rfl rfl rfl) ?_
        | refine wpL_v rfl rfl (by decide) (OpV_nilCheck rfl rfl rfl) ?_
        | refine wpL_v rfl rfl (by decide) (OpV_fieldAddr rfl rfl rfl rfl) ?_
        | refine wpL_v rfl rfl (by decide) (OpV_load rfl rfl rfl) ?_
        | refine wpL_v rfl rfl (by decide) (OpV_not rfl rfl) ?_
        | refine wpL_v rfl rfl (by decide) (OpV_extract rfl rfl rfl) ?_
        | refine wpL_v rfl rfl (by decide) (OpV_pick_t rfl rfl (by first | rfl | exact decide_eq_true (by omega)) rfl) ?_
        | refine wpL_v rfl rfl (by decide) (OpV_pick_f rfl rfl (by first | rfl | exact decide_eq_false (by omega)) rfl) ?_
        | refine wpL_v rfl rfl (by decide) (OpV_build rfl rfl rfl rfl) ?_
        | refine wpL_v rfl rfl (by decide) (OpV_max rfl rfl rfl) ?_
        | refine wpL_v rfl rfl (by decide) (OpV_min rfl rfl rfl) ?_
        | refine wpL_v rfl rfl (by decide) (OpV_nilptr rfl rfl rfl) ?_
        | refine wpL_v rfl rfl (by decide) (OpV_beq rfl rfl rfl) ?_
        | refine wpL_v rfl rfl (by decide) (OpV_bne rfl rfl rfl) ?_
        | refine wpL_v rfl rfl (by decide) (OpV_makeFunc rfl rfl) ?_
        | refine wpL_loadH 0 hG rfl rfl (by decide) rfl rfl rfl rfl ?_
        | refine wpL_loadH 1 hG rfl rfl (by decide) rfl rfl rfl rfl ?_
        | refine wpL_loadH 2 hG rfl rfl (by decide) rfl rfl rfl rfl ?_
        | refine wpL_loadH 3 hG rfl rfl (by decide) rfl rfl rfl rfl ?_
        | refine wpL_loadH 4 hG rfl rfl (by decide) rfl rfl rfl rfl ?_
        | refine wpL_loadH 5 hG rfl rfl (by decide) rfl rfl rfl rfl ?_
        | (refine wpL_storeH 0 hG rfl rfl rfl rfl rfl rfl rfl rfl rfl rfl rfl ?_; intro G hG)
        | (refine wpL_storeH 1 hG rfl rfl rfl rfl rfl rfl rfl rfl rfl rfl rfl ?_; intro G hG)
        | (refine wpL_storeH 2 hG rfl rfl rfl rfl rfl rfl rfl rfl rfl rfl rfl ?_; intro G hG)
        | (refine wpL_storeH 3 hG rfl rfl rfl rfl rfl rfl rfl rfl rfl rfl rfl ?_; intro G hG)
        | (refine wpL_storeH 4 hG rfl rfl rfl rfl rfl rfl rfl rfl rfl rfl rfl ?_; intro G hG)
        | (refine wpL_storeH 5 hG rfl rfl rfl rfl rfl rfl rfl rfl rfl rfl rfl ?_; intro G hG)
        | (refine wpL_allocH hG rfl rfl (by decide) rfl rfl ?_; intro id G hG)
        | (refine wpL_boxH hG rfl rfl (by decide) rfl rfl rfl ?_; intro id G hG)
        | (refine wpL_sliceH hG rfl rfl (by decide) rfl rfl rfl rfl rfl rfl rfl rfl ?_; intro id G hG)
        | refine wpL_gt rfl rfl rfl rfl rfl (by decide) (by first | rfl | exact decide_eq_true (by omega) | exact decide_eq_false (by omega) | exact ndec_t (by omega) | exact ndec_f (by omega)) ?_
        | refine wpL_gf rfl rfl rfl rfl rfl (by decide) (by first | rfl | exact decide_eq_true (by omega) | exact decide_eq_false (by omega) | exact ndec_t (by omega) | exact ndec_f (by omega)) ?_
        | refine wpA_ct rfl (by first | rfl | exact decide_eq_true (by omega) | exact ndec_t (by omega)) ?_
        | refine wpA_cf rfl (by first | rfl | exact decide_eq_false (by omega) | exact ndec_f (by omega)) ?_
        | refine wpA_skip ?_
        | refine wpA_exit ?_
        | refine wpA_ret ?_
        | refine x_then_exit ?_
        | refine x_then_ret ?_
        | refine x_then_normal ?_
        | refine x_block_ret ?_
        | refine x_block_normal ?_
        | refine x_block_exit ?_
        | refine x_block_other rfl ?_
        | refine wpL_v rfl rfl (by decide) (OpV_pick_t rfl rfl (ndec_t (by omega)) rfl) ?_
        | refine wpL_v rfl rfl (by decide) (OpV_pick_f rfl rfl (ndec_f (by omega)) rfl) ?_)
      refine ⟨j + 1, by omega, ?_, by omega, hG.pick [1, 2, 3, 4] (by decide) rfl⟩
      rw [x3]
      exact .cons rfl (.cons rfl (.cons rfl (.cons rfl (.cons rfl (.cons rfl (.cons rfl (.cons rfl (.cons rfl (.cons rfl (.cons rfl (.nil _)))))))))))
    · have hj' : j = (feetN l a k).length := by omega
      subst hj'
      rw [List.take_length]
      repeat (first
        | refine wpL_end ?_
        | refine wpL_nil ?_
        | refine wpA_seq ?_
        | refine wpA_region ?_
        | refine wpA_block ?_
        | refine wpL_v rfl rfl (by decide) (OpV_move rfl rfl) ?_
        | refine wpL_v rfl rfl (by decide) (OpV_assign rfl rfl) ?_
        | refine wpL_v rfl rfl (by decide) (OpV_cmp rfl rfl rfl rfl) ?_
        | refine wpL_v rfl rfl (by decide) (OpV_add rfl rfl rfl (by omega)) ?_
        | refine wpL_v rfl rfl (by decide) (OpV_sub rfl rfl rfl (by omega)) ?_
        | refine wpL_v rfl rfl (by decide) (OpV_len rfl rfl rfl) ?_
        | refine wpL_v rfl rfl (by decide) (OpV_nilCheck rfl rfl rfl) ?_
        | refine wpL_v rfl rfl (by decide) (OpV_fieldAddr rfl rfl rfl rfl) ?_
        | refine wpL_v rfl rfl (by decide) (OpV_load rfl rfl rfl) ?_
        | refine wpL_v rfl rfl (by decide) (OpV_not rfl rfl) ?_
        | refine wpL_v rfl rfl (by decide) (OpV_extract rfl rfl rfl) ?_
        | refine wpL_v rfl rfl (by decide) (OpV_pick_t rfl rfl (by first | rfl | exact decide_eq_true (by omega)) rfl) ?_
        | refine wpL_v rfl rfl (by decide) (OpV_pick_f rfl rfl (by first | rfl | exact decide_eq_false (by omega)) rfl) ?_
        | refine wpL_v rfl rfl (by decide) (OpV_build rfl rfl rfl rfl) ?_
        | refine wpL_v rfl rfl (by decide) (OpV_max rfl rfl rfl) ?_
        | refine wpL_v rfl rfl (by decide) (OpV_min rfl rfl rfl) ?_
        | refine wpL_v rfl rfl (by decide) (OpV_nilptr rfl rfl rfl) ?_
        | refine wpL_v rfl rfl (by decide) (OpV_beq rfl rfl rfl) ?_
        | refine wpL_v rfl rfl (by decide) (OpV_bne rfl rfl rfl) ?_
        | refine wpL_v rfl rfl (by decide) (OpV_makeFunc rfl rfl) ?_
        | refine wpL_loadH 0 hG rfl rfl (by decide) rfl rfl rfl rfl ?_
        | refine wpL_loadH 1 hG rfl rfl (by decide) rfl rfl rfl rfl ?_
        | refine wpL_loadH 2 hG rfl rfl (by decide) rfl rfl rfl rfl ?_
        | refine wpL_loadH 3 hG rfl rfl (by decide) rfl rfl rfl rfl ?_
        | refine wpL_loadH 4 hG rfl rfl (by decide) rfl rfl rfl rfl ?_
        | refine wpL_loadH 5 hG rfl rfl (by decide) rfl rfl rfl rfl ?_
        | (refine wpL_storeH 0 hG rfl rfl rfl rfl rfl rfl rfl rfl rfl rfl rfl ?_; intro G hG)
        | (refine wpL_storeH 1 hG rfl rfl rfl rfl rfl rfl rfl rfl rfl rfl rfl ?_; intro G hG)
        | (refine wpL_storeH 2 hG rfl rfl rfl rfl rfl rfl rfl rfl rfl rfl rfl ?_; intro G hG)
        | (refine wpL_storeH 3 hG rfl rfl rfl rfl rfl rfl rfl rfl rfl rfl rfl ?_; intro G hG)
        | (refine wpL_storeH 4 hG rfl rfl rfl rfl rfl rfl rfl rfl rfl rfl rfl ?_; intro G hG)
        | (refine wpL_storeH 5 hG rfl rfl rfl rfl rfl rfl rfl rfl rfl rfl rfl ?_; intro G hG)
        | (refine wpL_allocH hG rfl rfl (by decide) rfl rfl ?_; intro id G hG)
        | (refine wpL_boxH hG rfl rfl (by decide) rfl rfl rfl ?_; intro id G hG)
        | (refine wpL_sliceH hG rfl rfl (by decide) rfl rfl rfl rfl rfl rfl rfl rfl ?_; intro id G hG)
        | refine wpL_gt rfl rfl rfl rfl rfl (by decide) (by first | rfl | exact decide_eq_true (by omega) | exact decide_eq_false (by omega) | exact ndec_t (by omega) | exact ndec_f (by omega)) ?_
        | refine wpL_gf rfl rfl rfl rfl rfl (by decide) (by first | rfl | exact decide_eq_true (by omega) | exact decide_eq_false (by omega) | exact ndec_t (by omega) | exact ndec_f (by omega)) ?_
        | refine wpA_ct rfl (by first | rfl | exact decide_eq_true (by omega) | exact ndec_t (by omega)) ?_
        | refine wpA_cf rfl (by first | rfl | exact decide_eq_false (by omega) | exact ndec_f (by omega)) ?_
        | refine wpA_skip ?_
        | refine wpA_exit ?_
        | refine wpA_ret ?_
        | refine x_then_exit ?_
        | refine x_then_ret ?_
        | refine x_then_normal ?_
        | refine x_block_ret ?_
        | refine x_block_normal ?_
        | refine x_block_exit ?_
        | refine x_block_other rfl ?_
        | refine wpL_v rfl rfl (by decide) (OpV_pick_t rfl rfl (ndec_t (by omega)) rfl) ?_
        | refine wpL_v rfl rfl (by decide) (OpV_pick_f rfl rfl (ndec_f (by omega)) rfl) ?_)
      obtain ⟨b1, b2⟩ := bottom0_cases (yB l a height k) height (feetN l a k)
      have e21 : bottom0 (yB l a height k) height (feetN l a k) = if 0 < (feetN l a k).length then max (yB l a height k + 120) (height - sumFeet (feetN l a k)) else yB l a height k := rfl
      have e22 : encPage (placeF l a k width height) = [I 0, I 0, .v (.string .empty), I width, I height, slotsP (slotsN l a height k), slotsP (footSlots (bottom0 (yB l a height k) height (feetN l a k)) (feetN l a k)), I (yB l a height k), I (max 0 (bottom0 (yB l a height k) height (feetN l a k) + sumFeet (feetN l a k) - height))] := rfl
      rw [e22]
      generalize bottom0 (yB l a height k) height (feetN l a k) = b0 at b1 b2 e21
      refine wpA_cut2 (S := Unit) (fun _ => [(0, pcs l), (4, I height), (10, .ptr r 0), (12, .ptr p 0), (15, feetP (feetN l a k)), (21, I b0)])
        (fun _ G => Has G [(r, ⟨[I 0, I 0, .v (.string .empty), I 0, I 0, .v (.slice none 0 0), .v (.slice none 0 0), I 0, I 0], 31, true⟩), (p, ⟨pageC width height s1 (slotsN l a height k).length u 0 (yB l a height k) 0, 31, true⟩), (s1, ⟨(slotsN l a height k).flatMap encSlot, 40, true⟩), (u, ⟨[], 40, true⟩)]) ?_ ?_
      · by_cases h0 : 0 < (feetN l a k).length
        · rw [if_pos h0] at e21
          rw [e21]
          repeat (first
            | refine wpL_end ?_
            | refine wpL_nil ?_
            | refine wpA_seq ?_
            | refine wpA_region ?_
            | refine wpA_block ?_
            | refine wpL_v rfl rfl (by decide) (OpV_move rfl rfl) ?_
            | refine wpL_v rfl rfl (by decide) (OpV_assign rfl rfl) ?_
            | refine wpL_v rfl rfl (by decide) (OpV_cmp rfl rfl rfl rfl) ?_
            | refine wpL_v rfl rfl (by decide) (OpV_add rfl rfl rfl (by omega)) ?_
            | refine wpL_v rfl rfl (by decide) (OpV_sub rfl rfl rfl (by omega)) ?_
            | refine wpL_v rfl rfl (by decide) (OpV_len rfl rfl rfl) ?_
            | refine wpL_v rfl rfl (by decide) (OpV_nilCheck rfl rfl rfl) ?_
            | refine wpL_v rfl rfl (by decide) (OpV_fieldAddr rfl rfl rfl rfl) ?_
            | refine wpL_v rfl rfl (by decide) (OpV_load rfl rfl rfl) ?_
            | refine wpL_v rfl rfl (by decide) (OpV_not rfl rfl) ?_
            | refine wpL_v rfl rfl (by decide) (OpV_extract rfl rfl rfl) ?_
            | refine wpL_v rfl rfl (by decide) (OpV_pick_t rfl rfl (by first | rfl | exact decide_eq_true (by omega)) rfl) ?_
            | refine wpL_v rfl rfl (by decide) (OpV_pick_f rfl rfl (by first | rfl | exact decide_eq_false (by omega)) rfl) ?_
            | refine wpL_v rfl rfl (by decide) (OpV_build rfl rfl rfl rfl) ?_
            | refine wpL_v rfl rfl (by decide) (OpV_max rfl rfl rfl) ?_
            | refine wpL_v rfl rfl (by decide) (OpV_min rfl rfl rfl) ?_
            | refine wpL_v rfl rfl (by decide) (OpV_nilptr rfl rfl rfl) ?_
            | refine wpL_v rfl rfl (by decide) (OpV_beq rfl rfl rfl) ?_
            | refine wpL_v rfl rfl (by decide) (OpV_bne rfl rfl rfl) ?_
            | refine wpL_v rfl rfl (by decide) (OpV_makeFunc rfl rfl) ?_
            | refine wpL_loadH 0 hG rfl rfl (by decide) rfl rfl rfl rfl ?_
            | refine wpL_loadH 1 hG rfl rfl (by decide) rfl rfl rfl rfl ?_
            | refine wpL_loadH 2 hG rfl rfl (by decide) rfl rfl rfl rfl ?_
            | refine wpL_loadH 3 hG rfl rfl (by decide) rfl rfl rfl rfl ?_
            | refine wpL_loadH 4 hG rfl rfl (by decide) rfl rfl rfl rfl ?_
            | refine wpL_loadH 5 hG rfl rfl (by decide) rfl rfl rfl rfl ?_
            | (refine wpL_storeH 0 hG rfl rfl rfl rfl rfl rfl rfl rfl rfl rfl rfl ?_; intro G hG)
            | (refine wpL_storeH 1 hG rfl rfl rfl rfl rfl rfl rfl rfl rfl rfl rfl ?_; intro G hG)
            | (refine wpL_storeH 2 hG rfl rfl rfl rfl rfl rfl rfl rfl rfl rfl rfl ?_; intro G hG)
            | (refine wpL_storeH 3 hG rfl rfl rfl rfl rfl rfl rfl rfl rfl rfl rfl ?_; intro G hG)
            | (refine wpL_storeH 4 hG rfl rfl rfl rfl rfl rfl rfl rfl rfl rfl rfl ?_; intro G hG)
            | (refine wpL_storeH 5 hG rfl rfl rfl rfl rfl rfl rfl rfl rfl rfl rfl ?_; intro G hG)
            | (refine wpL_allocH hG rfl rfl (by decide) rfl rfl ?_; intro id G hG)
            | (refine wpL_boxH hG rfl rfl (by decide) rfl rfl rfl ?_; intro id G hG)
            | (refine wpL_sliceH hG rfl rfl (by decide) rfl rfl rfl rfl rfl rfl rfl rfl ?_; intro id G hG)
            | refine wpL_gt rfl rfl rfl rfl rfl (by decide) (by first | rfl | exact decide_eq_true (by omega) | exact decide_eq_false (by omega) | exact ndec_t (by omega) | exact ndec_f (by omega)) ?_
            | refine wpL_gf rfl rfl rfl rfl rfl (by decide) (by first | rfl | exact decide_eq_true (by omega) | exact decide_eq_false (by omega) | exact ndec_t (by omega) | exact ndec_f (by omega)) ?_
            | refine wpA_ct rfl (by first | rfl | exact decide_eq_true (by omega) | exact ndec_t (by omega)) ?_
            | refine wpA_cf rfl (by first | rfl | exact decide_eq_false (by omega) | exact ndec_f (by omega)) ?_
            | refine wpA_skip ?_
            | refine wpA_exit ?_
            | refine wpA_ret ?_
            | refine x_then_exit ?_
            | refine x_then_ret ?_
            | refine x_then_normal ?_
            | refine x_block_ret ?_
            | refine x_block_normal ?_
            | refine x_block_exit ?_
            | refine x_block_other rfl ?_
            | refine wpL_v rfl rfl (by decide) (OpV_pick_t rfl rfl (ndec_t (by omega)) rfl) ?_
            | refine wpL_v rfl rfl (by decide) (OpV_pick_f rfl rfl (ndec_f (by omega)) rfl) ?_)
          exact ⟨(), .cons rfl (.cons rfl (.cons rfl (.cons rfl (.cons rfl (.cons rfl (.nil _)))))), hG⟩
        · rw [if_neg h0] at e21
          rw [e21]
          repeat (first
            | refine wpL_end ?_
            | refine wpL_nil ?_
            | refine wpA_seq ?_
            | refine wpA_region ?_
            | refine wpA_block ?_
            | refine wpL_v rfl rfl (by decide) (OpV_move rfl rfl) ?_
            | refine wpL_v rfl rfl (by decide) (OpV_assign rfl rfl) ?_
            | refine wpL_v rfl rfl (by decide) (OpV_cmp rfl rfl rfl rfl) ?_
            | refine wpL_v rfl rfl (by decide) (OpV_add rfl rfl rfl (by omega)) ?_
            | refine wpL_v rfl rfl (by decide) (OpV_sub rfl rfl rfl (by omega)) ?_
            | refine wpL_v rfl rfl (by decide) (OpV_len rfl rfl rfl) ?_
            | refine wpL_v rfl rfl (by decide) (OpV_nilCheck rfl rfl rfl) ?_
            | refine wpL_v rfl rfl (by decide) (OpV_fieldAddr rfl rfl rfl rfl) ?_
            | refine wpL_v rfl rfl (by decide) (OpV_load rfl rfl rfl) ?_
            | refine wpL_v rfl rfl (by decide) (OpV_not rfl rfl) ?_
            | refine wpL_v rfl rfl (by decide) (OpV_extract rfl rfl rfl) ?_
            | refine wpL_v rfl rfl (by decide) (OpV_pick_t rfl rfl (by first | rfl | exact decide_eq_true (by omega)) rfl) ?_
            | refine wpL_v rfl rfl (by decide) (OpV_pick_f rfl rfl (by first | rfl | exact decide_eq_false (by omega)) rfl) ?_
            | refine wpL_v rfl rfl (by decide) (OpV_build rfl rfl rfl rfl) ?_
            | refine wpL_v rfl rfl (by decide) (OpV_max rfl rfl rfl) ?_
            | refine wpL_v rfl rfl (by decide) (OpV_min rfl rfl rfl) ?_
            | refine wpL_v rfl rfl (by decide) (OpV_nilptr rfl rfl rfl) ?_
            | refine wpL_v rfl rfl (by decide) (OpV_beq rfl rfl rfl) ?_
            | refine wpL_v rfl rfl (by decide) (OpV_bne rfl rfl rfl) ?_
            | refine wpL_v rfl rfl (by decide) (OpV_makeFunc rfl rfl) ?_
            | refine wpL_loadH 0 hG rfl rfl (by decide) rfl rfl rfl rfl ?_
            | refine wpL_loadH 1 hG rfl rfl (by decide) rfl rfl rfl rfl ?_
            | refine wpL_loadH 2 hG rfl rfl (by decide) rfl rfl rfl rfl ?_
            | refine wpL_loadH 3 hG rfl rfl (by decide) rfl rfl rfl rfl ?_
            | refine wpL_loadH 4 hG rfl rfl (by decide) rfl rfl rfl rfl ?_
            | refine wpL_loadH 5 hG rfl rfl (by decide) rfl rfl rfl rfl ?_
            | (refine wpL_storeH 0 hG rfl rfl rfl rfl rfl rfl rfl rfl rfl rfl rfl ?_; intro G hG)
            | (refine wpL_storeH 1 hG rfl rfl rfl rfl rfl rfl rfl rfl rfl rfl rfl ?_; intro G hG)
            | (refine wpL_storeH 2 hG rfl rfl rfl rfl rfl rfl rfl rfl rfl rfl rfl ?_; intro G hG)
            | (refine wpL_storeH 3 hG rfl rfl rfl rfl rfl rfl rfl rfl rfl rfl rfl ?_; intro G hG)
            | (refine wpL_storeH 4 hG rfl rfl rfl rfl rfl rfl rfl rfl rfl rfl rfl ?_; intro G hG)
            | (refine wpL_storeH 5 hG rfl rfl rfl rfl rfl rfl rfl rfl rfl rfl rfl ?_; intro G hG)
            | (refine wpL_allocH hG rfl rfl (by decide) rfl rfl ?_; intro id G hG)
            | (refine wpL_boxH hG rfl rfl (by decide) rfl rfl rfl ?_; intro id G hG)
            | (refine wpL_sliceH hG rfl rfl (by decide) rfl rfl rfl rfl rfl rfl rfl rfl ?_; intro id G hG)
            | refine wpL_gt rfl rfl rfl rfl rfl (by decide) (by first | rfl | exact decide_eq_true (by omega) | exact decide_eq_false (by omega) | exact ndec_t (by omega) | exact ndec_f (by omega)) ?_
            | refine wpL_gf rfl rfl rfl rfl rfl (by decide) (by first | rfl | exact decide_eq_true (by omega) | exact decide_eq_false (by omega) | exact ndec_t (by omega) | exact ndec_f (by omega)) ?_
            | refine wpA_ct rfl (by first | rfl | exact decide_eq_true (by omega) | exact ndec_t (by omega)) ?_
            | refine wpA_cf rfl (by first | rfl | exact decide_eq_false (by omega) | exact ndec_f (by omega)) ?_
            | refine wpA_skip ?_
            | refine wpA_exit ?_
            | refine wpA_ret ?_
            | refine x_then_exit ?_
            | refine x_then_ret ?_
            | refine x_then_normal ?_
            | refine x_block_ret ?_
            | refine x_block_normal ?_
            | refine x_block_exit ?_
            | refine x_block_other rfl ?_
            | refine wpL_v rfl rfl (by decide) (OpV_pick_t rfl rfl (ndec_t (by omega)) rfl) ?_
            | refine wpL_v rfl rfl (by decide) (OpV_pick_f rfl rfl (ndec_f (by omega)) rfl) ?_)
          exact ⟨(), .cons rfl (.cons rfl (.cons rfl (.cons rfl (.cons rfl (.cons rfl (.nil _)))))), hG⟩
      rintro ⟨⟩ G hG
      clear e21 e22
      repeat (first
        | refine wpL_end ?_
        | refine wpL_nil ?_
        | refine wpA_seq ?_
        | refine wpA_region ?_
        | refine wpA_block ?_
        | refine wpL_v rfl rfl (by decide) (OpV_move rfl rfl) ?_
        | refine wpL_v rfl rfl (by decide) (OpV_assign rfl rfl) ?_
        | refine wpL_v rfl rfl (by decide) (OpV_cmp rfl rfl rfl rfl) ?_
        | refine wpL_v rfl rfl (by decide) (OpV_add rfl rfl rfl (by omega)) ?_
        | refine wpL_v rfl rfl (by decide) (OpV_sub rfl rfl rfl (by omega)) ?_
        | refine wpL_v rfl rfl (by decide) (OpV_len rfl rfl rfl) ?_
        | refine wpL_v rfl rfl (by decide) (OpV_nilCheck rfl rfl rfl) ?_
        | refine wpL_v rfl rfl (by decide) (OpV_fieldAddr rfl rfl rfl rfl) ?_
        | refine wpL_v rfl rfl (by decide) (OpV_load rfl rfl rfl) ?_
        | refine wpL_v rfl rfl (by decide) (OpV_not rfl rfl) ?_
        | refine wpL_v rfl rfl (by decide) (OpV_extract rfl rfl rfl) ?_
        | refine wpL_v rfl rfl (by decide) (OpV_pick_t rfl rfl (by first | rfl | exact decide_eq_true (by omega)) rfl) ?_
        | refine wpL_v rfl rfl (by decide) (OpV_pick_f rfl rfl (by first | rfl | exact decide_eq_false (by omega)) rfl) ?_
        | refine wpL_v rfl rfl (by decide) (OpV_build rfl rfl rfl rfl) ?_
        | refine wpL_v rfl rfl (by decide) (OpV_max rfl rfl rfl) ?_
        | refine wpL_v rfl rfl (by decide) (OpV_min rfl rfl rfl) ?_
        | refine wpL_v rfl rfl (by decide) (OpV_nilptr rfl rfl rfl) ?_
        | refine wpL_v rfl rfl (by decide) (OpV_beq rfl rfl rfl) ?_
        | refine wpL_v rfl rfl (by decide) (OpV_bne rfl rfl rfl) ?_
        | refine wpL_v rfl rfl (by decide) (OpV_makeFunc rfl rfl) ?_
        | refine wpL_loadH 0 hG rfl rfl (by decide) rfl rfl rfl rfl ?_
        | refine wpL_loadH 1 hG rfl rfl (by decide) rfl rfl rfl rfl ?_
        | refine wpL_loadH 2 hG rfl rfl (by decide) rfl rfl rfl rfl ?_
        | refine wpL_loadH 3 hG rfl rfl (by decide) rfl rfl rfl rfl ?_
        | refine wpL_loadH 4 hG rfl rfl (by decide) rfl rfl rfl rfl ?_
        | refine wpL_loadH 5 hG rfl rfl (by decide) rfl rfl rfl rfl ?_
        | (refine wpL_storeH 0 hG rfl rfl rfl rfl rfl rfl rfl rfl rfl rfl rfl ?_; intro G hG)
        | (refine wpL_storeH 1 hG rfl rfl rfl rfl rfl rfl rfl rfl rfl rfl rfl ?_; intro G hG)
        | (refine wpL_storeH 2 hG rfl rfl rfl rfl rfl rfl rfl rfl rfl rfl rfl ?_; intro G hG)
        | (refine wpL_storeH 3 hG rfl rfl rfl rfl rfl rfl rfl rfl rfl rfl rfl ?_; intro G hG)
        | (refine wpL_storeH 4 hG rfl rfl rfl rfl rfl rfl rfl rfl rfl rfl rfl ?_; intro G hG)
        | (refine wpL_storeH 5 hG rfl rfl rfl rfl rfl rfl rfl rfl rfl rfl rfl ?_; intro G hG)
        | (refine wpL_allocH hG rfl rfl (by decide) rfl rfl ?_; intro id G hG)
        | (refine wpL_boxH hG rfl rfl (by decide) rfl rfl rfl ?_; intro id G hG)
        | (refine wpL_sliceH hG rfl rfl (by decide) rfl rfl rfl rfl rfl rfl rfl rfl ?_; intro id G hG)
        | refine wpL_gt rfl rfl rfl rfl rfl (by decide) (by first | rfl | exact decide_eq_true (by omega) | exact decide_eq_false (by omega) | exact ndec_t (by omega) | exact ndec_f (by omega)) ?_
        | refine wpL_gf rfl rfl rfl rfl rfl (by decide) (by first | rfl | exact decide_eq_true (by omega) | exact decide_eq_false (by omega) | exact ndec_t (by omega) | exact ndec_f (by omega)) ?_
        | refine wpA_ct rfl (by first | rfl | exact decide_eq_true (by omega) | exact ndec_t (by omega)) ?_
        | refine wpA_cf rfl (by first | rfl | exact decide_eq_false (by omega) | exact ndec_f (by omega)) ?_
        | refine wpA_skip ?_
        | refine wpA_exit ?_
        | refine wpA_ret ?_
        | refine x_then_exit ?_
        | refine x_then_ret ?_
        | refine x_then_normal ?_
        | refine x_block_ret ?_
        | refine x_block_normal ?_
        | refine x_block_exit ?_
        | refine x_block_other rfl ?_
        | refine wpL_v rfl rfl (by decide) (OpV_pick_t rfl rfl (ndec_t (by omega)) rfl) ?_
        | refine wpL_v rfl rfl (by decide) (OpV_pick_f rfl rfl (ndec_f (by omega)) rfl) ?_)
      refine wpA_loopS (S := Nat × Nat) (fun x => [(4, I height), (10, .ptr r 0), (12, .ptr p 0), (21, I (b0 + sumFeet ((feetN l a k).take x.1))), (143, feetP (feetN l a k)), (144, I (feetN l a k).length), (145, I x.1)])
        (fun x G => x.1 ≤ (feetN l a k).length ∧ Has G [(r, ⟨[I 0, I 0, .v (.string .empty), I 0, I 0, .v (.slice none 0 0), .v (.slice none 0 0), I 0, I 0], 31, true⟩), (p, ⟨pageC width height s1 (slotsN l a height k).length x.2 (footSlots b0 ((feetN l a k).take x.1)).length (yB l a height k) 0, 31, true⟩), (s1, ⟨(slotsN l a height k).flatMap encSlot, 40, true⟩), (x.2, ⟨(footSlots b0 ((feetN l a k).take x.1)).flatMap encSlot, 40, true⟩)])
        (fun x => (feetN l a k).length - x.1) (0, u) (.cons rfl (.cons rfl (.cons rfl (.cons (by simp [sumFeet]; rfl) (.cons rfl (.cons rfl (.cons rfl (.nil _)))))))) ⟨by omega, hG⟩ ?_
      rintro ⟨j, u1⟩ G ⟨hj, hG⟩
      dsimp only at hj hG ⊢
      have z1 := sumFeet_takes (feetN l a k) j n3
      by_cases hjn : j < (feetN l a k).length
      · obtain ⟨x, hx⟩ : ∃ x, (feetN l a k)[j]? = some x := ⟨_, List.getElem?_eq_getElem hjn⟩
        have x1 := (n3 x (List.mem_of_getElem? hx)).2
        have x2 := sumFeet_takes (feetN l a k) (j + 1) n3
        have x3 := sumFeet_take _ j x hx
        have x4 := take_succ_of hx
        have x5 := footSlots_app b0 ((feetN l a k).take j) x
        rw [← x4] at x5
        have c4 : ((footSlots b0 ((feetN l a k).take j)).flatMap encSlot).length = (footSlots b0 ((feetN l a k).take j)).length * 6 := flat_len encSlot_len _
        have c5 : (footSlots b0 ((feetN l a k).take j)).length ≤ j := by rw [footSlots_len, List.length_take]; omega
        simp only [small] at x1
        repeat (first
          | refine wpL_end ?_
          | refine wpL_nil ?_
          | refine wpA_seq ?_
          | refine wpA_region ?_
          | refine wpA_block ?_
          | refine wpL_v rfl rfl (by decide) (OpV_index_tr rfl rfl rfl (by omega) (feet_spot hx)) ?_
          | (refine wpL_appendH 5 hG rfl rfl (by decide) rfl rfl rfl rfl rfl rfl c4 rfl (hG.cellsOf (k := 0) rfl rfl) rfl (by omega) (by omega) ?_; intro u2 G hG)
          | refine wpL_v rfl rfl (by decide) (OpV_move rfl rfl) ?_
          | refine wpL_v rfl rfl (by decide) (OpV_assign rfl rfl) ?_
          | refine wpL_v rfl rfl (by decide) (OpV_cmp rfl rfl rfl rfl) ?_
          | refine wpL_v rfl rfl (by decide) (OpV_add rfl rfl rfl (by omega)) ?_
          | refine wpL_v rfl rfl (by decide) (OpV_sub rfl rfl rfl (by omega)) ?_
          | refine wpL_v rfl rfl (by decide) (OpV_len rfl rfl rfl) ?_
          | refine wpL_v rfl rfl (by decide) (OpV_nilCheck rfl rfl rfl) ?_
          | refine wpL_v rfl rfl (by decide) (OpV_fieldAddr rfl rfl rfl rfl) ?_
          | refine wpL_v rfl rfl (by decide) (OpV_load rfl rfl rfl) ?_
          | refine wpL_v rfl rfl (by decide) (OpV_not rfl rfl) ?_
          | refine wpL_v rfl rfl (by decide) (OpV_extract rfl rfl rfl) ?_
          | refine wpL_v rfl rfl (by decide) (OpV_pick_t rfl rfl (by first | rfl | exact decide_eq_true (by omega)) rfl) ?_
          | refine wpL_v rfl rfl (by decide) (OpV_pick_f rfl rfl (by first | rfl | exact decide_eq_false (by omega)) rfl) ?_
          | refine wpL_v rfl rfl (by decide) (OpV_build rfl rfl rfl rfl) ?_
          | refine wpL_v rfl rfl (by decide) (OpV_max rfl rfl rfl) ?_
          | refine wpL_v rfl rfl (by decide) (OpV_min rfl rfl rfl) ?_
          | refine wpL_v rfl rfl (by decide) (OpV_nilptr rfl rfl rfl) ?_
          | refine wpL_v rfl rfl (by decide) (OpV_beq rfl rfl rfl) ?_
          | refine wpL_v rfl rfl (by decide) (OpV_bne rfl rfl rfl) ?_
          | refine wpL_v rfl rfl (by decide) (OpV_makeFunc rfl rfl) ?_
          | refine wpL_loadH 0 hG rfl rfl (by decide) rfl rfl rfl rfl ?_
          | refine wpL_loadH 1 hG rfl rfl (by decide) rfl rfl rfl rfl ?_
          | refine wpL_loadH 2 hG rfl rfl (by decide) rfl rfl rfl rfl ?_
          | refine wpL_loadH 3 hG rfl rfl (by decide) rfl rfl rfl rfl ?_
          | refine wpL_loadH 4 hG rfl rfl (by decide) rfl rfl rfl rfl ?_
          | refine wpL_loadH 5 hG rfl rfl (by decide) rfl rfl rfl rfl ?_
          | (refine wpL_storeH 0 hG rfl rfl rfl rfl rfl rfl rfl rfl rfl rfl rfl ?_; intro G hG)
          | (refine wpL_storeH 1 hG rfl rfl rfl rfl rfl rfl rfl rfl rfl rfl rfl ?_; intro G hG)
          | (refine wpL_storeH 2 hG rfl rfl rfl rfl rfl rfl rfl rfl rfl rfl rfl ?_; intro G hG)
          | (refine wpL_storeH 3 hG rfl rfl rfl rfl rfl rfl rfl rfl rfl rfl rfl ?_; intro G hG)
          | (refine wpL_storeH 4 hG rfl rfl rfl rfl rfl rfl rfl rfl rfl rfl rfl ?_; intro G hG)
          | (refine wpL_storeH 5 hG rfl rfl rfl rfl rfl rfl rfl rfl rfl rfl rfl ?_; intro G hG)
          | (refine wpL_allocH hG rfl rfl (by decide) rfl rfl ?_; intro id G hG)
          | (refine wpL_boxH hG rfl rfl (by decide) rfl rfl rfl ?_; intro id G hG)
          | (refine wpL_sliceH hG rfl rfl (by decide) rfl rfl rfl rfl rfl rfl rfl rfl ?_; intro id G hG)
          | refine wpL_gt rfl rfl rfl rfl rfl (by decide) (by first | rfl | exact decide_eq_true (by omega) | exact decide_eq_false (by omega) | exact ndec_t (by omega) | exact ndec_f (by omega)) ?_
          | refine wpL_gf rfl rfl rfl rfl rfl (by decide) (by first | rfl | exact decide_eq_true (by omega) | exact decide_eq_false (by omega) | exact ndec_t (by omega) | exact ndec_f (by omega)) ?_
          | refine wpA_ct rfl (by first | rfl | exact decide_eq_true (by omega) | exact ndec_t (by omega)) ?_
          | refine wpA_cf rfl (by first | rfl | exact decide_eq_false (by omega) | exact ndec_f (by omega)) ?_
          | refine wpA_skip ?_
          | refine wpA_exit ?_
          | refine wpA_ret ?_
          | refine x_then_exit ?_
          | refine x_then_ret ?_
          | refine x_then_normal ?_
          | refine x_block_ret ?_
          | refine x_block_normal ?_
          | refine x_block_exit ?_
          | refine x_block_other rfl ?_
          | refine wpL_v rfl rfl (by decide) (OpV_pick_t rfl rfl (ndec_t (by omega)) rfl) ?_
          | refine wpL_v rfl rfl (by decide) (OpV_pick_f rfl rfl (ndec_f (by omega)) rfl) ?_)
        have e1 : b0 + sumFeet ((feetN l a k).take (j + 1)) = b0 + sumFeet ((feetN l a k).take j) + x.h := by omega
        refine ⟨(j + 1, u2), by dsimp only; omega, ?_, by dsimp only; omega, ?_⟩
        · dsimp only
          rw [e1]
          exact .cons rfl (.cons rfl (.cons rfl (.cons rfl (.cons rfl (.cons rfl (.cons rfl (.nil _)))))))
        · dsimp only
          rw [x5, List.length_append, List.flatMap_append]
          exact hG.pick [2, 3, 4, 5] (by decide) rfl
      · have hj' : j = (feetN l a k).length := by omega
        subst hj'
        rw [List.take_length] at hG ⊢
        have c1 : ((slotsN l a height k).flatMap encSlot).length = (slotsN l a height k).length * 6 := flat_len encSlot_len _
        have c4 : ((footSlots b0 (feetN l a k)).flatMap encSlot).length = (footSlots b0 (feetN l a k)).length * 6 := flat_len encSlot_len _
        repeat (first
          | refine wpL_end ?_
          | refine wpL_nil ?_
          | refine wpA_seq ?_
          | refine wpA_region ?_
          | refine wpA_block ?_
          | refine wpL_v rfl rfl (by decide) (OpV_move rfl rfl) ?_
          | refine wpL_v rfl rfl (by decide) (OpV_assign rfl rfl) ?_
          | refine wpL_v rfl rfl (by decide) (OpV_cmp rfl rfl rfl rfl) ?_
          | refine wpL_v rfl rfl (by decide) (OpV_add rfl rfl rfl (by omega)) ?_
          | refine wpL_v rfl rfl (by decide) (OpV_sub rfl rfl rfl (by omega)) ?_
          | refine wpL_v rfl rfl (by decide) (OpV_len rfl rfl rfl) ?_
          | refine wpL_v rfl rfl (by decide) (OpV_nilCheck rfl rfl rfl) ?_
          | refine wpL_v rfl rfl (by decide) (OpV_fieldAddr rfl rfl rfl rfl) ?_
          | refine wpL_v rfl rfl (by decide) (OpV_load rfl rfl rfl) ?_
          | refine wpL_v rfl rfl (by decide) (OpV_not rfl rfl) ?_
          | refine wpL_v rfl rfl (by decide) (OpV_extract rfl rfl rfl) ?_
          | refine wpL_v rfl rfl (by decide) (OpV_pick_t rfl rfl (by first | rfl | exact decide_eq_true (by omega)) rfl) ?_
          | refine wpL_v rfl rfl (by decide) (OpV_pick_f rfl rfl (by first | rfl | exact decide_eq_false (by omega)) rfl) ?_
          | refine wpL_v rfl rfl (by decide) (OpV_build rfl rfl rfl rfl) ?_
          | refine wpL_v rfl rfl (by decide) (OpV_max rfl rfl rfl) ?_
          | refine wpL_v rfl rfl (by decide) (OpV_min rfl rfl rfl) ?_
          | refine wpL_v rfl rfl (by decide) (OpV_nilptr rfl rfl rfl) ?_
          | refine wpL_v rfl rfl (by decide) (OpV_beq rfl rfl rfl) ?_
          | refine wpL_v rfl rfl (by decide) (OpV_bne rfl rfl rfl) ?_
          | refine wpL_v rfl rfl (by decide) (OpV_makeFunc rfl rfl) ?_
          | refine wpL_loadH 0 hG rfl rfl (by decide) rfl rfl rfl rfl ?_
          | refine wpL_loadH 1 hG rfl rfl (by decide) rfl rfl rfl rfl ?_
          | refine wpL_loadH 2 hG rfl rfl (by decide) rfl rfl rfl rfl ?_
          | refine wpL_loadH 3 hG rfl rfl (by decide) rfl rfl rfl rfl ?_
          | refine wpL_loadH 4 hG rfl rfl (by decide) rfl rfl rfl rfl ?_
          | refine wpL_loadH 5 hG rfl rfl (by decide) rfl rfl rfl rfl ?_
          | (refine wpL_storeH 0 hG rfl rfl rfl rfl rfl rfl rfl rfl rfl rfl rfl ?_; intro G hG)
          | (refine wpL_storeH 1 hG rfl rfl rfl rfl rfl rfl rfl rfl rfl rfl rfl ?_; intro G hG)
          | (refine wpL_storeH 2 hG rfl rfl rfl rfl rfl rfl rfl rfl rfl rfl rfl ?_; intro G hG)
          | (refine wpL_storeH 3 hG rfl rfl rfl rfl rfl rfl rfl rfl rfl rfl rfl ?_; intro G hG)
          | (refine wpL_storeH 4 hG rfl rfl rfl rfl rfl rfl rfl rfl rfl rfl rfl ?_; intro G hG)
          | (refine wpL_storeH 5 hG rfl rfl rfl rfl rfl rfl rfl rfl rfl rfl rfl ?_; intro G hG)
          | (refine wpL_allocH hG rfl rfl (by decide) rfl rfl ?_; intro id G hG)
          | (refine wpL_boxH hG rfl rfl (by decide) rfl rfl rfl ?_; intro id G hG)
          | (refine wpL_sliceH hG rfl rfl (by decide) rfl rfl rfl rfl rfl rfl rfl rfl ?_; intro id G hG)
          | refine wpL_gt rfl rfl rfl rfl rfl (by decide) (by first | rfl | exact decide_eq_true (by omega) | exact decide_eq_false (by omega) | exact ndec_t (by omega) | exact ndec_f (by omega)) ?_
          | refine wpL_gf rfl rfl rfl rfl rfl (by decide) (by first | rfl | exact decide_eq_true (by omega) | exact decide_eq_false (by omega) | exact ndec_t (by omega) | exact ndec_f (by omega)) ?_
          | refine wpA_ct rfl (by first | rfl | exact decide_eq_true (by omega) | exact ndec_t (by omega)) ?_
          | refine wpA_cf rfl (by first | rfl | exact decide_eq_false (by omega) | exact ndec_f (by omega)) ?_
          | refine wpA_skip ?_
          | refine wpA_exit ?_
          | refine wpA_ret ?_
          | refine x_then_exit ?_
          | refine x_then_ret ?_
          | refine x_then_normal ?_
          | refine x_block_ret ?_
          | refine x_block_normal ?_
          | refine x_block_exit ?_
          | refine x_block_other rfl ?_
          | refine wpL_v rfl rfl (by decide) (OpV_pick_t rfl rfl (ndec_t (by omega)) rfl) ?_
          | refine wpL_v rfl rfl (by decide) (OpV_pick_f rfl rfl (ndec_f (by omega)) rfl) ?_)
        exact postI_c1 rfl rfl ((loadA_at (hG.get 0 _ _ rfl)).trans rfl) rfl
          (ConvL.agg (.cons (.refl _) (.cons (.refl _) (.cons (.refl _) (.cons (.refl _) (.cons (.refl _) (.cons (.own hG (k := 2) rfl c1) (.cons (.own hG (k := 3) rfl c4) (.cons (.refl _) (.cons (.refl _) .nil))))))))))
          (.refl _) (Tree.agg (tree_encPage ⟨width, height, slotsN l a height k, footSlots b0 (feetN l a k), yB l a height k, max 0 (b0 + sumFeet (feetN l a k) - height)⟩)) (tree_I 0) rfl
end Go.Proofs.Ytpkeceifnmmhcaa
