/- The model's samePage. -/
import Derived.Test.YtpkeceifnmmhcaaPgMb
import Derived.Test.YtpkeceifnmmhcaaPgG
import Derived.Laws.StructEq
namespace Go.Proofs.Ytpkeceifnmmhcaa
open Go.RowKit Go.Th
set_option linter.unusedVariables false
set_option maxRecDepth 20000

theorem slot_guard : Try.prog.eqGuardType Try.prog.depth 40 = false := by kernel_rfl
theorem slot_held : Try.prog.stoodInHeld 40 = false := by kernel_rfl
theorem slot_fields : Try.prog.underlying 40 = some (.struct (Try.prog.fieldsOf 40)) := by kernel_rfl
theorem slot_fl : (Try.prog.fieldsOf 40).toList = [{ name := "Flow", type := 3, offset := 0, embedded := false, tag := "", pkgPath := "", byteOffset := 0 }, { name := "Block", type := 3, offset := 1, embedded := false, tag := "", pkgPath := "", byteOffset := 8 }, { name := "Part", type := 3, offset := 2, embedded := false, tag := "", pkgPath := "", byteOffset := 16 }, { name := "Y", type := 3, offset := 3, embedded := false, tag := "", pkgPath := "", byteOffset := 24 }, { name := "Height", type := 3, offset := 4, embedded := false, tag := "", pkgPath := "", byteOffset := 32 }, { name := "Repeated", type := 4, offset := 5, embedded := false, tag := "", pkgPath := "", byteOffset := 40 }] := by kernel_rfl
theorem slot_neq (a b c d e : Int) (r : Bool) (x y : Operand) (w : World) : (do eqGuard .neq 40 x y (.agg #[.int .i64 a, .int .i64 b, .int .i64 c, .int .i64 d, .int .i64 e, .bool r]) (.agg #[.int .i64 a, .int .i64 b, .int .i64 c, .int .i64 d, .int .i64 e, .bool r]); binOp .neq 40 (.agg #[.int .i64 a, .int .i64 b, .int .i64 c, .int .i64 d, .int .i64 e, .bool r]) (.agg #[.int .i64 a, .int .i64 b, .int .i64 c, .int .i64 d, .int .i64 e, .bool r]) : Sem Value).run Try.prog w = .ok (.bool false) w := by
  simp only [Sem.run_bind, run_eqGuard_agg _ _ _ _ _ _ _ slot_guard, Result.andThen_ok, run_neq_struct, run_equalIn_agg _ _ _ _ _ slot_fields slot_held, slot_fl, Op.eqFields]
  go_simp
theorem str_eq (x y : Operand) (w : World) : (do eqGuard .eql 9 x y (.string .empty) (.string .empty); binOp .eql 9 (.string .empty) (.string .empty) : Sem Value).run Try.prog w = .ok (.bool true) w := by
  go_simp

theorem OpV_slotNe {o : Oper} {E : Env} {H : Heap} {ty : TypeId} {x y : Operand} {s : Slot} (ho : o.op = .binOp .neq 40 x y ty) (hx : E.ev x = some (.agg (encSlot s))) (hy : E.ev y = some (.agg (encSlot s))) : OpV Try.prog o E H (.v (.bool false)) :=
  OpV_bin ho hx hy rfl rfl (fun w => slot_neq _ _ _ _ _ _ _ _ w) rfl
theorem OpV_strEq {o : Oper} {E : Env} {H : Heap} {ty : TypeId} {x y : Operand} (ho : o.op = .binOp .eql 9 x y ty) (hx : E.ev x = some (.v (.string .empty))) (hy : E.ev y = some (.v (.string .empty))) : OpV Try.prog o E H (.v (.bool true)) :=
  OpV_bin ho hx hy rfl rfl (fun w => str_eq _ _ w) rfl
theorem OpV_indexArr {P : Program} {o : Oper} {E : Env} {H : Heap} {t e : TypeId} {n sz bytes : Nat} {z : List Value} [hu : HasU P t (.array n e)] [hi : HasI P e sz bytes z] {x y : Operand} {k : IntKind} {i : Int} {p q : PV} (ho : o.op = .indexAddr t x y) (hx : E.ev x = some p) (hy : E.ev y = some (.v (.int k i)))
    (hq : shiftA p (i.toNat * sz) = some q) (h : 0 ≤ i ∧ i < n) : OpV P o E H q := fun m w ρ hR hρ => by
  obtain ⟨a, e1, hr⟩ := shiftA_rep (hρ x p hx) hq
  have h2 := rep_v (hρ y _ hy)
  obtain ⟨inf, zv, h3, h4, _⟩ := hi.i
  refine ⟨_, ?_, hr⟩
  simp [execOp, ho, e1, h2, Instr.indexAt, run_underlying hu.u, asIntOf, Instr.sureAddr, h, run_sizeOf w h3, show P.cellsOf e = sz by simp [Program.cellsOf, h3, h4]]

theorem sameSlots_iso (l : List Slot) (hl : l.length ≤ 1000000) : Iso Try.prog 41 [slotsP l, slotsP l] (fun p => p = B true) := by
  have hG := has_nil
  refine Iso_enter Try.func41 rfl rfl rfl ?_
  repeat (first
    | refine wpL_end ?_
    | refine wpL_nil ?_
    | refine wpA_seq ?_
    | refine wpA_region ?_
    | refine wpA_block ?_
    | refine wpL_v rfl rfl (by decide) (OpV_cmp rfl rfl rfl (congrArg some (decide_eq_true (by omega)))) ?_
    | refine wpL_v rfl rfl (by decide) (OpV_cmp rfl rfl rfl (congrArg some (decide_eq_false (by omega)))) ?_
    | refine wpL_v rfl rfl (by decide) (OpV_cmp rfl rfl rfl (congrArg some (ndec_t (by omega)))) ?_
    | refine wpL_v rfl rfl (by decide) (OpV_cmp rfl rfl rfl (congrArg some (ndec_f (by omega)))) ?_
    | refine wpL_v rfl rfl (by decide) (OpV_move rfl rfl) ?_
    | refine wpL_v rfl rfl (by decide) (OpV_assign rfl rfl) ?_
    | refine wpL_v rfl rfl (by decide) (OpV_cmp rfl rfl rfl rfl) ?_
    | refine wpL_v rfl rfl (by decide) (OpV_add rfl rfl rfl (by omega)) ?_
    | refine wpL_v rfl rfl (by decide) (OpV_sub rfl rfl rfl (by omega)) ?_
    | refine wpL_v rfl rfl (by decide) (OpV_len rfl rfl rfl) ?_
    | refine wpL_v rfl rfl (by decide) (OpV_nilCheck rfl rfl rfl) ?_
    | refine wpL_v rfl rfl (by decide) (OpV_fieldAddr rfl rfl rfl rfl) ?_
    | refine wpL_v rfl rfl (by decide) (OpV_load rfl rfl rfl) ?_
    | refine wpL_v rfl rfl (by decide) (OpV_not rfl rfl) ?_
    | refine wpL_v rfl rfl (by decide) (OpV_extract rfl rfl rfl) ?_
    | refine wpL_v rfl rfl (by decide) (OpV_pick_t rfl rfl (by first | rfl | exact decide_eq_true (by omega)) rfl) ?_
    | refine wpL_v rfl rfl (by decide) (OpV_pick_f rfl rfl (by first | rfl | exact decide_eq_false (by omega)) rfl) ?_
    | refine wpL_v rfl rfl (by decide) (OpV_build rfl rfl rfl rfl) ?_
    | refine wpL_v rfl rfl (by decide) (OpV_max rfl rfl rfl) ?_
    | refine wpL_v rfl rfl (by decide) (OpV_min rfl rfl rfl) ?_
    | refine wpL_v rfl rfl (by decide) (OpV_nilptr rfl rfl rfl) ?_
    | refine wpL_v rfl rfl (by decide) (OpV_beq rfl rfl rfl) ?_
    | refine wpL_v rfl rfl (by decide) (OpV_bne rfl rfl rfl) ?_
    | refine wpL_v rfl rfl (by decide) (OpV_makeFunc rfl rfl) ?_
    | refine wpL_loadH 0 hG rfl rfl (by decide) rfl rfl rfl rfl ?_
    | refine wpL_loadH 1 hG rfl rfl (by decide) rfl rfl rfl rfl ?_
    | refine wpL_loadH 2 hG rfl rfl (by decide) rfl rfl rfl rfl ?_
    | refine wpL_loadH 3 hG rfl rfl (by decide) rfl rfl rfl rfl ?_
    | refine wpL_loadH 4 hG rfl rfl (by decide) rfl rfl rfl rfl ?_
    | refine wpL_loadH 5 hG rfl rfl (by decide) rfl rfl rfl rfl ?_
    | (refine wpL_storeH 0 hG rfl rfl rfl rfl rfl rfl rfl rfl rfl rfl rfl ?_; intro G hG)
    | (refine wpL_storeH 1 hG rfl rfl rfl rfl rfl rfl rfl rfl rfl rfl rfl ?_; intro G hG)
    | (refine wpL_storeH 2 hG rfl rfl rfl rfl rfl rfl rfl rfl rfl rfl rfl ?_; intro G hG)
    | (refine wpL_storeH 3 hG rfl rfl rfl rfl rfl rfl rfl rfl rfl rfl rfl ?_; intro G hG)
    | (refine wpL_storeH 4 hG rfl rfl rfl rfl rfl rfl rfl rfl rfl rfl rfl ?_; intro G hG)
    | (refine wpL_storeH 5 hG rfl rfl rfl rfl rfl rfl rfl rfl rfl rfl rfl ?_; intro G hG)
    | (refine wpL_allocH hG rfl rfl (by decide) rfl rfl ?_; intro id G hG)
    | (refine wpL_boxH hG rfl rfl (by decide) rfl rfl rfl ?_; intro id G hG)
    | (refine wpL_sliceH hG rfl rfl (by decide) rfl rfl rfl rfl rfl rfl rfl rfl ?_; intro id G hG)
    | refine wpL_gt rfl rfl rfl rfl rfl (by decide) (by first | rfl | exact decide_eq_true (by omega) | exact decide_eq_false (by omega) | exact ndec_t (by omega) | exact ndec_f (by omega)) ?_
    | refine wpL_gf rfl rfl rfl rfl rfl (by decide) (by first | rfl | exact decide_eq_true (by omega) | exact decide_eq_false (by omega) | exact ndec_t (by omega) | exact ndec_f (by omega)) ?_
    | refine wpA_ct rfl (by first | rfl | exact decide_eq_true (by omega) | exact ndec_t (by omega)) ?_
    | refine wpA_cf rfl (by first | rfl | exact decide_eq_false (by omega) | exact ndec_f (by omega)) ?_
    | refine wpA_skip ?_
    | refine wpA_exit ?_
    | refine wpA_ret ?_
    | refine x_then_exit ?_
    | refine x_then_ret ?_
    | refine x_then_normal ?_
    | refine x_block_ret ?_
    | refine x_block_normal ?_
    | refine x_block_exit ?_
    | refine x_block_other rfl ?_
    | refine wpL_v rfl rfl (by decide) (OpV_pick_t rfl rfl (ndec_t (by omega)) rfl) ?_
    | refine wpL_v rfl rfl (by decide) (OpV_pick_f rfl rfl (ndec_f (by omega)) rfl) ?_)
  refine wpA_loopS (S := Nat) (fun i => [(0, slotsP l), (1, slotsP l), (5, I i)]) (fun i G => i ≤ l.length) (fun i => l.length - i) 0
    (.cons rfl (.cons rfl (.cons rfl (.nil _)))) (by omega) ?_
  rintro i G hi
  have hG := Has.nil G
  by_cases hil : i < l.length
  · obtain ⟨x, hx⟩ : ∃ x, l[i]? = some x := ⟨_, List.getElem?_eq_getElem hil⟩
    repeat (first
      | refine wpL_end ?_
      | refine wpL_nil ?_
      | refine wpA_seq ?_
      | refine wpA_region ?_
      | refine wpA_block ?_
      | refine wpL_v rfl rfl (by decide) (OpV_cmp rfl rfl rfl (congrArg some (decide_eq_true (by omega)))) ?_
      | refine wpL_v rfl rfl (by decide) (OpV_cmp rfl rfl rfl (congrArg some (decide_eq_false (by omega)))) ?_
      | refine wpL_v rfl rfl (by decide) (OpV_cmp rfl rfl rfl (congrArg some (ndec_t (by omega)))) ?_
      | refine wpL_v rfl rfl (by decide) (OpV_cmp rfl rfl rfl (congrArg some (ndec_f (by omega)))) ?_
      | refine wpL_v rfl rfl (by decide) (OpV_move rfl rfl) ?_
      | refine wpL_v rfl rfl (by decide) (OpV_assign rfl rfl) ?_
      | refine wpL_v rfl rfl (by decide) (OpV_cmp rfl rfl rfl rfl) ?_
      | refine wpL_v rfl rfl (by decide) (OpV_add rfl rfl rfl (by omega)) ?_
      | refine wpL_v rfl rfl (by decide) (OpV_sub rfl rfl rfl (by omega)) ?_
      | refine wpL_v rfl rfl (by decide) (OpV_len rfl rfl rfl) ?_
      | refine wpL_v rfl rfl (by decide) (OpV_nilCheck rfl rfl rfl) ?_
      | refine wpL_v rfl rfl (by decide) (OpV_fieldAddr rfl rfl rfl rfl) ?_
      | refine wpL_v rfl rfl (by decide) (OpV_load rfl rfl rfl) ?_
      | refine wpL_v rfl rfl (by decide) (OpV_not rfl rfl) ?_
      | refine wpL_v rfl rfl (by decide) (OpV_extract rfl rfl rfl) ?_
      | refine wpL_v rfl rfl (by decide) (OpV_pick_t rfl rfl (by first | rfl | exact decide_eq_true (by omega)) rfl) ?_
      | refine wpL_v rfl rfl (by decide) (OpV_pick_f rfl rfl (by first | rfl | exact decide_eq_false (by omega)) rfl) ?_
      | refine wpL_v rfl rfl (by decide) (OpV_build rfl rfl rfl rfl) ?_
      | refine wpL_v rfl rfl (by decide) (OpV_max rfl rfl rfl) ?_
      | refine wpL_v rfl rfl (by decide) (OpV_min rfl rfl rfl) ?_
      | refine wpL_v rfl rfl (by decide) (OpV_nilptr rfl rfl rfl) ?_
      | refine wpL_v rfl rfl (by decide) (OpV_beq rfl rfl rfl) ?_
      | refine wpL_v rfl rfl (by decide) (OpV_bne rfl rfl rfl) ?_
      | refine wpL_v rfl rfl (by decide) (OpV_makeFunc rfl rfl) ?_
      | refine wpL_loadH 0 hG rfl rfl (by decide) rfl rfl rfl rfl ?_
      | refine wpL_loadH 1 hG rfl rfl (by decide) rfl rfl rfl rfl ?_
      | refine wpL_loadH 2 hG rfl rfl (by decide) rfl rfl rfl rfl ?_
      | refine wpL_loadH 3 hG rfl rfl (by decide) rfl rfl rfl rfl ?_
      | refine wpL_loadH 4 hG rfl rfl (by decide) rfl rfl rfl rfl ?_
      | refine wpL_loadH 5 hG rfl rfl (by decide) rfl rfl rfl rfl ?_
      | (refine wpL_storeH 0 hG rfl rfl rfl rfl rfl rfl rfl rfl rfl rfl rfl ?_; intro G hG)
      | (refine wpL_storeH 1 hG rfl rfl rfl rfl rfl rfl rfl rfl rfl rfl rfl ?_; intro G hG)
      | (refine wpL_storeH 2 hG rfl rfl rfl rfl rfl rfl rfl rfl rfl rfl rfl ?_; intro G hG)
      | (refine wpL_storeH 3 hG rfl rfl rfl rfl rfl rfl rfl rfl rfl rfl rfl ?_; intro G hG)
      | (refine wpL_storeH 4 hG rfl rfl rfl rfl rfl rfl rfl rfl rfl rfl rfl ?_; intro G hG)
      | (refine wpL_storeH 5 hG rfl rfl rfl rfl rfl rfl rfl rfl rfl rfl rfl ?_; intro G hG)
      | (refine wpL_allocH hG rfl rfl (by decide) rfl rfl ?_; intro id G hG)
      | (refine wpL_boxH hG rfl rfl (by decide) rfl rfl rfl ?_; intro id G hG)
      | (refine wpL_sliceH hG rfl rfl (by decide) rfl rfl rfl rfl rfl rfl rfl rfl ?_; intro id G hG)
      | refine wpL_gt rfl rfl rfl rfl rfl (by decide) (by first | rfl | exact decide_eq_true (by omega) | exact decide_eq_false (by omega) | exact ndec_t (by omega) | exact ndec_f (by omega)) ?_
      | refine wpL_gf rfl rfl rfl rfl rfl (by decide) (by first | rfl | exact decide_eq_true (by omega) | exact decide_eq_false (by omega) | exact ndec_t (by omega) | exact ndec_f (by omega)) ?_
      | refine wpA_ct rfl (by first | rfl | exact decide_eq_true (by omega) | exact ndec_t (by omega)) ?_
      | refine wpA_cf rfl (by first | rfl | exact decide_eq_false (by omega) | exact ndec_f (by omega)) ?_
      | refine wpA_skip ?_
      | refine wpA_exit ?_
      | refine wpA_ret ?_
      | refine x_then_exit ?_
      | refine x_then_ret ?_
      | refine x_then_normal ?_
      | refine x_block_ret ?_
      | refine x_block_normal ?_
      | refine x_block_exit ?_
      | refine x_block_other rfl ?_
      | refine wpL_v rfl rfl (by decide) (OpV_pick_t rfl rfl (ndec_t (by omega)) rfl) ?_
      | refine wpL_v rfl rfl (by decide) (OpV_pick_f rfl rfl (ndec_f (by omega)) rfl) ?_)
    refine wpA_yq mixed (by decide +kernel) ?_
    repeat (first
      | refine Y_q rfl rfl rfl (by decide) (OpV_index_tr rfl rfl rfl (by omega) (slot_spot hx)) ?_
      | refine Y_q rfl rfl rfl (by decide) (OpV_slotNe (s := x) rfl rfl rfl) ?_
      | refine Y_q rfl rfl rfl (by decide) (OpV_cmp rfl rfl rfl (congrArg some (decide_eq_true (by omega)))) ?_
      | refine Y_q rfl rfl rfl (by decide) (OpV_cmp rfl rfl rfl (congrArg some (decide_eq_false (by omega)))) ?_
      | refine Y_q rfl rfl rfl (by decide) (OpV_cmp rfl rfl rfl (congrArg some (ndec_t (by omega)))) ?_
      | refine Y_q rfl rfl rfl (by decide) (OpV_cmp rfl rfl rfl (congrArg some (ndec_f (by omega)))) ?_
      | refine Y_q rfl rfl rfl (by decide) (OpV_move rfl rfl) ?_
      | refine Y_q rfl rfl rfl (by decide) (OpV_assign rfl rfl) ?_
      | refine Y_q rfl rfl rfl (by decide) (OpV_cmp rfl rfl rfl rfl) ?_
      | refine Y_q rfl rfl rfl (by decide) (OpV_add rfl rfl rfl (by omega)) ?_
      | refine Y_q rfl rfl rfl (by decide) (OpV_sub rfl rfl rfl (by omega)) ?_
      | refine Y_q rfl rfl rfl (by decide) (OpV_len rfl rfl rfl) ?_
      | refine Y_q rfl rfl rfl (by decide) (OpV_nilCheck rfl rfl rfl) ?_
      | refine Y_q rfl rfl rfl (by decide) (OpV_fieldAddr rfl rfl rfl rfl) ?_
      | refine Y_q rfl rfl rfl (by decide) (OpV_load rfl rfl rfl) ?_
      | refine Y_q rfl rfl rfl (by decide) (OpV_not rfl rfl) ?_
      | refine Y_q rfl rfl rfl (by decide) (OpV_extract rfl rfl rfl) ?_
      | refine Y_q rfl rfl rfl (by decide) (OpV_build rfl rfl rfl rfl) ?_
      | refine Y_q rfl rfl rfl (by decide) (OpV_max rfl rfl rfl) ?_
      | refine Y_q rfl rfl rfl (by decide) (OpV_min rfl rfl rfl) ?_
      | refine Y_q rfl rfl rfl (by decide) (OpV_nilptr rfl rfl rfl) ?_
      | refine Y_q rfl rfl rfl (by decide) (OpV_beq rfl rfl rfl) ?_
      | refine Y_q rfl rfl rfl (by decide) (OpV_bne rfl rfl rfl) ?_
      | refine Y_q rfl rfl rfl (by decide) (OpV_pick_t rfl rfl (by first | rfl | exact decide_eq_true (by omega) | exact ndec_t (by omega)) rfl) ?_
      | refine Y_q rfl rfl rfl (by decide) (OpV_pick_f rfl rfl (by first | rfl | exact decide_eq_false (by omega) | exact ndec_f (by omega)) rfl) ?_
      | refine Y_gq (OpV_cmp rfl rfl rfl (congrArg some (decide_eq_true (by omega)))) rfl (by decide) rfl rfl rfl rfl (by decide) ?_
      | refine Y_gq (OpV_cmp rfl rfl rfl (congrArg some (decide_eq_false (by omega)))) rfl (by decide) rfl rfl rfl rfl (by decide) ?_
      | refine Y_gq (OpV_cmp rfl rfl rfl (congrArg some (ndec_t (by omega)))) rfl (by decide) rfl rfl rfl rfl (by decide) ?_
      | refine Y_gq (OpV_cmp rfl rfl rfl (congrArg some (ndec_f (by omega)))) rfl (by decide) rfl rfl rfl rfl (by decide) ?_
      | refine Y_gq (OpV_move rfl rfl) rfl (by decide) rfl rfl rfl rfl (by decide) ?_
      | refine Y_gq (OpV_assign rfl rfl) rfl (by decide) rfl rfl rfl rfl (by decide) ?_
      | refine Y_gq (OpV_cmp rfl rfl rfl rfl) rfl (by decide) rfl rfl rfl rfl (by decide) ?_
      | refine Y_gq (OpV_add rfl rfl rfl (by omega)) rfl (by decide) rfl rfl rfl rfl (by decide) ?_
      | refine Y_gq (OpV_sub rfl rfl rfl (by omega)) rfl (by decide) rfl rfl rfl rfl (by decide) ?_
      | refine Y_gq (OpV_len rfl rfl rfl) rfl (by decide) rfl rfl rfl rfl (by decide) ?_
      | refine Y_gq (OpV_nilCheck rfl rfl rfl) rfl (by decide) rfl rfl rfl rfl (by decide) ?_
      | refine Y_gq (OpV_fieldAddr rfl rfl rfl rfl) rfl (by decide) rfl rfl rfl rfl (by decide) ?_
      | refine Y_gq (OpV_load rfl rfl rfl) rfl (by decide) rfl rfl rfl rfl (by decide) ?_
      | refine Y_gq (OpV_not rfl rfl) rfl (by decide) rfl rfl rfl rfl (by decide) ?_
      | refine Y_gq (OpV_extract rfl rfl rfl) rfl (by decide) rfl rfl rfl rfl (by decide) ?_
      | refine Y_gq (OpV_build rfl rfl rfl rfl) rfl (by decide) rfl rfl rfl rfl (by decide) ?_
      | refine Y_gq (OpV_max rfl rfl rfl) rfl (by decide) rfl rfl rfl rfl (by decide) ?_
      | refine Y_gq (OpV_min rfl rfl rfl) rfl (by decide) rfl rfl rfl rfl (by decide) ?_
      | refine Y_gq (OpV_nilptr rfl rfl rfl) rfl (by decide) rfl rfl rfl rfl (by decide) ?_
      | refine Y_gq (OpV_beq rfl rfl rfl) rfl (by decide) rfl rfl rfl rfl (by decide) ?_
      | refine Y_gq (OpV_bne rfl rfl rfl) rfl (by decide) rfl rfl rfl rfl (by decide) ?_
      | refine Y_gq (OpV_pick_t rfl rfl (by first | rfl | exact decide_eq_true (by omega) | exact ndec_t (by omega)) rfl) rfl (by decide) rfl rfl rfl rfl (by decide) ?_
      | refine Y_gq (OpV_pick_f rfl rfl (by first | rfl | exact decide_eq_false (by omega) | exact ndec_f (by omega)) rfl) rfl (by decide) rfl rfl rfl rfl (by decide) ?_
      | refine Y_gn rfl (by decide) rfl rfl rfl rfl rfl (by decide) ?_
      | refine Y_end ?_)
    repeat (first
      | refine wpL_end ?_
      | refine wpL_nil ?_
      | refine wpA_seq ?_
      | refine wpA_region ?_
      | refine wpA_block ?_
      | refine wpL_v rfl rfl (by decide) (OpV_cmp rfl rfl rfl (congrArg some (decide_eq_true (by omega)))) ?_
      | refine wpL_v rfl rfl (by decide) (OpV_cmp rfl rfl rfl (congrArg some (decide_eq_false (by omega)))) ?_
      | refine wpL_v rfl rfl (by decide) (OpV_cmp rfl rfl rfl (congrArg some (ndec_t (by omega)))) ?_
      | refine wpL_v rfl rfl (by decide) (OpV_cmp rfl rfl rfl (congrArg some (ndec_f (by omega)))) ?_
      | refine wpL_v rfl rfl (by decide) (OpV_move rfl rfl) ?_
      | refine wpL_v rfl rfl (by decide) (OpV_assign rfl rfl) ?_
      | refine wpL_v rfl rfl (by decide) (OpV_cmp rfl rfl rfl rfl) ?_
      | refine wpL_v rfl rfl (by decide) (OpV_add rfl rfl rfl (by omega)) ?_
      | refine wpL_v rfl rfl (by decide) (OpV_sub rfl rfl rfl (by omega)) ?_
      | refine wpL_v rfl rfl (by decide) (OpV_len rfl rfl rfl) ?_
      | refine wpL_v rfl rfl (by decide) (OpV_nilCheck rfl rfl rfl) ?_
      | refine wpL_v rfl rfl (by decide) (OpV_fieldAddr rfl rfl rfl rfl) ?_
      | refine wpL_v rfl rfl (by decide) (OpV_load rfl rfl rfl) ?_
      | refine wpL_v rfl rfl (by decide) (OpV_not rfl rfl) ?_
      | refine wpL_v rfl rfl (by decide) (OpV_extract rfl rfl rfl) ?_
      | refine wpL_v rfl rfl (by decide) (OpV_pick_t rfl rfl (by first | rfl | exact decide_eq_true (by omega)) rfl) ?_
      | refine wpL_v rfl rfl (by decide) (OpV_pick_f rfl rfl (by first | rfl | exact decide_eq_false (by omega)) rfl) ?_
      | refine wpL_v rfl rfl (by decide) (OpV_build rfl rfl rfl rfl) ?_
      | refine wpL_v rfl rfl (by decide) (OpV_max rfl rfl rfl) ?_
      | refine wpL_v rfl rfl (by decide) (OpV_min rfl rfl rfl) ?_
      | refine wpL_v rfl rfl (by decide) (OpV_nilptr rfl rfl rfl) ?_
      | refine wpL_v rfl rfl (by decide) (OpV_beq rfl rfl rfl) ?_
      | refine wpL_v rfl rfl (by decide) (OpV_bne rfl rfl rfl) ?_
      | refine wpL_v rfl rfl (by decide) (OpV_makeFunc rfl rfl) ?_
      | refine wpL_loadH 0 hG rfl rfl (by decide) rfl rfl rfl rfl ?_
      | refine wpL_loadH 1 hG rfl rfl (by decide) rfl rfl rfl rfl ?_
      | refine wpL_loadH 2 hG rfl rfl (by decide) rfl rfl rfl rfl ?_
      | refine wpL_loadH 3 hG rfl rfl (by decide) rfl rfl rfl rfl ?_
      | refine wpL_loadH 4 hG rfl rfl (by decide) rfl rfl rfl rfl ?_
      | refine wpL_loadH 5 hG rfl rfl (by decide) rfl rfl rfl rfl ?_
      | (refine wpL_storeH 0 hG rfl rfl rfl rfl rfl rfl rfl rfl rfl rfl rfl ?_; intro G hG)
      | (refine wpL_storeH 1 hG rfl rfl rfl rfl rfl rfl rfl rfl rfl rfl rfl ?_; intro G hG)
      | (refine wpL_storeH 2 hG rfl rfl rfl rfl rfl rfl rfl rfl rfl rfl rfl ?_; intro G hG)
      | (refine wpL_storeH 3 hG rfl rfl rfl rfl rfl rfl rfl rfl rfl rfl rfl ?_; intro G hG)
      | (refine wpL_storeH 4 hG rfl rfl rfl rfl rfl rfl rfl rfl rfl rfl rfl ?_; intro G hG)
      | (refine wpL_storeH 5 hG rfl rfl rfl rfl rfl rfl rfl rfl rfl rfl rfl ?_; intro G hG)
      | (refine wpL_allocH hG rfl rfl (by decide) rfl rfl ?_; intro id G hG)
      | (refine wpL_boxH hG rfl rfl (by decide) rfl rfl rfl ?_; intro id G hG)
      | (refine wpL_sliceH hG rfl rfl (by decide) rfl rfl rfl rfl rfl rfl rfl rfl ?_; intro id G hG)
      | refine wpL_gt rfl rfl rfl rfl rfl (by decide) (by first | rfl | exact decide_eq_true (by omega) | exact decide_eq_false (by omega) | exact ndec_t (by omega) | exact ndec_f (by omega)) ?_
      | refine wpL_gf rfl rfl rfl rfl rfl (by decide) (by first | rfl | exact decide_eq_true (by omega) | exact decide_eq_false (by omega) | exact ndec_t (by omega) | exact ndec_f (by omega)) ?_
      | refine wpA_ct rfl (by first | rfl | exact decide_eq_true (by omega) | exact ndec_t (by omega)) ?_
      | refine wpA_cf rfl (by first | rfl | exact decide_eq_false (by omega) | exact ndec_f (by omega)) ?_
      | refine wpA_skip ?_
      | refine wpA_exit ?_
      | refine wpA_ret ?_
      | refine x_then_exit ?_
      | refine x_then_ret ?_
      | refine x_then_normal ?_
      | refine x_block_ret ?_
      | refine x_block_normal ?_
      | refine x_block_exit ?_
      | refine x_block_other rfl ?_
      | refine wpL_v rfl rfl (by decide) (OpV_pick_t rfl rfl (ndec_t (by omega)) rfl) ?_
      | refine wpL_v rfl rfl (by decide) (OpV_pick_f rfl rfl (ndec_f (by omega)) rfl) ?_)
    exact ⟨i + 1, by omega, .cons rfl (.cons rfl (.cons rfl (.nil _))), by omega⟩
  · repeat (first
      | refine wpL_end ?_
      | refine wpL_nil ?_
      | refine wpA_seq ?_
      | refine wpA_region ?_
      | refine wpA_block ?_
      | refine wpL_v rfl rfl (by decide) (OpV_cmp rfl rfl rfl (congrArg some (decide_eq_true (by omega)))) ?_
      | refine wpL_v rfl rfl (by decide) (OpV_cmp rfl rfl rfl (congrArg some (decide_eq_false (by omega)))) ?_
      | refine wpL_v rfl rfl (by decide) (OpV_cmp rfl rfl rfl (congrArg some (ndec_t (by omega)))) ?_
      | refine wpL_v rfl rfl (by decide) (OpV_cmp rfl rfl rfl (congrArg some (ndec_f (by omega)))) ?_
      | refine wpL_v rfl rfl (by decide) (OpV_move rfl rfl) ?_
      | refine wpL_v rfl rfl (by decide) (OpV_assign rfl rfl) ?_
      | refine wpL_v rfl rfl (by decide) (OpV_cmp rfl rfl rfl rfl) ?_
      | refine wpL_v rfl rfl (by decide) (OpV_add rfl rfl rfl (by omega)) ?_
      | refine wpL_v rfl rfl (by decide) (OpV_sub rfl rfl rfl (by omega)) ?_
      | refine wpL_v rfl rfl (by decide) (OpV_len rfl rfl rfl) ?_
      | refine wpL_v rfl rfl (by decide) (OpV_nilCheck rfl rfl rfl) ?_
      | refine wpL_v rfl rfl (by decide) (OpV_fieldAddr rfl rfl rfl rfl) ?_
      | refine wpL_v rfl rfl (by decide) (OpV_load rfl rfl rfl) ?_
      | refine wpL_v rfl rfl (by decide) (OpV_not rfl rfl) ?_
      | refine wpL_v rfl rfl (by decide) (OpV_extract rfl rfl rfl) ?_
      | refine wpL_v rfl rfl (by decide) (OpV_pick_t rfl rfl (by first | rfl | exact decide_eq_true (by omega)) rfl) ?_
      | refine wpL_v rfl rfl (by decide) (OpV_pick_f rfl rfl (by first | rfl | exact decide_eq_false (by omega)) rfl) ?_
      | refine wpL_v rfl rfl (by decide) (OpV_build rfl rfl rfl rfl) ?_
      | refine wpL_v rfl rfl (by decide) (OpV_max rfl rfl rfl) ?_
      | refine wpL_v rfl rfl (by decide) (OpV_min rfl rfl rfl) ?_
      | refine wpL_v rfl rfl (by decide) (OpV_nilptr rfl rfl rfl) ?_
      | refine wpL_v rfl rfl (by decide) (OpV_beq rfl rfl rfl) ?_
      | refine wpL_v rfl rfl (by decide) (OpV_bne rfl rfl rfl) ?_
      | refine wpL_v rfl rfl (by decide) (OpV_makeFunc rfl rfl) ?_
      | refine wpL_loadH 0 hG rfl rfl (by decide) rfl rfl rfl rfl ?_
      | refine wpL_loadH 1 hG rfl rfl (by decide) rfl rfl rfl rfl ?_
      | refine wpL_loadH 2 hG rfl rfl (by decide) rfl rfl rfl rfl ?_
      | refine wpL_loadH 3 hG rfl rfl (by decide) rfl rfl rfl rfl ?_
      | refine wpL_loadH 4 hG rfl rfl (by decide) rfl rfl rfl rfl ?_
      | refine wpL_loadH 5 hG rfl rfl (by decide) rfl rfl rfl rfl ?_
      | (refine wpL_storeH 0 hG rfl rfl rfl rfl rfl rfl rfl rfl rfl rfl rfl ?_; intro G hG)
      | (refine wpL_storeH 1 hG rfl rfl rfl rfl rfl rfl rfl rfl rfl rfl rfl ?_; intro G hG)
      | (refine wpL_storeH 2 hG rfl rfl rfl rfl rfl rfl rfl rfl rfl rfl rfl ?_; intro G hG)
      | (refine wpL_storeH 3 hG rfl rfl rfl rfl rfl rfl rfl rfl rfl rfl rfl ?_; intro G hG)
      | (refine wpL_storeH 4 hG rfl rfl rfl rfl rfl rfl rfl rfl rfl rfl rfl ?_; intro G hG)
      | (refine wpL_storeH 5 hG rfl rfl rfl rfl rfl rfl rfl rfl rfl rfl rfl ?_; intro G hG)
      | (refine wpL_allocH hG rfl rfl (by decide) rfl rfl ?_; intro id G hG)
      | (refine wpL_boxH hG rfl rfl (by decide) rfl rfl rfl ?_; intro id G hG)
      | (refine wpL_sliceH hG rfl rfl (by decide) rfl rfl rfl rfl rfl rfl rfl rfl ?_; intro id G hG)
      | refine wpL_gt rfl rfl rfl rfl rfl (by decide) (by first | rfl | exact decide_eq_true (by omega) | exact decide_eq_false (by omega) | exact ndec_t (by omega) | exact ndec_f (by omega)) ?_
      | refine wpL_gf rfl rfl rfl rfl rfl (by decide) (by first | rfl | exact decide_eq_true (by omega) | exact decide_eq_false (by omega) | exact ndec_t (by omega) | exact ndec_f (by omega)) ?_
      | refine wpA_ct rfl (by first | rfl | exact decide_eq_true (by omega) | exact ndec_t (by omega)) ?_
      | refine wpA_cf rfl (by first | rfl | exact decide_eq_false (by omega) | exact ndec_f (by omega)) ?_
      | refine wpA_skip ?_
      | refine wpA_exit ?_
      | refine wpA_ret ?_
      | refine x_then_exit ?_
      | refine x_then_ret ?_
      | refine x_then_normal ?_
      | refine x_block_ret ?_
      | refine x_block_normal ?_
      | refine x_block_exit ?_
      | refine x_block_other rfl ?_
      | refine wpL_v rfl rfl (by decide) (OpV_pick_t rfl rfl (ndec_t (by omega)) rfl) ?_
      | refine wpL_v rfl rfl (by decide) (OpV_pick_f rfl rfl (ndec_f (by omega)) rfl) ?_)
    exact postI_1 rfl rfl (.refl _) (.v _) rfl

set_option maxHeartbeats 4000000 in
theorem samePage_iso (p : Page) (h1 : p.slots.length ≤ 1000000) (h2 : p.feet.length ≤ 1000000) : Iso Try.prog 17 [.agg (encPage p), .agg (encPage p)] (fun p => p = B true) := by
  have hG := has_nil
  have s1 := sameSlots_iso _ h1
  have s2 := sameSlots_iso _ h2
  obtain ⟨width, height, S, F, used, over⟩ := p
  simp only at s1 s2
  refine Iso_enter Try.func17 rfl rfl rfl ?_
  repeat (first
    | refine wpL_end ?_
    | refine wpL_nil ?_
    | refine wpA_seq ?_
    | refine wpA_region ?_
    | refine wpA_block ?_
    | refine wpL_v rfl rfl (by decide) (OpV_strEq rfl rfl rfl) ?_
    | (refine wpL_is rfl rfl rfl rfl rfl rfl (by decide) s1 (TreeL.cons (tree_slotsP _) (TreeL.cons (tree_slotsP _) TreeL.nil)) ?_; rintro _ rfl)
    | (refine wpL_is rfl rfl rfl rfl rfl rfl (by decide) s2 (TreeL.cons (tree_slotsP _) (TreeL.cons (tree_slotsP _) TreeL.nil)) ?_; rintro _ rfl)
    | refine wpL_v rfl rfl (by decide) (OpV_cmp rfl rfl rfl (congrArg some (decide_eq_true (by omega)))) ?_
    | refine wpL_v rfl rfl (by decide) (OpV_cmp rfl rfl rfl (congrArg some (decide_eq_false (by omega)))) ?_
    | refine wpL_v rfl rfl (by decide) (OpV_cmp rfl rfl rfl (congrArg some (ndec_t (by omega)))) ?_
    | refine wpL_v rfl rfl (by decide) (OpV_cmp rfl rfl rfl (congrArg some (ndec_f (by omega)))) ?_
    | refine wpL_v rfl rfl (by decide) (OpV_move rfl rfl) ?_
    | refine wpL_v rfl rfl (by decide) (OpV_assign rfl rfl) ?_
    | refine wpL_v rfl rfl (by decide) (OpV_cmp rfl rfl rfl rfl) ?_
    | refine wpL_v rfl rfl (by decide) (OpV_add rfl rfl rfl (by omega)) ?_
    | refine wpL_v rfl rfl (by decide) (OpV_sub rfl rfl rfl (by omega)) ?_
    | refine wpL_v rfl rfl (by decide) (OpV_len rfl rfl rfl) ?_
    | refine wpL_v rfl rfl (by decide) (OpV_nilCheck rfl rfl rfl) ?_
    | refine wpL_v rfl rfl (by decide) (OpV_fieldAddr rfl rfl rfl rfl) ?_
    | refine wpL_v rfl rfl (by decide) (OpV_load rfl rfl rfl) ?_
    | refine wpL_v rfl rfl (by decide) (OpV_not rfl rfl) ?_
    | refine wpL_v rfl rfl (by decide) (OpV_extract rfl rfl rfl) ?_
    | refine wpL_v rfl rfl (by decide) (OpV_pick_t rfl rfl (by first | rfl | exact decide_eq_true (by omega)) rfl) ?_
    | refine wpL_v rfl rfl (by decide) (OpV_pick_f rfl rfl (by first | rfl | exact decide_eq_false (by omega)) rfl) ?_
    | refine wpL_v rfl rfl (by decide) (OpV_build rfl rfl rfl rfl) ?_
    | refine wpL_v rfl rfl (by decide) (OpV_max rfl rfl rfl) ?_
    | refine wpL_v rfl rfl (by decide) (OpV_min rfl rfl rfl) ?_
    | refine wpL_v rfl rfl (by decide) (OpV_nilptr rfl rfl rfl) ?_
    | refine wpL_v rfl rfl (by decide) (OpV_beq rfl rfl rfl) ?_
    | refine wpL_v rfl rfl (by decide) (OpV_bne rfl rfl rfl) ?_
    | refine wpL_v rfl rfl (by decide) (OpV_makeFunc rfl rfl) ?_
    | refine wpL_loadH 0 hG rfl rfl (by decide) rfl rfl rfl rfl ?_
    | refine wpL_loadH 1 hG rfl rfl (by decide) rfl rfl rfl rfl ?_
    | refine wpL_loadH 2 hG rfl rfl (by decide) rfl rfl rfl rfl ?_
    | refine wpL_loadH 3 hG rfl rfl (by decide) rfl rfl rfl rfl ?_
    | refine wpL_loadH 4 hG rfl rfl (by decide) rfl rfl rfl rfl ?_
    | refine wpL_loadH 5 hG rfl rfl (by decide) rfl rfl rfl rfl ?_
    | (refine wpL_storeH 0 hG rfl rfl rfl rfl rfl rfl rfl rfl rfl rfl rfl ?_; intro G hG)
    | (refine wpL_storeH 1 hG rfl rfl rfl rfl rfl rfl rfl rfl rfl rfl rfl ?_; intro G hG)
    | (refine wpL_storeH 2 hG rfl rfl rfl rfl rfl rfl rfl rfl rfl rfl rfl ?_; intro G hG)
    | (refine wpL_storeH 3 hG rfl rfl rfl rfl rfl rfl rfl rfl rfl rfl rfl ?_; intro G hG)
    | (refine wpL_storeH 4 hG rfl rfl rfl rfl rfl rfl rfl rfl rfl rfl rfl ?_; intro G hG)
    | (refine wpL_storeH 5 hG rfl rfl rfl rfl rfl rfl rfl rfl rfl rfl rfl ?_; intro G hG)
    | (refine wpL_allocH hG rfl rfl (by decide) rfl rfl ?_; intro id G hG)
    | (refine wpL_boxH hG rfl rfl (by decide) rfl rfl rfl ?_; intro id G hG)
    | (refine wpL_sliceH hG rfl rfl (by decide) rfl rfl rfl rfl rfl rfl rfl rfl ?_; intro id G hG)
    | refine wpL_gt rfl rfl rfl rfl rfl (by decide) (by first | rfl | exact decide_eq_true (by omega) | exact decide_eq_false (by omega) | exact ndec_t (by omega) | exact ndec_f (by omega)) ?_
    | refine wpL_gf rfl rfl rfl rfl rfl (by decide) (by first | rfl | exact decide_eq_true (by omega) | exact decide_eq_false (by omega) | exact ndec_t (by omega) | exact ndec_f (by omega)) ?_
    | refine wpA_ct rfl (by first | rfl | exact decide_eq_true (by omega) | exact ndec_t (by omega)) ?_
    | refine wpA_cf rfl (by first | rfl | exact decide_eq_false (by omega) | exact ndec_f (by omega)) ?_
    | refine wpA_skip ?_
    | refine wpA_exit ?_
    | refine wpA_ret ?_
    | refine x_then_exit ?_
    | refine x_then_ret ?_
    | refine x_then_normal ?_
    | refine x_block_ret ?_
    | refine x_block_normal ?_
    | refine x_block_exit ?_
    | refine x_block_other rfl ?_
    | refine wpL_v rfl rfl (by decide) (OpV_pick_t rfl rfl (ndec_t (by omega)) rfl) ?_
    | refine wpL_v rfl rfl (by decide) (OpV_pick_f rfl rfl (ndec_f (by omega)) rfl) ?_)
  exact postI_1 rfl rfl (.refl _) (.v _) rfl

theorem wk_zero : Wk (.agg zeroPage) (.agg (encPage nilPage)) :=
  .agg (.cons (.refl _) (.cons (.refl _) (.cons (.refl _) (.cons (.refl _) (.cons (.refl _) (.cons (.nil 6) (.cons (.nil 6) (.cons (.refl _) (.cons (.refl _) .nil)))))))))
theorem sameZero_iso : Iso Try.prog 17 [.agg zeroPage, .agg zeroPage] (fun p => p = B true) :=
  Iso_wk (samePage_iso nilPage (by simp [nilPage]) (by simp [nilPage])) (.cons wk_zero (.cons wk_zero .nil))
end Go.Proofs.Ytpkeceifnmmhcaa
