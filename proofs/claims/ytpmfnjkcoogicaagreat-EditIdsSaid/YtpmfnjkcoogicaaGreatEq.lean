/- Equality of flat structs, and of slices of them. -/
import Derived.Test.YtpmfnjkcoogicaaGreatDa
namespace Go.Proofs.YtpmfnjkcoogicaaGreat
open Go.RowKit Go.Th
set_option linter.unusedVariables false
set_option maxRecDepth 20000

theorem prp_guard : Tryz.prog.eqGuardType Tryz.prog.depth 123 = false := by kernel_rfl
theorem prp_held : Tryz.prog.stoodInHeld 123 = false := by kernel_rfl
theorem prp_fields : Tryz.prog.underlying 123 = some (.struct (Tryz.prog.fieldsOf 123)) := by kernel_rfl
theorem prp_fl : (Tryz.prog.fieldsOf 123).toList = [{ name := "Key", type := 3, offset := 0, embedded := false, tag := "", pkgPath := "", byteOffset := 0 }, { name := "Value", type := 3, offset := 1, embedded := false, tag := "", pkgPath := "", byteOffset := 8 }] := by kernel_rfl
theorem prp_neq (a0 b0 : Int) (a1 b1 : Int) (x y : Operand) (w : World) : (do eqGuard .neq 123 x y (.agg #[.int .i64 a0, .int .i64 a1]) (.agg #[.int .i64 b0, .int .i64 b1]); binOp .neq 123 (.agg #[.int .i64 a0, .int .i64 a1]) (.agg #[.int .i64 b0, .int .i64 b1]) : Sem Value).run Tryz.prog w = .ok (.bool (!(eqv a0 b0 && eqv a1 b1))) w := by
  simp only [Sem.run_bind, run_eqGuard_agg _ _ _ _ _ _ _ prp_guard, Result.andThen_ok, run_neq_struct, run_equalIn_agg _ _ _ _ _ prp_fields prp_held, prp_fl, Op.eqFields]
  by_cases h0 : a0 = b0
  case neg =>
    have h0' : (a0 == b0) = false := by simp [h0]
    rw [show (eqv a0 b0 && eqv a1 b1) = false from by simp [eqv_ne h0]]
    go_simp
  subst h0
  by_cases h1 : a1 = b1
  case neg =>
    have h1' : (a1 == b1) = false := by simp [h1]
    rw [show (eqv a0 a0 && eqv a1 b1) = false from by simp [eqv_ne h1]]
    go_simp
  subst h1
  simp only [eqv_self, Bool.and_self]
  go_simp
theorem OpV_prpNe {o : Oper} {E : Env} {H : Heap} {ty : TypeId} {x y : Operand} {a b : Prp} (ho : o.op = .binOp .neq 123 x y ty) (hx : E.ev x = some (.agg (encPrp a))) (hy : E.ev y = some (.agg (encPrp b))) : OpV Tryz.prog o E H (.v (.bool (!(eqv a b)))) := by
  rw [eqv_Prp]
  exact OpV_bin ho hx hy rfl rfl (fun w => prp_neq _ _ _ _ _ _ w) rfl
theorem prp_len (x : Prp) : (encPrp x).length = 2 := rfl

set_option maxHeartbeats 4000000 in
theorem eqPrp_iso (F G : List Prp) : Iso Tryz.prog 55 [rowP encPrp 2 F, rowP encPrp 2 G] (fun p => p = B (eqv F G)) := by
  refine Iso_tr 0 rfl Tryz.func55 (by kernel_rfl) (by kernel_rfl) fun hF => ?_
  refine Iso_tr 1 rfl Tryz.func55 (by kernel_rfl) (by kernel_rfl) fun hG0 => ?_
  have hG := has_nil
  refine Iso_enter Tryz.func55 rfl rfl rfl ?_
  by_cases hl : F.length = G.length
  · repeat (first | refine wpL_end ?_ | refine wpA_seq ?_ | refine wpA_region ?_ | refine wpA_block ?_ | refine wpL_v rfl rfl (by decide) (OpV_cmp rfl rfl rfl (congrArg some (ndec_f (by omega)))) ?_ | refine wpL_v rfl rfl (by decide) (OpV_move rfl rfl) ?_ | refine wpL_v rfl rfl (by decide) (OpV_assign rfl rfl) ?_ | refine wpL_v rfl rfl (by decide) (OpV_len rfl rfl rfl) ?_ | refine wpA_cf rfl (by first | rfl | exact decide_eq_false (by omega) | exact ndec_f (by omega)) ?_ | refine wpA_skip ?_)
    refine wpA_loopS (S := Nat) (fun i => [(0, rowP encPrp 2 F), (1, rowP encPrp 2 G), (12, I F.length), (13, I i)]) (fun i _ => i ≤ F.length ∧ eqv F G = eqv (F.drop i) (G.drop i)) (fun i => F.length - i) 0
      (.cons rfl (.cons rfl (.cons rfl (.cons rfl (.nil _))))) ⟨by omega, rfl⟩ ?_
    rintro i H ⟨hi, he⟩
    have hG := Has.nil H
    by_cases hil : i < F.length
    · obtain ⟨f, hf⟩ : ∃ x, F[i]? = some x := ⟨_, List.getElem?_eq_getElem hil⟩
      obtain ⟨g, hg⟩ : ∃ x, G[i]? = some x := ⟨_, List.getElem?_eq_getElem (by omega)⟩
      rw [eqv_drop hf hg] at he
      repeat (first | refine wpL_end ?_ | refine wpA_seq ?_ | refine wpA_region ?_ | refine wpA_block ?_ | refine wpL_v rfl rfl (by decide) (OpV_cmp rfl rfl rfl (congrArg some (decide_eq_true (by omega)))) ?_ | refine wpL_v rfl rfl (by decide) (OpV_move rfl rfl) ?_ | refine wpL_v rfl rfl (by decide) (OpV_assign rfl rfl) ?_ | refine wpA_ct rfl (by first | rfl | exact decide_eq_true (by omega) | exact ndec_t (by omega)) ?_ | refine wpA_skip ?_)
      refine wpA_yq mixed (by decide +kernel) ?_
      repeat (first | refine Y_q rfl rfl rfl (by decide) (OpV_index_tr (cells := F.flatMap encPrp) rfl rfl rfl (by omega) (by exact flat_at prp_len F i f hf)) ?_ | refine Y_q rfl rfl rfl (by decide) (OpV_index_tr (cells := G.flatMap encPrp) rfl rfl rfl (by omega) (by exact flat_at prp_len G i g hg)) ?_ | refine Y_q rfl rfl rfl (by decide) (OpV_prpNe (a := f) (b := g) rfl rfl rfl) ?_ | refine Y_q rfl rfl rfl (by decide) (OpV_move rfl rfl) ?_ | refine Y_q rfl rfl rfl (by decide) (OpV_load rfl rfl rfl) ?_ | refine Y_end ?_)
      cases hq : eqv f g with
      | true =>
        have hq' : (!eqv f g) = false := by rw [hq]; rfl
        rw [hq, Bool.true_and] at he
        repeat (first | refine wpL_end ?_ | refine wpA_region ?_ | refine wpL_v rfl rfl (by decide) (OpV_move rfl rfl) ?_ | refine wpL_v rfl rfl (by decide) (OpV_add rfl rfl rfl (by omega)) ?_ | refine wpA_cf rfl (by first | rfl | exact decide_eq_false (by omega) | exact ndec_f (by omega)) ?_ | refine wpA_skip ?_)
        exact ⟨i + 1, by omega, .cons rfl (.cons rfl (.cons rfl (.cons rfl (.nil _)))), by omega, he⟩
      | false =>
        have hq' : (!eqv f g) = true := by rw [hq]; rfl
        rw [hq, Bool.false_and] at he
        repeat (first | refine wpL_end ?_ | refine wpA_seq ?_ | refine wpA_region ?_ | refine wpL_v rfl rfl (by decide) (OpV_assign rfl rfl) ?_ | refine wpA_ct rfl (by first | rfl | exact decide_eq_true (by omega) | exact ndec_t (by omega)) ?_ | refine wpA_ret ?_ | refine x_then_ret ?_ | refine x_block_ret ?_)
        rw [he]
        exact postI_1 rfl rfl (.refl _) (.v _) rfl
    · have e : i = F.length := by omega
      rw [eqv_end e hl] at he
      subst e
      repeat (first | refine wpL_end ?_ | refine wpA_seq ?_ | refine wpA_region ?_ | refine wpL_v rfl rfl (by decide) (OpV_cmp rfl rfl rfl (congrArg some (decide_eq_false (by omega)))) ?_ | refine wpL_v rfl rfl (by decide) (OpV_assign rfl rfl) ?_ | refine wpA_cf rfl (by first | rfl | exact decide_eq_false (by omega) | exact ndec_f (by omega)) ?_ | refine wpA_exit ?_ | refine wpA_ret ?_)
      rw [he]
      exact postI_1 rfl rfl (.refl _) (.v _) rfl
  · rw [eqv_len hl]
    repeat (first | refine wpL_end ?_ | refine wpA_seq ?_ | refine wpA_region ?_ | refine wpL_v rfl rfl (by decide) (OpV_cmp rfl rfl rfl (congrArg some (ndec_t (by omega)))) ?_ | refine wpL_v rfl rfl (by decide) (OpV_move rfl rfl) ?_ | refine wpL_v rfl rfl (by decide) (OpV_assign rfl rfl) ?_ | refine wpL_v rfl rfl (by decide) (OpV_len rfl rfl rfl) ?_ | refine wpA_ct rfl (by first | rfl | exact decide_eq_true (by omega) | exact ndec_t (by omega)) ?_ | refine wpA_ret ?_ | refine x_then_ret ?_)
    exact postI_1 rfl rfl (.refl _) (.v _) rfl

theorem dl_guard : Tryz.prog.eqGuardType Tryz.prog.depth 126 = false := by kernel_rfl
theorem dl_held : Tryz.prog.stoodInHeld 126 = false := by kernel_rfl
theorem dl_fields : Tryz.prog.underlying 126 = some (.struct (Tryz.prog.fieldsOf 126)) := by kernel_rfl
theorem dl_fl : (Tryz.prog.fieldsOf 126).toList = [{ name := "Rev", type := 3, offset := 0, embedded := false, tag := "", pkgPath := "", byteOffset := 0 }, { name := "Move", type := 3, offset := 1, embedded := false, tag := "", pkgPath := "", byteOffset := 8 }] := by kernel_rfl
theorem dl_neq (a0 b0 : Int) (a1 b1 : Int) (x y : Operand) (w : World) : (do eqGuard .neq 126 x y (.agg #[.int .i64 a0, .int .i64 a1]) (.agg #[.int .i64 b0, .int .i64 b1]); binOp .neq 126 (.agg #[.int .i64 a0, .int .i64 a1]) (.agg #[.int .i64 b0, .int .i64 b1]) : Sem Value).run Tryz.prog w = .ok (.bool (!(eqv a0 b0 && eqv a1 b1))) w := by
  simp only [Sem.run_bind, run_eqGuard_agg _ _ _ _ _ _ _ dl_guard, Result.andThen_ok, run_neq_struct, run_equalIn_agg _ _ _ _ _ dl_fields dl_held, dl_fl, Op.eqFields]
  by_cases h0 : a0 = b0
  case neg =>
    have h0' : (a0 == b0) = false := by simp [h0]
    rw [show (eqv a0 b0 && eqv a1 b1) = false from by simp [eqv_ne h0]]
    go_simp
  subst h0
  by_cases h1 : a1 = b1
  case neg =>
    have h1' : (a1 == b1) = false := by simp [h1]
    rw [show (eqv a0 a0 && eqv a1 b1) = false from by simp [eqv_ne h1]]
    go_simp
  subst h1
  simp only [eqv_self, Bool.and_self]
  go_simp
theorem OpV_dlNe {o : Oper} {E : Env} {H : Heap} {ty : TypeId} {x y : Operand} {a b : Dl} (ho : o.op = .binOp .neq 126 x y ty) (hx : E.ev x = some (.agg (encDl a))) (hy : E.ev y = some (.agg (encDl b))) : OpV Tryz.prog o E H (.v (.bool (!(eqv a b)))) := by
  rw [eqv_Dl]
  exact OpV_bin ho hx hy rfl rfl (fun w => dl_neq _ _ _ _ _ _ w) rfl
theorem dl_len (x : Dl) : (encDl x).length = 2 := rfl

set_option maxHeartbeats 4000000 in
theorem eqDl_iso (F G : List Dl) : Iso Tryz.prog 56 [rowP encDl 2 F, rowP encDl 2 G] (fun p => p = B (eqv F G)) := by
  refine Iso_tr 0 rfl Tryz.func56 (by kernel_rfl) (by kernel_rfl) fun hF => ?_
  refine Iso_tr 1 rfl Tryz.func56 (by kernel_rfl) (by kernel_rfl) fun hG0 => ?_
  have hG := has_nil
  refine Iso_enter Tryz.func56 rfl rfl rfl ?_
  by_cases hl : F.length = G.length
  · repeat (first | refine wpL_end ?_ | refine wpA_seq ?_ | refine wpA_region ?_ | refine wpA_block ?_ | refine wpL_v rfl rfl (by decide) (OpV_cmp rfl rfl rfl (congrArg some (ndec_f (by omega)))) ?_ | refine wpL_v rfl rfl (by decide) (OpV_move rfl rfl) ?_ | refine wpL_v rfl rfl (by decide) (OpV_assign rfl rfl) ?_ | refine wpL_v rfl rfl (by decide) (OpV_len rfl rfl rfl) ?_ | refine wpA_cf rfl (by first | rfl | exact decide_eq_false (by omega) | exact ndec_f (by omega)) ?_ | refine wpA_skip ?_)
    refine wpA_loopS (S := Nat) (fun i => [(0, rowP encDl 2 F), (1, rowP encDl 2 G), (12, I F.length), (13, I i)]) (fun i _ => i ≤ F.length ∧ eqv F G = eqv (F.drop i) (G.drop i)) (fun i => F.length - i) 0
      (.cons rfl (.cons rfl (.cons rfl (.cons rfl (.nil _))))) ⟨by omega, rfl⟩ ?_
    rintro i H ⟨hi, he⟩
    have hG := Has.nil H
    by_cases hil : i < F.length
    · obtain ⟨f, hf⟩ : ∃ x, F[i]? = some x := ⟨_, List.getElem?_eq_getElem hil⟩
      obtain ⟨g, hg⟩ : ∃ x, G[i]? = some x := ⟨_, List.getElem?_eq_getElem (by omega)⟩
      rw [eqv_drop hf hg] at he
      repeat (first | refine wpL_end ?_ | refine wpA_seq ?_ | refine wpA_region ?_ | refine wpA_block ?_ | refine wpL_v rfl rfl (by decide) (OpV_cmp rfl rfl rfl (congrArg some (decide_eq_true (by omega)))) ?_ | refine wpL_v rfl rfl (by decide) (OpV_move rfl rfl) ?_ | refine wpL_v rfl rfl (by decide) (OpV_assign rfl rfl) ?_ | refine wpA_ct rfl (by first | rfl | exact decide_eq_true (by omega) | exact ndec_t (by omega)) ?_ | refine wpA_skip ?_)
      refine wpA_yq mixed (by decide +kernel) ?_
      repeat (first | refine Y_q rfl rfl rfl (by decide) (OpV_index_tr (cells := F.flatMap encDl) rfl rfl rfl (by omega) (by exact flat_at dl_len F i f hf)) ?_ | refine Y_q rfl rfl rfl (by decide) (OpV_index_tr (cells := G.flatMap encDl) rfl rfl rfl (by omega) (by exact flat_at dl_len G i g hg)) ?_ | refine Y_q rfl rfl rfl (by decide) (OpV_dlNe (a := f) (b := g) rfl rfl rfl) ?_ | refine Y_q rfl rfl rfl (by decide) (OpV_move rfl rfl) ?_ | refine Y_q rfl rfl rfl (by decide) (OpV_load rfl rfl rfl) ?_ | refine Y_end ?_)
      cases hq : eqv f g with
      | true =>
        have hq' : (!eqv f g) = false := by rw [hq]; rfl
        rw [hq, Bool.true_and] at he
        repeat (first | refine wpL_end ?_ | refine wpA_region ?_ | refine wpL_v rfl rfl (by decide) (OpV_move rfl rfl) ?_ | refine wpL_v rfl rfl (by decide) (OpV_add rfl rfl rfl (by omega)) ?_ | refine wpA_cf rfl (by first | rfl | exact decide_eq_false (by omega) | exact ndec_f (by omega)) ?_ | refine wpA_skip ?_)
        exact ⟨i + 1, by omega, .cons rfl (.cons rfl (.cons rfl (.cons rfl (.nil _)))), by omega, he⟩
      | false =>
        have hq' : (!eqv f g) = true := by rw [hq]; rfl
        rw [hq, Bool.false_and] at he
        repeat (first | refine wpL_end ?_ | refine wpA_seq ?_ | refine wpA_region ?_ | refine wpL_v rfl rfl (by decide) (OpV_assign rfl rfl) ?_ | refine wpA_ct rfl (by first | rfl | exact decide_eq_true (by omega) | exact ndec_t (by omega)) ?_ | refine wpA_ret ?_ | refine x_then_ret ?_ | refine x_block_ret ?_)
        rw [he]
        exact postI_1 rfl rfl (.refl _) (.v _) rfl
    · have e : i = F.length := by omega
      rw [eqv_end e hl] at he
      subst e
      repeat (first | refine wpL_end ?_ | refine wpA_seq ?_ | refine wpA_region ?_ | refine wpL_v rfl rfl (by decide) (OpV_cmp rfl rfl rfl (congrArg some (decide_eq_false (by omega)))) ?_ | refine wpL_v rfl rfl (by decide) (OpV_assign rfl rfl) ?_ | refine wpA_cf rfl (by first | rfl | exact decide_eq_false (by omega) | exact ndec_f (by omega)) ?_ | refine wpA_exit ?_ | refine wpA_ret ?_)
      rw [he]
      exact postI_1 rfl rfl (.refl _) (.v _) rfl
  · rw [eqv_len hl]
    repeat (first | refine wpL_end ?_ | refine wpA_seq ?_ | refine wpA_region ?_ | refine wpL_v rfl rfl (by decide) (OpV_cmp rfl rfl rfl (congrArg some (ndec_t (by omega)))) ?_ | refine wpL_v rfl rfl (by decide) (OpV_move rfl rfl) ?_ | refine wpL_v rfl rfl (by decide) (OpV_assign rfl rfl) ?_ | refine wpL_v rfl rfl (by decide) (OpV_len rfl rfl rfl) ?_ | refine wpA_ct rfl (by first | rfl | exact decide_eq_true (by omega) | exact ndec_t (by omega)) ?_ | refine wpA_ret ?_ | refine x_then_ret ?_)
    exact postI_1 rfl rfl (.refl _) (.v _) rfl

theorem lyr_guard : Tryz.prog.eqGuardType Tryz.prog.depth 129 = false := by kernel_rfl
theorem lyr_held : Tryz.prog.stoodInHeld 129 = false := by kernel_rfl
theorem lyr_fields : Tryz.prog.underlying 129 = some (.struct (Tryz.prog.fieldsOf 129)) := by kernel_rfl
theorem lyr_fl : (Tryz.prog.fieldsOf 129).toList = [{ name := "Rev", type := 3, offset := 0, embedded := false, tag := "", pkgPath := "", byteOffset := 0 }, { name := "Key", type := 3, offset := 1, embedded := false, tag := "", pkgPath := "", byteOffset := 8 }, { name := "Before", type := 3, offset := 2, embedded := false, tag := "", pkgPath := "", byteOffset := 16 }, { name := "Had", type := 4, offset := 3, embedded := false, tag := "", pkgPath := "", byteOffset := 24 }] := by kernel_rfl
theorem lyr_neq (a0 b0 : Int) (a1 b1 : Int) (a2 b2 : Int) (a3 b3 : Bool) (x y : Operand) (w : World) : (do eqGuard .neq 129 x y (.agg #[.int .i64 a0, .int .i64 a1, .int .i64 a2, .bool a3]) (.agg #[.int .i64 b0, .int .i64 b1, .int .i64 b2, .bool b3]); binOp .neq 129 (.agg #[.int .i64 a0, .int .i64 a1, .int .i64 a2, .bool a3]) (.agg #[.int .i64 b0, .int .i64 b1, .int .i64 b2, .bool b3]) : Sem Value).run Tryz.prog w = .ok (.bool (!(eqv a0 b0 && eqv a1 b1 && eqv a2 b2 && eqv a3 b3))) w := by
  simp only [Sem.run_bind, run_eqGuard_agg _ _ _ _ _ _ _ lyr_guard, Result.andThen_ok, run_neq_struct, run_equalIn_agg _ _ _ _ _ lyr_fields lyr_held, lyr_fl, Op.eqFields]
  by_cases h0 : a0 = b0
  case neg =>
    have h0' : (a0 == b0) = false := by simp [h0]
    rw [show (eqv a0 b0 && eqv a1 b1 && eqv a2 b2 && eqv a3 b3) = false from by simp [eqv_ne h0]]
    go_simp
  subst h0
  by_cases h1 : a1 = b1
  case neg =>
    have h1' : (a1 == b1) = false := by simp [h1]
    rw [show (eqv a0 a0 && eqv a1 b1 && eqv a2 b2 && eqv a3 b3) = false from by simp [eqv_ne h1]]
    go_simp
  subst h1
  by_cases h2 : a2 = b2
  case neg =>
    have h2' : (a2 == b2) = false := by simp [h2]
    rw [show (eqv a0 a0 && eqv a1 a1 && eqv a2 b2 && eqv a3 b3) = false from by simp [eqv_ne h2]]
    go_simp
  subst h2
  by_cases h3 : a3 = b3
  case neg =>
    have h3' : (a3 == b3) = false := by simp [h3]
    rw [show (eqv a0 a0 && eqv a1 a1 && eqv a2 a2 && eqv a3 b3) = false from by simp [eqv_ne h3]]
    go_simp
  subst h3
  simp only [eqv_self, Bool.and_self]
  go_simp
theorem OpV_lyrNe {o : Oper} {E : Env} {H : Heap} {ty : TypeId} {x y : Operand} {a b : Lyr} (ho : o.op = .binOp .neq 129 x y ty) (hx : E.ev x = some (.agg (encLyr a))) (hy : E.ev y = some (.agg (encLyr b))) : OpV Tryz.prog o E H (.v (.bool (!(eqv a b)))) := by
  rw [eqv_Lyr]
  exact OpV_bin ho hx hy rfl rfl (fun w => lyr_neq _ _ _ _ _ _ _ _ _ _ w) rfl
theorem lyr_len (x : Lyr) : (encLyr x).length = 4 := rfl

set_option maxHeartbeats 4000000 in
theorem eqLyr_iso (F G : List Lyr) : Iso Tryz.prog 57 [rowP encLyr 4 F, rowP encLyr 4 G] (fun p => p = B (eqv F G)) := by
  refine Iso_tr 0 rfl Tryz.func57 (by kernel_rfl) (by kernel_rfl) fun hF => ?_
  refine Iso_tr 1 rfl Tryz.func57 (by kernel_rfl) (by kernel_rfl) fun hG0 => ?_
  have hG := has_nil
  refine Iso_enter Tryz.func57 rfl rfl rfl ?_
  by_cases hl : F.length = G.length
  · repeat (first | refine wpL_end ?_ | refine wpA_seq ?_ | refine wpA_region ?_ | refine wpA_block ?_ | refine wpL_v rfl rfl (by decide) (OpV_cmp rfl rfl rfl (congrArg some (ndec_f (by omega)))) ?_ | refine wpL_v rfl rfl (by decide) (OpV_move rfl rfl) ?_ | refine wpL_v rfl rfl (by decide) (OpV_assign rfl rfl) ?_ | refine wpL_v rfl rfl (by decide) (OpV_len rfl rfl rfl) ?_ | refine wpA_cf rfl (by first | rfl | exact decide_eq_false (by omega) | exact ndec_f (by omega)) ?_ | refine wpA_skip ?_)
    refine wpA_loopS (S := Nat) (fun i => [(0, rowP encLyr 4 F), (1, rowP encLyr 4 G), (12, I F.length), (13, I i)]) (fun i _ => i ≤ F.length ∧ eqv F G = eqv (F.drop i) (G.drop i)) (fun i => F.length - i) 0
      (.cons rfl (.cons rfl (.cons rfl (.cons rfl (.nil _))))) ⟨by omega, rfl⟩ ?_
    rintro i H ⟨hi, he⟩
    have hG := Has.nil H
    by_cases hil : i < F.length
    · obtain ⟨f, hf⟩ : ∃ x, F[i]? = some x := ⟨_, List.getElem?_eq_getElem hil⟩
      obtain ⟨g, hg⟩ : ∃ x, G[i]? = some x := ⟨_, List.getElem?_eq_getElem (by omega)⟩
      rw [eqv_drop hf hg] at he
      repeat (first | refine wpL_end ?_ | refine wpA_seq ?_ | refine wpA_region ?_ | refine wpA_block ?_ | refine wpL_v rfl rfl (by decide) (OpV_cmp rfl rfl rfl (congrArg some (decide_eq_true (by omega)))) ?_ | refine wpL_v rfl rfl (by decide) (OpV_move rfl rfl) ?_ | refine wpL_v rfl rfl (by decide) (OpV_assign rfl rfl) ?_ | refine wpA_ct rfl (by first | rfl | exact decide_eq_true (by omega) | exact ndec_t (by omega)) ?_ | refine wpA_skip ?_)
      refine wpA_yq mixed (by decide +kernel) ?_
      repeat (first | refine Y_q rfl rfl rfl (by decide) (OpV_index_tr (cells := F.flatMap encLyr) rfl rfl rfl (by omega) (by exact flat_at lyr_len F i f hf)) ?_ | refine Y_q rfl rfl rfl (by decide) (OpV_index_tr (cells := G.flatMap encLyr) rfl rfl rfl (by omega) (by exact flat_at lyr_len G i g hg)) ?_ | refine Y_q rfl rfl rfl (by decide) (OpV_lyrNe (a := f) (b := g) rfl rfl rfl) ?_ | refine Y_q rfl rfl rfl (by decide) (OpV_move rfl rfl) ?_ | refine Y_q rfl rfl rfl (by decide) (OpV_load rfl rfl rfl) ?_ | refine Y_end ?_)
      cases hq : eqv f g with
      | true =>
        have hq' : (!eqv f g) = false := by rw [hq]; rfl
        rw [hq, Bool.true_and] at he
        repeat (first | refine wpL_end ?_ | refine wpA_region ?_ | refine wpL_v rfl rfl (by decide) (OpV_move rfl rfl) ?_ | refine wpL_v rfl rfl (by decide) (OpV_add rfl rfl rfl (by omega)) ?_ | refine wpA_cf rfl (by first | rfl | exact decide_eq_false (by omega) | exact ndec_f (by omega)) ?_ | refine wpA_skip ?_)
        exact ⟨i + 1, by omega, .cons rfl (.cons rfl (.cons rfl (.cons rfl (.nil _)))), by omega, he⟩
      | false =>
        have hq' : (!eqv f g) = true := by rw [hq]; rfl
        rw [hq, Bool.false_and] at he
        repeat (first | refine wpL_end ?_ | refine wpA_seq ?_ | refine wpA_region ?_ | refine wpL_v rfl rfl (by decide) (OpV_assign rfl rfl) ?_ | refine wpA_ct rfl (by first | rfl | exact decide_eq_true (by omega) | exact ndec_t (by omega)) ?_ | refine wpA_ret ?_ | refine x_then_ret ?_ | refine x_block_ret ?_)
        rw [he]
        exact postI_1 rfl rfl (.refl _) (.v _) rfl
    · have e : i = F.length := by omega
      rw [eqv_end e hl] at he
      subst e
      repeat (first | refine wpL_end ?_ | refine wpA_seq ?_ | refine wpA_region ?_ | refine wpL_v rfl rfl (by decide) (OpV_cmp rfl rfl rfl (congrArg some (decide_eq_false (by omega)))) ?_ | refine wpL_v rfl rfl (by decide) (OpV_assign rfl rfl) ?_ | refine wpA_cf rfl (by first | rfl | exact decide_eq_false (by omega) | exact ndec_f (by omega)) ?_ | refine wpA_exit ?_ | refine wpA_ret ?_)
      rw [he]
      exact postI_1 rfl rfl (.refl _) (.v _) rfl
  · rw [eqv_len hl]
    repeat (first | refine wpL_end ?_ | refine wpA_seq ?_ | refine wpA_region ?_ | refine wpL_v rfl rfl (by decide) (OpV_cmp rfl rfl rfl (congrArg some (ndec_t (by omega)))) ?_ | refine wpL_v rfl rfl (by decide) (OpV_move rfl rfl) ?_ | refine wpL_v rfl rfl (by decide) (OpV_assign rfl rfl) ?_ | refine wpL_v rfl rfl (by decide) (OpV_len rfl rfl rfl) ?_ | refine wpA_ct rfl (by first | rfl | exact decide_eq_true (by omega) | exact ndec_t (by omega)) ?_ | refine wpA_ret ?_ | refine x_then_ret ?_)
    exact postI_1 rfl rfl (.refl _) (.v _) rfl

theorem level_guard : Tryz.prog.eqGuardType Tryz.prog.depth 81 = false := by kernel_rfl
theorem level_held : Tryz.prog.stoodInHeld 81 = false := by kernel_rfl
theorem level_fields : Tryz.prog.underlying 81 = some (.struct (Tryz.prog.fieldsOf 81)) := by kernel_rfl
theorem level_fl : (Tryz.prog.fieldsOf 81).toList = [{ name := "Format", type := 3, offset := 0, embedded := false, tag := "", pkgPath := "", byteOffset := 0 }, { name := "Start", type := 3, offset := 1, embedded := false, tag := "", pkgPath := "", byteOffset := 8 }, { name := "Template", type := 9, offset := 2, embedded := false, tag := "", pkgPath := "", byteOffset := 16 }, { name := "Restart", type := 3, offset := 3, embedded := false, tag := "", pkgPath := "", byteOffset := 32 }] := by kernel_rfl
theorem level_neq (a0 b0 : Int) (a1 b1 : Int) (a2 b2 : ByteArray) (a3 b3 : Int) (x y : Operand) (w : World) : (do eqGuard .neq 81 x y (.agg #[.int .i64 a0, .int .i64 a1, .string a2, .int .i64 a3]) (.agg #[.int .i64 b0, .int .i64 b1, .string b2, .int .i64 b3]); binOp .neq 81 (.agg #[.int .i64 a0, .int .i64 a1, .string a2, .int .i64 a3]) (.agg #[.int .i64 b0, .int .i64 b1, .string b2, .int .i64 b3]) : Sem Value).run Tryz.prog w = .ok (.bool (!(eqv a0 b0 && eqv a1 b1 && eqv a2 b2 && eqv a3 b3))) w := by
  simp only [Sem.run_bind, run_eqGuard_agg _ _ _ _ _ _ _ level_guard, Result.andThen_ok, run_neq_struct, run_equalIn_agg _ _ _ _ _ level_fields level_held, level_fl, Op.eqFields]
  by_cases h0 : a0 = b0
  case neg =>
    have h0' : (a0 == b0) = false := by simp [h0]
    rw [show (eqv a0 b0 && eqv a1 b1 && eqv a2 b2 && eqv a3 b3) = false from by simp [eqv_ne h0]]
    go_simp
  subst h0
  by_cases h1 : a1 = b1
  case neg =>
    have h1' : (a1 == b1) = false := by simp [h1]
    rw [show (eqv a0 a0 && eqv a1 b1 && eqv a2 b2 && eqv a3 b3) = false from by simp [eqv_ne h1]]
    go_simp
  subst h1
  by_cases h2 : a2 = b2
  case neg =>
    have h2' : (a2.toList == b2.toList) = false := by rw [eqv_str]; exact eqv_ne h2
    rw [show (eqv a0 a0 && eqv a1 a1 && eqv a2 b2 && eqv a3 b3) = false from by simp [eqv_ne h2]]
    go_simp
  subst h2
  by_cases h3 : a3 = b3
  case neg =>
    have h3' : (a3 == b3) = false := by simp [h3]
    rw [show (eqv a0 a0 && eqv a1 a1 && eqv a2 a2 && eqv a3 b3) = false from by simp [eqv_ne h3]]
    go_simp
  subst h3
  simp only [eqv_self, Bool.and_self]
  go_simp
theorem OpV_levelNe {o : Oper} {E : Env} {H : Heap} {ty : TypeId} {x y : Operand} {a b : Level} (ho : o.op = .binOp .neq 81 x y ty) (hx : E.ev x = some (.agg (encLevel a))) (hy : E.ev y = some (.agg (encLevel b))) : OpV Tryz.prog o E H (.v (.bool (!(eqv a b)))) := by
  rw [eqv_Level]
  exact OpV_bin ho hx hy rfl rfl (fun w => level_neq _ _ _ _ _ _ _ _ _ _ w) rfl
theorem level_len (x : Level) : (encLevel x).length = 4 := rfl

set_option maxHeartbeats 4000000 in
theorem eqLevel_iso (F G : List Level) : Iso Tryz.prog 27 [rowP encLevel 4 F, rowP encLevel 4 G] (fun p => p = B (eqv F G)) := by
  refine Iso_tr 0 rfl Tryz.func27 (by kernel_rfl) (by kernel_rfl) fun hF => ?_
  refine Iso_tr 1 rfl Tryz.func27 (by kernel_rfl) (by kernel_rfl) fun hG0 => ?_
  have hG := has_nil
  refine Iso_enter Tryz.func27 rfl rfl rfl ?_
  by_cases hl : F.length = G.length
  · repeat (first | refine wpL_end ?_ | refine wpA_seq ?_ | refine wpA_region ?_ | refine wpA_block ?_ | refine wpL_v rfl rfl (by decide) (OpV_cmp rfl rfl rfl (congrArg some (ndec_f (by omega)))) ?_ | refine wpL_v rfl rfl (by decide) (OpV_move rfl rfl) ?_ | refine wpL_v rfl rfl (by decide) (OpV_assign rfl rfl) ?_ | refine wpL_v rfl rfl (by decide) (OpV_len rfl rfl rfl) ?_ | refine wpA_cf rfl (by first | rfl | exact decide_eq_false (by omega) | exact ndec_f (by omega)) ?_ | refine wpA_skip ?_)
    refine wpA_loopS (S := Nat) (fun i => [(0, rowP encLevel 4 F), (1, rowP encLevel 4 G), (12, I F.length), (13, I i)]) (fun i _ => i ≤ F.length ∧ eqv F G = eqv (F.drop i) (G.drop i)) (fun i => F.length - i) 0
      (.cons rfl (.cons rfl (.cons rfl (.cons rfl (.nil _))))) ⟨by omega, rfl⟩ ?_
    rintro i H ⟨hi, he⟩
    have hG := Has.nil H
    by_cases hil : i < F.length
    · obtain ⟨f, hf⟩ : ∃ x, F[i]? = some x := ⟨_, List.getElem?_eq_getElem hil⟩
      obtain ⟨g, hg⟩ : ∃ x, G[i]? = some x := ⟨_, List.getElem?_eq_getElem (by omega)⟩
      rw [eqv_drop hf hg] at he
      repeat (first | refine wpL_end ?_ | refine wpA_seq ?_ | refine wpA_region ?_ | refine wpA_block ?_ | refine wpL_v rfl rfl (by decide) (OpV_cmp rfl rfl rfl (congrArg some (decide_eq_true (by omega)))) ?_ | refine wpL_v rfl rfl (by decide) (OpV_move rfl rfl) ?_ | refine wpL_v rfl rfl (by decide) (OpV_assign rfl rfl) ?_ | refine wpA_ct rfl (by first | rfl | exact decide_eq_true (by omega) | exact ndec_t (by omega)) ?_ | refine wpA_skip ?_)
      refine wpA_yq mixed (by decide +kernel) ?_
      repeat (first | refine Y_q rfl rfl rfl (by decide) (OpV_index_tr (cells := F.flatMap encLevel) rfl rfl rfl (by omega) (by exact flat_at level_len F i f hf)) ?_ | refine Y_q rfl rfl rfl (by decide) (OpV_index_tr (cells := G.flatMap encLevel) rfl rfl rfl (by omega) (by exact flat_at level_len G i g hg)) ?_ | refine Y_q rfl rfl rfl (by decide) (OpV_levelNe (a := f) (b := g) rfl rfl rfl) ?_ | refine Y_q rfl rfl rfl (by decide) (OpV_move rfl rfl) ?_ | refine Y_q rfl rfl rfl (by decide) (OpV_load rfl rfl rfl) ?_ | refine Y_end ?_)
      cases hq : eqv f g with
      | true =>
        have hq' : (!eqv f g) = false := by rw [hq]; rfl
        rw [hq, Bool.true_and] at he
        repeat (first | refine wpL_end ?_ | refine wpA_region ?_ | refine wpL_v rfl rfl (by decide) (OpV_move rfl rfl) ?_ | refine wpL_v rfl rfl (by decide) (OpV_add rfl rfl rfl (by omega)) ?_ | refine wpA_cf rfl (by first | rfl | exact decide_eq_false (by omega) | exact ndec_f (by omega)) ?_ | refine wpA_skip ?_)
        exact ⟨i + 1, by omega, .cons rfl (.cons rfl (.cons rfl (.cons rfl (.nil _)))), by omega, he⟩
      | false =>
        have hq' : (!eqv f g) = true := by rw [hq]; rfl
        rw [hq, Bool.false_and] at he
        repeat (first | refine wpL_end ?_ | refine wpA_seq ?_ | refine wpA_region ?_ | refine wpL_v rfl rfl (by decide) (OpV_assign rfl rfl) ?_ | refine wpA_ct rfl (by first | rfl | exact decide_eq_true (by omega) | exact ndec_t (by omega)) ?_ | refine wpA_ret ?_ | refine x_then_ret ?_ | refine x_block_ret ?_)
        rw [he]
        exact postI_1 rfl rfl (.refl _) (.v _) rfl
    · have e : i = F.length := by omega
      rw [eqv_end e hl] at he
      subst e
      repeat (first | refine wpL_end ?_ | refine wpA_seq ?_ | refine wpA_region ?_ | refine wpL_v rfl rfl (by decide) (OpV_cmp rfl rfl rfl (congrArg some (decide_eq_false (by omega)))) ?_ | refine wpL_v rfl rfl (by decide) (OpV_assign rfl rfl) ?_ | refine wpA_cf rfl (by first | rfl | exact decide_eq_false (by omega) | exact ndec_f (by omega)) ?_ | refine wpA_exit ?_ | refine wpA_ret ?_)
      rw [he]
      exact postI_1 rfl rfl (.refl _) (.v _) rfl
  · rw [eqv_len hl]
    repeat (first | refine wpL_end ?_ | refine wpA_seq ?_ | refine wpA_region ?_ | refine wpL_v rfl rfl (by decide) (OpV_cmp rfl rfl rfl (congrArg some (ndec_t (by omega)))) ?_ | refine wpL_v rfl rfl (by decide) (OpV_move rfl rfl) ?_ | refine wpL_v rfl rfl (by decide) (OpV_assign rfl rfl) ?_ | refine wpL_v rfl rfl (by decide) (OpV_len rfl rfl rfl) ?_ | refine wpA_ct rfl (by first | rfl | exact decide_eq_true (by omega) | exact ndec_t (by omega)) ?_ | refine wpA_ret ?_ | refine x_then_ret ?_)
    exact postI_1 rfl rfl (.refl _) (.v _) rfl

theorem rev_guard : Tryz.prog.eqGuardType Tryz.prog.depth 86 = false := by kernel_rfl
theorem rev_held : Tryz.prog.stoodInHeld 86 = false := by kernel_rfl
theorem rev_fields : Tryz.prog.underlying 86 = some (.struct (Tryz.prog.fieldsOf 86)) := by kernel_rfl
theorem rev_fl : (Tryz.prog.fieldsOf 86).toList = [{ name := "Id", type := 3, offset := 0, embedded := false, tag := "", pkgPath := "", byteOffset := 0 }, { name := "Author", type := 9, offset := 1, embedded := false, tag := "", pkgPath := "", byteOffset := 8 }, { name := "Time", type := 3, offset := 2, embedded := false, tag := "", pkgPath := "", byteOffset := 24 }] := by kernel_rfl
theorem rev_neq (a0 b0 : Int) (a1 b1 : ByteArray) (a2 b2 : Int) (x y : Operand) (w : World) : (do eqGuard .neq 86 x y (.agg #[.int .i64 a0, .string a1, .int .i64 a2]) (.agg #[.int .i64 b0, .string b1, .int .i64 b2]); binOp .neq 86 (.agg #[.int .i64 a0, .string a1, .int .i64 a2]) (.agg #[.int .i64 b0, .string b1, .int .i64 b2]) : Sem Value).run Tryz.prog w = .ok (.bool (!(eqv a0 b0 && eqv a1 b1 && eqv a2 b2))) w := by
  simp only [Sem.run_bind, run_eqGuard_agg _ _ _ _ _ _ _ rev_guard, Result.andThen_ok, run_neq_struct, run_equalIn_agg _ _ _ _ _ rev_fields rev_held, rev_fl, Op.eqFields]
  by_cases h0 : a0 = b0
  case neg =>
    have h0' : (a0 == b0) = false := by simp [h0]
    rw [show (eqv a0 b0 && eqv a1 b1 && eqv a2 b2) = false from by simp [eqv_ne h0]]
    go_simp
  subst h0
  by_cases h1 : a1 = b1
  case neg =>
    have h1' : (a1.toList == b1.toList) = false := by rw [eqv_str]; exact eqv_ne h1
    rw [show (eqv a0 a0 && eqv a1 b1 && eqv a2 b2) = false from by simp [eqv_ne h1]]
    go_simp
  subst h1
  by_cases h2 : a2 = b2
  case neg =>
    have h2' : (a2 == b2) = false := by simp [h2]
    rw [show (eqv a0 a0 && eqv a1 a1 && eqv a2 b2) = false from by simp [eqv_ne h2]]
    go_simp
  subst h2
  simp only [eqv_self, Bool.and_self]
  go_simp
theorem OpV_revNe {o : Oper} {E : Env} {H : Heap} {ty : TypeId} {x y : Operand} {a b : Rev} (ho : o.op = .binOp .neq 86 x y ty) (hx : E.ev x = some (.agg (encRev a))) (hy : E.ev y = some (.agg (encRev b))) : OpV Tryz.prog o E H (.v (.bool (!(eqv a b)))) := by
  rw [eqv_Rev]
  exact OpV_bin ho hx hy rfl rfl (fun w => rev_neq _ _ _ _ _ _ _ _ w) rfl
theorem rev_len (x : Rev) : (encRev x).length = 3 := rfl

set_option maxHeartbeats 4000000 in
theorem eqRev_iso (F G : List Rev) : Iso Tryz.prog 29 [rowP encRev 3 F, rowP encRev 3 G] (fun p => p = B (eqv F G)) := by
  refine Iso_tr 0 rfl Tryz.func29 (by kernel_rfl) (by kernel_rfl) fun hF => ?_
  refine Iso_tr 1 rfl Tryz.func29 (by kernel_rfl) (by kernel_rfl) fun hG0 => ?_
  have hG := has_nil
  refine Iso_enter Tryz.func29 rfl rfl rfl ?_
  by_cases hl : F.length = G.length
  · repeat (first | refine wpL_end ?_ | refine wpA_seq ?_ | refine wpA_region ?_ | refine wpA_block ?_ | refine wpL_v rfl rfl (by decide) (OpV_cmp rfl rfl rfl (congrArg some (ndec_f (by omega)))) ?_ | refine wpL_v rfl rfl (by decide) (OpV_move rfl rfl) ?_ | refine wpL_v rfl rfl (by decide) (OpV_assign rfl rfl) ?_ | refine wpL_v rfl rfl (by decide) (OpV_len rfl rfl rfl) ?_ | refine wpA_cf rfl (by first | rfl | exact decide_eq_false (by omega) | exact ndec_f (by omega)) ?_ | refine wpA_skip ?_)
    refine wpA_loopS (S := Nat) (fun i => [(0, rowP encRev 3 F), (1, rowP encRev 3 G), (12, I F.length), (13, I i)]) (fun i _ => i ≤ F.length ∧ eqv F G = eqv (F.drop i) (G.drop i)) (fun i => F.length - i) 0
      (.cons rfl (.cons rfl (.cons rfl (.cons rfl (.nil _))))) ⟨by omega, rfl⟩ ?_
    rintro i H ⟨hi, he⟩
    have hG := Has.nil H
    by_cases hil : i < F.length
    · obtain ⟨f, hf⟩ : ∃ x, F[i]? = some x := ⟨_, List.getElem?_eq_getElem hil⟩
      obtain ⟨g, hg⟩ : ∃ x, G[i]? = some x := ⟨_, List.getElem?_eq_getElem (by omega)⟩
      rw [eqv_drop hf hg] at he
      repeat (first | refine wpL_end ?_ | refine wpA_seq ?_ | refine wpA_region ?_ | refine wpA_block ?_ | refine wpL_v rfl rfl (by decide) (OpV_cmp rfl rfl rfl (congrArg some (decide_eq_true (by omega)))) ?_ | refine wpL_v rfl rfl (by decide) (OpV_move rfl rfl) ?_ | refine wpL_v rfl rfl (by decide) (OpV_assign rfl rfl) ?_ | refine wpA_ct rfl (by first | rfl | exact decide_eq_true (by omega) | exact ndec_t (by omega)) ?_ | refine wpA_skip ?_)
      refine wpA_yq mixed (by decide +kernel) ?_
      repeat (first | refine Y_q rfl rfl rfl (by decide) (OpV_index_tr (cells := F.flatMap encRev) rfl rfl rfl (by omega) (by exact flat_at rev_len F i f hf)) ?_ | refine Y_q rfl rfl rfl (by decide) (OpV_index_tr (cells := G.flatMap encRev) rfl rfl rfl (by omega) (by exact flat_at rev_len G i g hg)) ?_ | refine Y_q rfl rfl rfl (by decide) (OpV_revNe (a := f) (b := g) rfl rfl rfl) ?_ | refine Y_q rfl rfl rfl (by decide) (OpV_move rfl rfl) ?_ | refine Y_q rfl rfl rfl (by decide) (OpV_load rfl rfl rfl) ?_ | refine Y_end ?_)
      cases hq : eqv f g with
      | true =>
        have hq' : (!eqv f g) = false := by rw [hq]; rfl
        rw [hq, Bool.true_and] at he
        repeat (first | refine wpL_end ?_ | refine wpA_region ?_ | refine wpL_v rfl rfl (by decide) (OpV_move rfl rfl) ?_ | refine wpL_v rfl rfl (by decide) (OpV_add rfl rfl rfl (by omega)) ?_ | refine wpA_cf rfl (by first | rfl | exact decide_eq_false (by omega) | exact ndec_f (by omega)) ?_ | refine wpA_skip ?_)
        exact ⟨i + 1, by omega, .cons rfl (.cons rfl (.cons rfl (.cons rfl (.nil _)))), by omega, he⟩
      | false =>
        have hq' : (!eqv f g) = true := by rw [hq]; rfl
        rw [hq, Bool.false_and] at he
        repeat (first | refine wpL_end ?_ | refine wpA_seq ?_ | refine wpA_region ?_ | refine wpL_v rfl rfl (by decide) (OpV_assign rfl rfl) ?_ | refine wpA_ct rfl (by first | rfl | exact decide_eq_true (by omega) | exact ndec_t (by omega)) ?_ | refine wpA_ret ?_ | refine x_then_ret ?_ | refine x_block_ret ?_)
        rw [he]
        exact postI_1 rfl rfl (.refl _) (.v _) rfl
    · have e : i = F.length := by omega
      rw [eqv_end e hl] at he
      subst e
      repeat (first | refine wpL_end ?_ | refine wpA_seq ?_ | refine wpA_region ?_ | refine wpL_v rfl rfl (by decide) (OpV_cmp rfl rfl rfl (congrArg some (decide_eq_false (by omega)))) ?_ | refine wpL_v rfl rfl (by decide) (OpV_assign rfl rfl) ?_ | refine wpA_cf rfl (by first | rfl | exact decide_eq_false (by omega) | exact ndec_f (by omega)) ?_ | refine wpA_exit ?_ | refine wpA_ret ?_)
      rw [he]
      exact postI_1 rfl rfl (.refl _) (.v _) rfl
  · rw [eqv_len hl]
    repeat (first | refine wpL_end ?_ | refine wpA_seq ?_ | refine wpA_region ?_ | refine wpL_v rfl rfl (by decide) (OpV_cmp rfl rfl rfl (congrArg some (ndec_t (by omega)))) ?_ | refine wpL_v rfl rfl (by decide) (OpV_move rfl rfl) ?_ | refine wpL_v rfl rfl (by decide) (OpV_assign rfl rfl) ?_ | refine wpL_v rfl rfl (by decide) (OpV_len rfl rfl rfl) ?_ | refine wpA_ct rfl (by first | rfl | exact decide_eq_true (by omega) | exact ndec_t (by omega)) ?_ | refine wpA_ret ?_ | refine x_then_ret ?_)
    exact postI_1 rfl rfl (.refl _) (.v _) rfl

theorem comment_guard : Tryz.prog.eqGuardType Tryz.prog.depth 91 = false := by kernel_rfl
theorem comment_held : Tryz.prog.stoodInHeld 91 = false := by kernel_rfl
theorem comment_fields : Tryz.prog.underlying 91 = some (.struct (Tryz.prog.fieldsOf 91)) := by kernel_rfl
theorem comment_fl : (Tryz.prog.fieldsOf 91).toList = [{ name := "Id", type := 3, offset := 0, embedded := false, tag := "", pkgPath := "", byteOffset := 0 }, { name := "Parent", type := 3, offset := 1, embedded := false, tag := "", pkgPath := "", byteOffset := 8 }, { name := "Author", type := 9, offset := 2, embedded := false, tag := "", pkgPath := "", byteOffset := 16 }, { name := "Time", type := 3, offset := 3, embedded := false, tag := "", pkgPath := "", byteOffset := 32 }, { name := "Text", type := 9, offset := 4, embedded := false, tag := "", pkgPath := "", byteOffset := 40 }, { name := "Done", type := 4, offset := 5, embedded := false, tag := "", pkgPath := "", byteOffset := 56 }] := by kernel_rfl
theorem comment_neq (a0 b0 : Int) (a1 b1 : Int) (a2 b2 : ByteArray) (a3 b3 : Int) (a4 b4 : ByteArray) (a5 b5 : Bool) (x y : Operand) (w : World) : (do eqGuard .neq 91 x y (.agg #[.int .i64 a0, .int .i64 a1, .string a2, .int .i64 a3, .string a4, .bool a5]) (.agg #[.int .i64 b0, .int .i64 b1, .string b2, .int .i64 b3, .string b4, .bool b5]); binOp .neq 91 (.agg #[.int .i64 a0, .int .i64 a1, .string a2, .int .i64 a3, .string a4, .bool a5]) (.agg #[.int .i64 b0, .int .i64 b1, .string b2, .int .i64 b3, .string b4, .bool b5]) : Sem Value).run Tryz.prog w = .ok (.bool (!(eqv a0 b0 && eqv a1 b1 && eqv a2 b2 && eqv a3 b3 && eqv a4 b4 && eqv a5 b5))) w := by
  simp only [Sem.run_bind, run_eqGuard_agg _ _ _ _ _ _ _ comment_guard, Result.andThen_ok, run_neq_struct, run_equalIn_agg _ _ _ _ _ comment_fields comment_held, comment_fl, Op.eqFields]
  by_cases h0 : a0 = b0
  case neg =>
    have h0' : (a0 == b0) = false := by simp [h0]
    rw [show (eqv a0 b0 && eqv a1 b1 && eqv a2 b2 && eqv a3 b3 && eqv a4 b4 && eqv a5 b5) = false from by simp [eqv_ne h0]]
    go_simp
  subst h0
  by_cases h1 : a1 = b1
  case neg =>
    have h1' : (a1 == b1) = false := by simp [h1]
    rw [show (eqv a0 a0 && eqv a1 b1 && eqv a2 b2 && eqv a3 b3 && eqv a4 b4 && eqv a5 b5) = false from by simp [eqv_ne h1]]
    go_simp
  subst h1
  by_cases h2 : a2 = b2
  case neg =>
    have h2' : (a2.toList == b2.toList) = false := by rw [eqv_str]; exact eqv_ne h2
    rw [show (eqv a0 a0 && eqv a1 a1 && eqv a2 b2 && eqv a3 b3 && eqv a4 b4 && eqv a5 b5) = false from by simp [eqv_ne h2]]
    go_simp
  subst h2
  by_cases h3 : a3 = b3
  case neg =>
    have h3' : (a3 == b3) = false := by simp [h3]
    rw [show (eqv a0 a0 && eqv a1 a1 && eqv a2 a2 && eqv a3 b3 && eqv a4 b4 && eqv a5 b5) = false from by simp [eqv_ne h3]]
    go_simp
  subst h3
  by_cases h4 : a4 = b4
  case neg =>
    have h4' : (a4.toList == b4.toList) = false := by rw [eqv_str]; exact eqv_ne h4
    rw [show (eqv a0 a0 && eqv a1 a1 && eqv a2 a2 && eqv a3 a3 && eqv a4 b4 && eqv a5 b5) = false from by simp [eqv_ne h4]]
    go_simp
  subst h4
  by_cases h5 : a5 = b5
  case neg =>
    have h5' : (a5 == b5) = false := by simp [h5]
    rw [show (eqv a0 a0 && eqv a1 a1 && eqv a2 a2 && eqv a3 a3 && eqv a4 a4 && eqv a5 b5) = false from by simp [eqv_ne h5]]
    go_simp
  subst h5
  simp only [eqv_self, Bool.and_self]
  go_simp
theorem OpV_commentNe {o : Oper} {E : Env} {H : Heap} {ty : TypeId} {x y : Operand} {a b : Comment} (ho : o.op = .binOp .neq 91 x y ty) (hx : E.ev x = some (.agg (encComment a))) (hy : E.ev y = some (.agg (encComment b))) : OpV Tryz.prog o E H (.v (.bool (!(eqv a b)))) := by
  rw [eqv_Comment]
  exact OpV_bin ho hx hy rfl rfl (fun w => comment_neq _ _ _ _ _ _ _ _ _ _ _ _ _ _ w) rfl
theorem comment_len (x : Comment) : (encComment x).length = 6 := rfl

set_option maxHeartbeats 4000000 in
theorem eqComment_iso (F G : List Comment) : Iso Tryz.prog 32 [rowP encComment 6 F, rowP encComment 6 G] (fun p => p = B (eqv F G)) := by
  refine Iso_tr 0 rfl Tryz.func32 (by kernel_rfl) (by kernel_rfl) fun hF => ?_
  refine Iso_tr 1 rfl Tryz.func32 (by kernel_rfl) (by kernel_rfl) fun hG0 => ?_
  have hG := has_nil
  refine Iso_enter Tryz.func32 rfl rfl rfl ?_
  by_cases hl : F.length = G.length
  · repeat (first | refine wpL_end ?_ | refine wpA_seq ?_ | refine wpA_region ?_ | refine wpA_block ?_ | refine wpL_v rfl rfl (by decide) (OpV_cmp rfl rfl rfl (congrArg some (ndec_f (by omega)))) ?_ | refine wpL_v rfl rfl (by decide) (OpV_move rfl rfl) ?_ | refine wpL_v rfl rfl (by decide) (OpV_assign rfl rfl) ?_ | refine wpL_v rfl rfl (by decide) (OpV_len rfl rfl rfl) ?_ | refine wpA_cf rfl (by first | rfl | exact decide_eq_false (by omega) | exact ndec_f (by omega)) ?_ | refine wpA_skip ?_)
    refine wpA_loopS (S := Nat) (fun i => [(0, rowP encComment 6 F), (1, rowP encComment 6 G), (12, I F.length), (13, I i)]) (fun i _ => i ≤ F.length ∧ eqv F G = eqv (F.drop i) (G.drop i)) (fun i => F.length - i) 0
      (.cons rfl (.cons rfl (.cons rfl (.cons rfl (.nil _))))) ⟨by omega, rfl⟩ ?_
    rintro i H ⟨hi, he⟩
    have hG := Has.nil H
    by_cases hil : i < F.length
    · obtain ⟨f, hf⟩ : ∃ x, F[i]? = some x := ⟨_, List.getElem?_eq_getElem hil⟩
      obtain ⟨g, hg⟩ : ∃ x, G[i]? = some x := ⟨_, List.getElem?_eq_getElem (by omega)⟩
      rw [eqv_drop hf hg] at he
      repeat (first | refine wpL_end ?_ | refine wpA_seq ?_ | refine wpA_region ?_ | refine wpA_block ?_ | refine wpL_v rfl rfl (by decide) (OpV_cmp rfl rfl rfl (congrArg some (decide_eq_true (by omega)))) ?_ | refine wpL_v rfl rfl (by decide) (OpV_move rfl rfl) ?_ | refine wpL_v rfl rfl (by decide) (OpV_assign rfl rfl) ?_ | refine wpA_ct rfl (by first | rfl | exact decide_eq_true (by omega) | exact ndec_t (by omega)) ?_ | refine wpA_skip ?_)
      refine wpA_yq mixed (by decide +kernel) ?_
      repeat (first | refine Y_q rfl rfl rfl (by decide) (OpV_index_tr (cells := F.flatMap encComment) rfl rfl rfl (by omega) (by exact flat_at comment_len F i f hf)) ?_ | refine Y_q rfl rfl rfl (by decide) (OpV_index_tr (cells := G.flatMap encComment) rfl rfl rfl (by omega) (by exact flat_at comment_len G i g hg)) ?_ | refine Y_q rfl rfl rfl (by decide) (OpV_commentNe (a := f) (b := g) rfl rfl rfl) ?_ | refine Y_q rfl rfl rfl (by decide) (OpV_move rfl rfl) ?_ | refine Y_q rfl rfl rfl (by decide) (OpV_load rfl rfl rfl) ?_ | refine Y_end ?_)
      cases hq : eqv f g with
      | true =>
        have hq' : (!eqv f g) = false := by rw [hq]; rfl
        rw [hq, Bool.true_and] at he
        repeat (first | refine wpL_end ?_ | refine wpA_region ?_ | refine wpL_v rfl rfl (by decide) (OpV_move rfl rfl) ?_ | refine wpL_v rfl rfl (by decide) (OpV_add rfl rfl rfl (by omega)) ?_ | refine wpA_cf rfl (by first | rfl | exact decide_eq_false (by omega) | exact ndec_f (by omega)) ?_ | refine wpA_skip ?_)
        exact ⟨i + 1, by omega, .cons rfl (.cons rfl (.cons rfl (.cons rfl (.nil _)))), by omega, he⟩
      | false =>
        have hq' : (!eqv f g) = true := by rw [hq]; rfl
        rw [hq, Bool.false_and] at he
        repeat (first | refine wpL_end ?_ | refine wpA_seq ?_ | refine wpA_region ?_ | refine wpL_v rfl rfl (by decide) (OpV_assign rfl rfl) ?_ | refine wpA_ct rfl (by first | rfl | exact decide_eq_true (by omega) | exact ndec_t (by omega)) ?_ | refine wpA_ret ?_ | refine x_then_ret ?_ | refine x_block_ret ?_)
        rw [he]
        exact postI_1 rfl rfl (.refl _) (.v _) rfl
    · have e : i = F.length := by omega
      rw [eqv_end e hl] at he
      subst e
      repeat (first | refine wpL_end ?_ | refine wpA_seq ?_ | refine wpA_region ?_ | refine wpL_v rfl rfl (by decide) (OpV_cmp rfl rfl rfl (congrArg some (decide_eq_false (by omega)))) ?_ | refine wpL_v rfl rfl (by decide) (OpV_assign rfl rfl) ?_ | refine wpA_cf rfl (by first | rfl | exact decide_eq_false (by omega) | exact ndec_f (by omega)) ?_ | refine wpA_exit ?_ | refine wpA_ret ?_)
      rw [he]
      exact postI_1 rfl rfl (.refl _) (.v _) rfl
  · rw [eqv_len hl]
    repeat (first | refine wpL_end ?_ | refine wpA_seq ?_ | refine wpA_region ?_ | refine wpL_v rfl rfl (by decide) (OpV_cmp rfl rfl rfl (congrArg some (ndec_t (by omega)))) ?_ | refine wpL_v rfl rfl (by decide) (OpV_move rfl rfl) ?_ | refine wpL_v rfl rfl (by decide) (OpV_assign rfl rfl) ?_ | refine wpL_v rfl rfl (by decide) (OpV_len rfl rfl rfl) ?_ | refine wpA_ct rfl (by first | rfl | exact decide_eq_true (by omega) | exact ndec_t (by omega)) ?_ | refine wpA_ret ?_ | refine x_then_ret ?_)
    exact postI_1 rfl rfl (.refl _) (.v _) rfl

theorem var_guard : Tryz.prog.eqGuardType Tryz.prog.depth 94 = false := by kernel_rfl
theorem var_held : Tryz.prog.stoodInHeld 94 = false := by kernel_rfl
theorem var_fields : Tryz.prog.underlying 94 = some (.struct (Tryz.prog.fieldsOf 94)) := by kernel_rfl
theorem var_fl : (Tryz.prog.fieldsOf 94).toList = [{ name := "Name", type := 9, offset := 0, embedded := false, tag := "", pkgPath := "", byteOffset := 0 }, { name := "Value", type := 9, offset := 1, embedded := false, tag := "", pkgPath := "", byteOffset := 16 }] := by kernel_rfl
theorem var_neq (a0 b0 : ByteArray) (a1 b1 : ByteArray) (x y : Operand) (w : World) : (do eqGuard .neq 94 x y (.agg #[.string a0, .string a1]) (.agg #[.string b0, .string b1]); binOp .neq 94 (.agg #[.string a0, .string a1]) (.agg #[.string b0, .string b1]) : Sem Value).run Tryz.prog w = .ok (.bool (!(eqv a0 b0 && eqv a1 b1))) w := by
  simp only [Sem.run_bind, run_eqGuard_agg _ _ _ _ _ _ _ var_guard, Result.andThen_ok, run_neq_struct, run_equalIn_agg _ _ _ _ _ var_fields var_held, var_fl, Op.eqFields]
  by_cases h0 : a0 = b0
  case neg =>
    have h0' : (a0.toList == b0.toList) = false := by rw [eqv_str]; exact eqv_ne h0
    rw [show (eqv a0 b0 && eqv a1 b1) = false from by simp [eqv_ne h0]]
    go_simp
  subst h0
  by_cases h1 : a1 = b1
  case neg =>
    have h1' : (a1.toList == b1.toList) = false := by rw [eqv_str]; exact eqv_ne h1
    rw [show (eqv a0 a0 && eqv a1 b1) = false from by simp [eqv_ne h1]]
    go_simp
  subst h1
  simp only [eqv_self, Bool.and_self]
  go_simp
theorem OpV_varNe {o : Oper} {E : Env} {H : Heap} {ty : TypeId} {x y : Operand} {a b : Var} (ho : o.op = .binOp .neq 94 x y ty) (hx : E.ev x = some (.agg (encVar a))) (hy : E.ev y = some (.agg (encVar b))) : OpV Tryz.prog o E H (.v (.bool (!(eqv a b)))) := by
  rw [eqv_Var]
  exact OpV_bin ho hx hy rfl rfl (fun w => var_neq _ _ _ _ _ _ w) rfl
theorem var_len (x : Var) : (encVar x).length = 2 := rfl

set_option maxHeartbeats 4000000 in
theorem eqVar_iso (F G : List Var) : Iso Tryz.prog 33 [rowP encVar 2 F, rowP encVar 2 G] (fun p => p = B (eqv F G)) := by
  refine Iso_tr 0 rfl Tryz.func33 (by kernel_rfl) (by kernel_rfl) fun hF => ?_
  refine Iso_tr 1 rfl Tryz.func33 (by kernel_rfl) (by kernel_rfl) fun hG0 => ?_
  have hG := has_nil
  refine Iso_enter Tryz.func33 rfl rfl rfl ?_
  by_cases hl : F.length = G.length
  · repeat (first | refine wpL_end ?_ | refine wpA_seq ?_ | refine wpA_region ?_ | refine wpA_block ?_ | refine wpL_v rfl rfl (by decide) (OpV_cmp rfl rfl rfl (congrArg some (ndec_f (by omega)))) ?_ | refine wpL_v rfl rfl (by decide) (OpV_move rfl rfl) ?_ | refine wpL_v rfl rfl (by decide) (OpV_assign rfl rfl) ?_ | refine wpL_v rfl rfl (by decide) (OpV_len rfl rfl rfl) ?_ | refine wpA_cf rfl (by first | rfl | exact decide_eq_false (by omega) | exact ndec_f (by omega)) ?_ | refine wpA_skip ?_)
    refine wpA_loopS (S := Nat) (fun i => [(0, rowP encVar 2 F), (1, rowP encVar 2 G), (12, I F.length), (13, I i)]) (fun i _ => i ≤ F.length ∧ eqv F G = eqv (F.drop i) (G.drop i)) (fun i => F.length - i) 0
      (.cons rfl (.cons rfl (.cons rfl (.cons rfl (.nil _))))) ⟨by omega, rfl⟩ ?_
    rintro i H ⟨hi, he⟩
    have hG := Has.nil H
    by_cases hil : i < F.length
    · obtain ⟨f, hf⟩ : ∃ x, F[i]? = some x := ⟨_, List.getElem?_eq_getElem hil⟩
      obtain ⟨g, hg⟩ : ∃ x, G[i]? = some x := ⟨_, List.getElem?_eq_getElem (by omega)⟩
      rw [eqv_drop hf hg] at he
      repeat (first | refine wpL_end ?_ | refine wpA_seq ?_ | refine wpA_region ?_ | refine wpA_block ?_ | refine wpL_v rfl rfl (by decide) (OpV_cmp rfl rfl rfl (congrArg some (decide_eq_true (by omega)))) ?_ | refine wpL_v rfl rfl (by decide) (OpV_move rfl rfl) ?_ | refine wpL_v rfl rfl (by decide) (OpV_assign rfl rfl) ?_ | refine wpA_ct rfl (by first | rfl | exact decide_eq_true (by omega) | exact ndec_t (by omega)) ?_ | refine wpA_skip ?_)
      refine wpA_yq mixed (by decide +kernel) ?_
      repeat (first | refine Y_q rfl rfl rfl (by decide) (OpV_index_tr (cells := F.flatMap encVar) rfl rfl rfl (by omega) (by exact flat_at var_len F i f hf)) ?_ | refine Y_q rfl rfl rfl (by decide) (OpV_index_tr (cells := G.flatMap encVar) rfl rfl rfl (by omega) (by exact flat_at var_len G i g hg)) ?_ | refine Y_q rfl rfl rfl (by decide) (OpV_varNe (a := f) (b := g) rfl rfl rfl) ?_ | refine Y_q rfl rfl rfl (by decide) (OpV_move rfl rfl) ?_ | refine Y_q rfl rfl rfl (by decide) (OpV_load rfl rfl rfl) ?_ | refine Y_end ?_)
      cases hq : eqv f g with
      | true =>
        have hq' : (!eqv f g) = false := by rw [hq]; rfl
        rw [hq, Bool.true_and] at he
        repeat (first | refine wpL_end ?_ | refine wpA_region ?_ | refine wpL_v rfl rfl (by decide) (OpV_move rfl rfl) ?_ | refine wpL_v rfl rfl (by decide) (OpV_add rfl rfl rfl (by omega)) ?_ | refine wpA_cf rfl (by first | rfl | exact decide_eq_false (by omega) | exact ndec_f (by omega)) ?_ | refine wpA_skip ?_)
        exact ⟨i + 1, by omega, .cons rfl (.cons rfl (.cons rfl (.cons rfl (.nil _)))), by omega, he⟩
      | false =>
        have hq' : (!eqv f g) = true := by rw [hq]; rfl
        rw [hq, Bool.false_and] at he
        repeat (first | refine wpL_end ?_ | refine wpA_seq ?_ | refine wpA_region ?_ | refine wpL_v rfl rfl (by decide) (OpV_assign rfl rfl) ?_ | refine wpA_ct rfl (by first | rfl | exact decide_eq_true (by omega) | exact ndec_t (by omega)) ?_ | refine wpA_ret ?_ | refine x_then_ret ?_ | refine x_block_ret ?_)
        rw [he]
        exact postI_1 rfl rfl (.refl _) (.v _) rfl
    · have e : i = F.length := by omega
      rw [eqv_end e hl] at he
      subst e
      repeat (first | refine wpL_end ?_ | refine wpA_seq ?_ | refine wpA_region ?_ | refine wpL_v rfl rfl (by decide) (OpV_cmp rfl rfl rfl (congrArg some (decide_eq_false (by omega)))) ?_ | refine wpL_v rfl rfl (by decide) (OpV_assign rfl rfl) ?_ | refine wpA_cf rfl (by first | rfl | exact decide_eq_false (by omega) | exact ndec_f (by omega)) ?_ | refine wpA_exit ?_ | refine wpA_ret ?_)
      rw [he]
      exact postI_1 rfl rfl (.refl _) (.v _) rfl
  · rw [eqv_len hl]
    repeat (first | refine wpL_end ?_ | refine wpA_seq ?_ | refine wpA_region ?_ | refine wpL_v rfl rfl (by decide) (OpV_cmp rfl rfl rfl (congrArg some (ndec_t (by omega)))) ?_ | refine wpL_v rfl rfl (by decide) (OpV_move rfl rfl) ?_ | refine wpL_v rfl rfl (by decide) (OpV_assign rfl rfl) ?_ | refine wpL_v rfl rfl (by decide) (OpV_len rfl rfl rfl) ?_ | refine wpA_ct rfl (by first | rfl | exact decide_eq_true (by omega) | exact ndec_t (by omega)) ?_ | refine wpA_ret ?_ | refine x_then_ret ?_)
    exact postI_1 rfl rfl (.refl _) (.v _) rfl

end Go.Proofs.YtpmfnjkcoogicaaGreat
