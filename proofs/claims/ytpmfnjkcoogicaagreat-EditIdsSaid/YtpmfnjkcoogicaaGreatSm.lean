/- Whether items are small: an answer comes. -/
import Derived.Test.YtpmfnjkcoogicaaGreatCo
namespace Go.Proofs.YtpmfnjkcoogicaaGreat
open Go.RowKit Go.Th
set_option linter.unusedVariables false
set_option maxRecDepth 20000

section
variable {P : Program} {o : Oper} {E : Env} {H : Heap}
theorem OpV_subw {t ty : TypeId} {x y : Operand} {a b : Int} (ho : o.op = .binOp .sub t x y ty) (hx : E.ev x = some (.v (.int .i64 a))) (hy : E.ev y = some (.v (.int .i64 b))) :
    OpV P o E H (.v (.int .i64 (IntKind.i64.wrap (a - b)))) := OpV_bin ho hx hy rfl rfl (fun w => by
  simp [eqGuard_at_int, binOp_sub, Op.intArith]) rfl
theorem OpV_quow {t ty : TypeId} {x y : Operand} {a b : Int} (ho : o.op = .binOp .quo t x y ty) (hx : E.ev x = some (.v (.int .i64 a))) (hy : E.ev y = some (.v (.int .i64 b))) (hb : b ≠ 0) :
    OpV P o E H (.v (.int .i64 (IntKind.i64.wrap (a.tdiv b)))) := OpV_bin ho hx hy rfl rfl (fun w => by
  simp [eqGuard_at_int, binOp_quo, Op.intDiv, hb]) rfl
theorem OpV_lens {t : TypeId} [hu : HasU P t .string] {x : Operand} {s : ByteArray} (ho : o.op = .call { callee := .builtin .len, args := #[x], argTypes := #[t] }) (hx : E.ev x = some (.v (.string s))) :
    OpV P o E H (.v (.int .i64 (s.size : Int))) := fun m w ρ _ hρ => by
  have h := rep_v (hρ x _ hx)
  refine ⟨.int .i64 s.size, ?_, .v _ rfl⟩
  simp [execOp, ho, resolve, invoke, builtin, h, Builtin.len_, run_underlying hu.u, goInt]
end
theorem has_one {H : Heap} {id : Nat} {B : Blk} (h : H[id]? = some (some B)) : Has H [(id, B)] :=
  (Has.nil H).cons (Has.nil []) h (Nat.zero_le _)

/-- A counter in a cell. -/
def cntB (n : Int) : Blk := ⟨[I n], 3, true⟩
def Ans (id : Nat) (n : Int) (cost : Nat) (p : PV) (H : Heap) : Prop := ∃ b n', p = B b ∧ H[id]? = some (some (cntB n')) ∧ (b = true → 0 ≤ n' ∧ n' = n - cost)

/-- smallFlow answers. -/
abbrev SmI (l : List Item) : Prop := ∀ (d n : Int) (id : Nat) (H : Heap), 0 ≤ d → d ≤ 12 → 0 ≤ n → n ≤ 300 → H[id]? = some (some (cntB n)) → AC Tryz.prog 54 [itemsP l, I d, .ptr id 0] H (Ans id n (costIs l))
abbrev SmR (l : List Row) : Prop := ∀ (d n : Int) (id : Nat) (H : Heap), 0 ≤ d → d ≤ 12 → 0 ≤ n → n ≤ 300 → H[id]? = some (some (cntB n)) → AC Tryz.prog 96 [rowsP l, I d, .ptr id 0] H (Ans id n (costRs l))

set_option maxHeartbeats 16000000 in
theorem smFlow (l : List Item) (hI : ∀ x ∈ l, ∀ f r k c i t h, x = .mk k c i t h f r → SmI f ∧ SmR r) (hbn : Bnd (itemsP l)) : SmI l := by
  intro d n0 id H hd0 hd1 hn0 hn1 hH
  have hl := (bnd_row hbn).1
  refine AC_enter Tryz.func54 rfl rfl rfl ?_
  have hG := has_one hH
  repeat (first | refine wpL_end ?_ | refine wpA_seq ?_ | refine wpA_region ?_ | refine wpA_block ?_ | refine wpL_v rfl rfl (by decide) (OpV_assign rfl rfl) ?_)
  refine wpA_loopS (S := Nat × Int) (fun s => [(0, itemsP l), (1, I d), (2, .ptr id 0), (7, I s.1)]) (fun s G => s.1 ≤ l.length ∧ (0 ≤ s.2 ∧ s.2 = n0 - costIs (l.take s.1)) ∧ G[id]? = some (some (cntB s.2))) (fun s => l.length - s.1) (0, n0)
    (.cons rfl (.cons rfl (.cons rfl (.cons rfl (.nil _))))) ⟨Nat.zero_le _, ⟨hn0, by simp [costIs]⟩, hH⟩ ?_
  rintro ⟨i, n⟩ G ⟨hi, ⟨hnn, hne⟩, hB⟩
  dsimp only at hi hnn hne hB ⊢
  have hG := has_one hB
  by_cases hil : i < l.length
  · obtain ⟨x, hx⟩ : ∃ x, l[i]? = some x := ⟨_, List.getElem?_eq_getElem hil⟩
    have hIx := hI x (List.mem_of_getElem? hx)
    have hct := costIs_take l i x hx
    have hbh := bnd_item hbn (List.mem_of_getElem? hx)
    obtain ⟨k, c, j, t, h, f, r⟩ := x
    obtain ⟨hf, hr⟩ := hIx f r k c j t h rfl
    have hbh := hbh k c j t h f r rfl
    have hle1 := left1_eq (n := n) (by omega) (by omega) hbh
    rw [costI] at hct
    clear hIx hI
    repeat (first | refine wpL_end ?_ | refine wpA_seq ?_ | refine wpA_region ?_ | refine wpA_block ?_ | refine wpL_v rfl rfl (by decide) (OpV_cmp rfl rfl rfl (congrArg some (decide_eq_true (by omega)))) ?_ | refine wpL_v rfl rfl (by decide) (OpV_move rfl rfl) ?_ | refine wpL_v rfl rfl (by decide) (OpV_len rfl rfl rfl) ?_ | refine wpA_ct rfl (by first | rfl | exact decide_eq_true (by omega) | exact ndec_t (by omega)) ?_ | refine wpA_skip ?_)
    have hG1 := hG.set (k := 0) rfl (cntB (left1 n h))
    refine wpA_yL [G.set id (some (cntB (left1 n h)))] (G.set id (some (cntB (left1 n h)))) mixed (by decide +kernel) (N := 1) (by decide +kernel) rfl ?_
    repeat (first | refine Y_v rfl rfl rfl (by decide) (fun _ => OpV_subw rfl rfl rfl) ?_ | refine Y_v rfl rfl rfl (by decide) (fun _ => OpV_quow rfl rfl rfl (by decide)) ?_ | refine Y_v rfl rfl rfl (by decide) (fun _ => OpV_index_tr (cells := l.flatMap encItem) rfl rfl rfl (by omega) (by exact item_at hx)) ?_ | refine Y_r 0 (by decide +kernel) (by decide +kernel) rfl rfl rfl rfl (by decide) (OpV_load_at rfl rfl (hG.get 0 _ _ rfl) rfl) ?_ | refine Y_s 0 (by decide +kernel) rfl rfl rfl rfl (OpS_store_at rfl rfl rfl (hG.get 0 _ _ rfl) rfl rfl rfl rfl rfl) rfl ?_ | refine Y_v rfl rfl rfl (by decide) (fun _ => OpV_move rfl rfl) ?_ | refine Y_v rfl rfl rfl (by decide) (fun _ => OpV_len rfl rfl rfl) ?_ | refine Y_v rfl rfl rfl (by decide) (fun _ => OpV_nilCheck rfl rfl rfl) ?_ | refine Y_v rfl rfl rfl (by decide) (fun _ => OpV_fieldAddr rfl rfl rfl rfl) ?_ | refine Y_v rfl rfl rfl (by decide) (fun _ => OpV_load rfl rfl rfl) ?_ | refine Y_end ?_)
    have hG := hG1
    clear hG1 hB
    generalize left1 n h = n1 at hG hle1 ⊢
    refine wpA_sub [(0, itemsP l), (1, I d), (2, .ptr id 0), (7, I i)] (.cons rfl (.cons rfl (.cons rfl (.cons rfl (.nil _))))) ?_
    generalize G.set id (some (cntB n1)) = G at hG ⊢
    by_cases c1 : n1 < 0
    · repeat (first | refine wpL_end ?_ | refine wpA_seq ?_ | refine wpA_region ?_ | refine wpL_v rfl rfl (by decide) (OpV_load_at rfl rfl (hG.get 0 _ _ rfl) rfl) ?_ | refine wpL_v rfl rfl (by decide) (OpV_cmp rfl rfl rfl (congrArg some (decide_eq_true (by omega)))) ?_ | refine wpL_v rfl rfl (by decide) (OpV_move rfl rfl) ?_ | refine wpL_v rfl rfl (by decide) (OpV_assign rfl rfl) ?_ | refine wpL_v rfl rfl (by decide) (OpV_nilCheck rfl rfl rfl) ?_ | refine wpL_v rfl rfl (by decide) (OpV_pick_t rfl rfl (by first | rfl | exact decide_eq_true (by omega)) rfl) ?_ | refine wpL_gf rfl rfl rfl rfl rfl (by decide) (by first | rfl | exact decide_eq_true (by omega) | exact decide_eq_false (by omega) | exact ndec_t (by omega) | exact ndec_f (by omega)) ?_ | refine wpA_ct rfl (by first | rfl | exact decide_eq_true (by omega) | exact ndec_t (by omega)) ?_ | refine wpA_ret ?_ | refine x_then_ret ?_ | refine x_block_ret ?_)
      exact postA_1 rfl rfl ⟨false, n1, rfl, hG.get 0 _ _ rfl, fun h => by cases h⟩
    by_cases c2 : d = 0
    · repeat (first | refine wpL_end ?_ | refine wpA_seq ?_ | refine wpA_region ?_ | refine wpL_v rfl rfl (by decide) (OpV_cmp rfl rfl rfl (congrArg some (decide_eq_true (by omega)))) ?_ | refine wpL_v rfl rfl (by decide) (OpV_cmp rfl rfl rfl (congrArg some (decide_eq_false (by omega)))) ?_ | refine wpL_v rfl rfl (by decide) (OpV_move rfl rfl) ?_ | refine wpL_v rfl rfl (by decide) (OpV_assign rfl rfl) ?_ | refine wpL_v rfl rfl (by decide) (OpV_nilCheck rfl rfl rfl) ?_ | refine wpL_v rfl rfl (by decide) (OpV_pick_t rfl rfl (by first | rfl | exact decide_eq_true (by omega)) rfl) ?_ | refine wpL_v rfl rfl (by decide) (OpV_pick_f rfl rfl (by first | rfl | exact decide_eq_false (by omega)) rfl) ?_ | refine wpL_loadH 0 hG rfl rfl (by decide) rfl rfl rfl rfl ?_ | refine wpL_gt rfl rfl rfl rfl rfl (by decide) (by first | rfl | exact decide_eq_true (by omega) | exact decide_eq_false (by omega) | exact ndec_t (by omega) | exact ndec_f (by omega)) ?_ | refine wpL_gf rfl rfl rfl rfl rfl (by decide) (by first | rfl | exact decide_eq_true (by omega) | exact decide_eq_false (by omega) | exact ndec_t (by omega) | exact ndec_f (by omega)) ?_ | refine wpA_ct rfl (by first | rfl | exact decide_eq_true (by omega) | exact ndec_t (by omega)) ?_ | refine wpA_ret ?_ | refine x_then_ret ?_ | refine x_block_ret ?_)
      exact postA_1 rfl rfl ⟨false, n1, rfl, hG.get 0 _ _ rfl, fun h => by cases h⟩
    by_cases c3 : (400 : Int) < t.size
    · repeat (first | refine wpL_end ?_ | refine wpA_seq ?_ | refine wpA_region ?_ | refine wpL_v rfl rfl (by decide) (OpV_index_tr (cells := l.flatMap encItem) rfl rfl rfl (by omega) (by exact item_at hx)) ?_ | refine wpL_v rfl rfl (by decide) (OpV_lens rfl rfl) ?_ | refine wpL_v rfl rfl (by decide) (OpV_cmp rfl rfl rfl (congrArg some (decide_eq_true (by omega)))) ?_ | refine wpL_v rfl rfl (by decide) (OpV_cmp rfl rfl rfl (congrArg some (decide_eq_false (by omega)))) ?_ | refine wpL_v rfl rfl (by decide) (OpV_move rfl rfl) ?_ | refine wpL_v rfl rfl (by decide) (OpV_assign rfl rfl) ?_ | refine wpL_v rfl rfl (by decide) (OpV_nilCheck rfl rfl rfl) ?_ | refine wpL_v rfl rfl (by decide) (OpV_fieldAddr rfl rfl rfl rfl) ?_ | refine wpL_v rfl rfl (by decide) (OpV_load rfl rfl rfl) ?_ | refine wpL_v rfl rfl (by decide) (OpV_pick_t rfl rfl (by first | rfl | exact decide_eq_true (by omega)) rfl) ?_ | refine wpL_v rfl rfl (by decide) (OpV_pick_f rfl rfl (by first | rfl | exact decide_eq_false (by omega)) rfl) ?_ | refine wpL_loadH 0 hG rfl rfl (by decide) rfl rfl rfl rfl ?_ | refine wpL_gt rfl rfl rfl rfl rfl (by decide) (by first | rfl | exact decide_eq_true (by omega) | exact decide_eq_false (by omega) | exact ndec_t (by omega) | exact ndec_f (by omega)) ?_ | refine wpL_gf rfl rfl rfl rfl rfl (by decide) (by first | rfl | exact decide_eq_true (by omega) | exact decide_eq_false (by omega) | exact ndec_t (by omega) | exact ndec_f (by omega)) ?_ | refine wpA_ct rfl (by first | rfl | exact decide_eq_true (by omega) | exact ndec_t (by omega)) ?_ | refine wpA_ret ?_ | refine x_then_ret ?_ | refine x_block_ret ?_)
      exact postA_1 rfl rfl ⟨false, n1, rfl, hG.get 0 _ _ rfl, fun h => by cases h⟩
    repeat (first | refine wpA_seq ?_ | refine wpA_region ?_ | refine wpL_v rfl rfl (by decide) (OpV_index_tr (cells := l.flatMap encItem) rfl rfl rfl (by omega) (by exact item_at hx)) ?_ | refine wpL_v rfl rfl (by decide) (OpV_lens rfl rfl) ?_ | refine wpL_v rfl rfl (by decide) (OpV_cmp rfl rfl rfl (congrArg some (decide_eq_false (by omega)))) ?_ | refine wpL_v rfl rfl (by decide) (OpV_move rfl rfl) ?_ | refine wpL_v rfl rfl (by decide) (OpV_sub rfl rfl rfl (by omega)) ?_ | refine wpL_v rfl rfl (by decide) (OpV_nilCheck rfl rfl rfl) ?_ | refine wpL_v rfl rfl (by decide) (OpV_fieldAddr rfl rfl rfl rfl) ?_ | refine wpL_v rfl rfl (by decide) (OpV_load rfl rfl rfl) ?_ | refine wpL_v rfl rfl (by decide) (OpV_pick_f rfl rfl (by first | rfl | exact decide_eq_false (by omega)) rfl) ?_ | refine wpL_loadH 0 hG rfl rfl (by decide) rfl rfl rfl rfl ?_ | refine wpL_gt rfl rfl rfl rfl rfl (by decide) (by first | rfl | exact decide_eq_true (by omega) | exact decide_eq_false (by omega) | exact ndec_t (by omega) | exact ndec_f (by omega)) ?_)
    refine wpL_ac rfl rfl rfl rfl rfl rfl (by decide) (hf (d - 1) n1 id _ (by omega) (by omega) (by omega) (by omega) (hG.get 0 _ _ rfl)) ?_
    rintro _ G2 ⟨b, n2, rfl, hB2, hn2⟩
    have hG := has_one hB2
    cases b with
    | false =>
      repeat (first | refine wpL_end ?_ | refine wpA_seq ?_ | refine wpA_region ?_ | refine wpL_v rfl rfl (by decide) (OpV_move rfl rfl) ?_ | refine wpL_v rfl rfl (by decide) (OpV_assign rfl rfl) ?_ | refine wpL_v rfl rfl (by decide) (OpV_not rfl rfl) ?_ | refine wpL_v rfl rfl (by decide) (OpV_pick_t rfl rfl (by first | rfl | exact decide_eq_true (by omega)) rfl) ?_ | refine wpL_v rfl rfl (by decide) (OpV_pick_f rfl rfl (by first | rfl | exact decide_eq_false (by omega)) rfl) ?_ | refine wpL_gt rfl rfl rfl rfl rfl (by decide) (by first | rfl | exact decide_eq_true (by omega) | exact decide_eq_false (by omega) | exact ndec_t (by omega) | exact ndec_f (by omega)) ?_ | refine wpL_gf rfl rfl rfl rfl rfl (by decide) (by first | rfl | exact decide_eq_true (by omega) | exact decide_eq_false (by omega) | exact ndec_t (by omega) | exact ndec_f (by omega)) ?_ | refine wpA_ct rfl (by first | rfl | exact decide_eq_true (by omega) | exact ndec_t (by omega)) ?_ | refine wpA_ret ?_ | refine x_then_ret ?_ | refine x_block_ret ?_)
      exact postA_1 rfl rfl ⟨false, n2, rfl, hB2, fun h => by cases h⟩
    | true =>
      obtain ⟨hn2, he2⟩ := hn2 rfl
      repeat (first | refine wpL_v rfl rfl (by decide) (OpV_index_tr (cells := l.flatMap encItem) rfl rfl rfl (by omega) (by exact item_at hx)) ?_ | refine wpL_v rfl rfl (by decide) (OpV_move rfl rfl) ?_ | refine wpL_v rfl rfl (by decide) (OpV_fieldAddr rfl rfl rfl rfl) ?_ | refine wpL_v rfl rfl (by decide) (OpV_load rfl rfl rfl) ?_ | refine wpL_v rfl rfl (by decide) (OpV_not rfl rfl) ?_ | refine wpL_v rfl rfl (by decide) (OpV_pick_f rfl rfl (by first | rfl | exact decide_eq_false (by omega)) rfl) ?_ | refine wpL_gt rfl rfl rfl rfl rfl (by decide) (by first | rfl | exact decide_eq_true (by omega) | exact decide_eq_false (by omega) | exact ndec_t (by omega) | exact ndec_f (by omega)) ?_)
      refine wpL_ac rfl rfl rfl rfl rfl rfl (by decide) (hr d n2 id _ (by omega) (by omega) (by omega) (by omega) hB2) ?_
      rintro _ G3 ⟨b, n3, rfl, hB3, hn3⟩
      have hG := has_one hB3
      cases b with
      | false =>
        repeat (first | refine wpL_end ?_ | refine wpA_seq ?_ | refine wpA_region ?_ | refine wpL_v rfl rfl (by decide) (OpV_assign rfl rfl) ?_ | refine wpL_v rfl rfl (by decide) (OpV_not rfl rfl) ?_ | refine wpL_v rfl rfl (by decide) (OpV_pick_f rfl rfl (by first | rfl | exact decide_eq_false (by omega)) rfl) ?_ | refine wpL_gt rfl rfl rfl rfl rfl (by decide) (by first | rfl | exact decide_eq_true (by omega) | exact decide_eq_false (by omega) | exact ndec_t (by omega) | exact ndec_f (by omega)) ?_ | refine wpA_ct rfl (by first | rfl | exact decide_eq_true (by omega) | exact ndec_t (by omega)) ?_ | refine wpA_ret ?_ | refine x_then_ret ?_ | refine x_block_ret ?_)
        exact postA_1 rfl rfl ⟨false, n3, rfl, hB3, fun h => by cases h⟩
      | true =>
        obtain ⟨hn3, he3⟩ := hn3 rfl
        repeat (first | refine wpL_end ?_ | refine wpA_region ?_ | refine wpL_v rfl rfl (by decide) (OpV_move rfl rfl) ?_ | refine wpL_v rfl rfl (by decide) (OpV_assign rfl rfl) ?_ | refine wpL_v rfl rfl (by decide) (OpV_add rfl rfl rfl (by omega)) ?_ | refine wpL_v rfl rfl (by decide) (OpV_not rfl rfl) ?_ | refine wpL_v rfl rfl (by decide) (OpV_pick_f rfl rfl (by first | rfl | exact decide_eq_false (by omega)) rfl) ?_ | refine wpL_gt rfl rfl rfl rfl rfl (by decide) (by first | rfl | exact decide_eq_true (by omega) | exact decide_eq_false (by omega) | exact ndec_t (by omega) | exact ndec_f (by omega)) ?_ | refine wpA_cf rfl (by first | rfl | exact decide_eq_false (by omega) | exact ndec_f (by omega)) ?_ | refine wpA_skip ?_)
        exact ⟨(i + 1, n3), by simp only; omega, .cons rfl (.cons rfl (.cons rfl (.cons rfl (.nil _)))), by simp only; omega, ⟨hn3, by simp only; rw [hct]; omega⟩, hB3⟩
  · have e : i = l.length := by omega
    rw [e, List.take_length] at hne
    repeat (first | refine wpL_end ?_ | refine wpA_seq ?_ | refine wpA_region ?_ | refine wpL_v rfl rfl (by decide) (OpV_cmp rfl rfl rfl (congrArg some (decide_eq_false (by omega)))) ?_ | refine wpL_v rfl rfl (by decide) (OpV_move rfl rfl) ?_ | refine wpL_v rfl rfl (by decide) (OpV_assign rfl rfl) ?_ | refine wpL_v rfl rfl (by decide) (OpV_len rfl rfl rfl) ?_ | refine wpA_cf rfl (by first | rfl | exact decide_eq_false (by omega) | exact ndec_f (by omega)) ?_ | refine wpA_exit ?_ | refine wpA_ret ?_)
    exact postA_1 rfl rfl ⟨true, n, rfl, hB, fun _ => ⟨hnn, hne⟩⟩
end Go.Proofs.YtpmfnjkcoogicaaGreat
