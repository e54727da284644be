/- What Rebreak computes; Clone; lines. -/
import Derived.Test.YtnenmpeejjeopaaGreatDoorRlI
import Derived.Test.YtnenmpeejjeopaaGreatDoorRlF
import Derived.Laws.Cover3
namespace Go.Proofs.YtnenmpeejjeopaaGreatDoor
open Go.RowKit Go.Th
set_option linter.unusedVariables false
set_option maxRecDepth 20000

/-! ### A page ends at its reach or before -/

theorem fillG_reachG (l : List Piece) (a : Nat) (height : Int) (n i : Nat) : fillG l a height n i ≤ reachG l a height n i := by
  induction n generalizing i with
  | zero => exact Nat.le_refl _
  | succ n ih =>
    simp only [fillG, reachG]
    by_cases h1 : (pg l i).force = true
    · rw [if_pos h1, if_pos (.inl h1)]; exact Nat.le_refl _
    · rw [if_neg h1]
      by_cases h2 : tot l a height (i - a) ≤ height
      · rw [if_pos h2, if_neg (fun h => h.elim h1 (fun h => by omega))]
        exact ih (i + 1)
      · rw [if_neg h2, if_pos (.inr (by omega))]
        exact backG_le2 l a i i (Nat.le_refl _)
theorem fillF_reachF (l : List Piece) (a : Nat) (height : Int) : fillF l a height ≤ reachF l a height := fillG_reachG l a height _ _

/-! ### The three steps -/

def bN (l : List Piece) (height : Int) : List Nat := brk l height l.length 0
/-- How many first breaks are kept. -/
def keepG (old : List Piece) (height : Int) (b : List Nat) (p : Nat) : Nat → Nat → Nat
  | 0, i => i
  | n + 1, i => if i < b.length ∧ reachF old (b.getD (i - 1) 0) height < p then keepG old height b p n (i + 1) else i
def keepN (old : List Piece) (height : Int) (p : Nat) : Nat := keepG old height (bN old height) p (bN old height).length 1
/-- The pages that are filled anew: what is there, where the last one begins, how many were filled. -/
def rebG (new : List Piece) (height : Int) (b : List Int) (moved : Int) (q : Nat) : Nat → List Int → Nat → Nat → List Int × Nat
  | 0, out, _, c => (out, c)
  | n + 1, out, last, c =>
    if new.length ≤ fillF new last height then (out, c + 1)
    else if new.length - q ≤ fillF new last height ∧ bsB b (fillF new last height - moved) = true then
      (out ++ [(fillF new last height : Int)] ++ (b.drop (bsI b (fillF new last height - moved) + 1)).map (· + moved), c + 1)
    else rebG new height b moved q n (out ++ [(fillF new last height : Int)]) (fillF new last height) (c + 1)
def kept0 (old : List Piece) (height : Int) (p : Nat) : List Nat := 0 :: ((bN old height).drop 1).take (keepN old height p - 1)
def rebF (old new : List Piece) (height : Int) : List Int × Nat :=
  if preL old new = old.length ∧ preL old new = new.length then (breaksL old height, 0)
  else if new.length = 0 then ([], 0)
  else rebG new height (breaksL old height) ((new.length : Int) - old.length) (sufL old new) new.length ((kept0 old height (preL old new)).map Int.ofNat) ((kept0 old height (preL old new)).getLastD 0) 0

/-! ### Clone -/

section
variable {P : Program} {n : Nat} {Q : QA} {E : Env} {H : Heap} {ops : Array Oper} {rest : List Oper}
/-- An empty slice against nil: it may be nil or not. -/
theorem wpL_nilq {t e : TypeId} [hu : HasU P t (.slice e)] {o : Oper} {d sz : Nat} {x : Operand} {ty : TypeId} (hg : o.guard = none) (ho : o.op = .binOp .eql t x (.const (.slice none 0 0)) ty) (hx : E.ev x = some (.tr [] 0 sz)) (hd : o.dst = some d) (hn : d < n)
    (h : ∀ b, wpL P n ops rest Q ((d, .v (.bool b)) :: E) H) : wpL P n ops (o :: rest) Q E H := by
  rintro m0 w0 a w hat
  have hat0 := hat
  obtain ⟨h1, h2, m, h3, h4, h5⟩ := hat
  have hr := h5.ev hx
  obtain ⟨s, l, c, hs⟩ : ∃ s l c, a.eval x = .slice s l c := by
    generalize a.eval x = v at hr
    cases hr with
    | tr f _ _ _ _ _ _ => exact ⟨_, _, _, rfl⟩
    | tr0 a _ => exact ⟨_, _, _, rfl⟩
    | trn => exact ⟨_, _, _, rfl⟩
  refine wpList_plain hg fun K hK => ?_
  have hc : a.eval (.const (.slice none 0 0)) = .slice none 0 0 := rfl
  have hrun : (execOp a.eval o).run P w = .ok (.value (.bool s.isNone)) w := by
    simp [execOp, ho, hs, hc, eqGuard, binOp, Op.equal, Op.maxDepth, run_equalIn_slice_nil w 9999 t e s l c hu.u]
  unfold Oper.wp
  rw [hrun, Oper.upon_value, hd]
  exact hK _ _ (h s.isNone m0 w0 (a.put (some d) (.bool s.isNone)) w ⟨by simp [Act.put, h1], h2, m, h3, h4, h5.put (by omega) (.v _ rfl)⟩)

/-- A slice that has elements is not nil. -/
theorem wpL_nilsl {t e : TypeId} [hu : HasU P t (.slice e)] {o : Oper} {d sz len : Nat} {c0 : PV} {cells : List PV} {x : Operand} {ty : TypeId} (hg : o.guard = none) (ho : o.op = .binOp .eql t x (.const (.slice none 0 0)) ty) (hx : E.ev x = some (.tr (c0 :: cells) len sz)) (hd : o.dst = some d) (hn : d < n)
    (h : wpL P n ops rest Q ((d, .v (.bool false)) :: E) H) : wpL P n ops (o :: rest) Q E H := by
  rintro m0 w0 a w hat
  obtain ⟨h1, h2, m, h3, h4, h5⟩ := hat
  have hr := h5.ev hx
  obtain ⟨s, l, c, hs⟩ : ∃ s l c, a.eval x = .slice (some s) l c := by
    generalize a.eval x = v at hr
    cases hr with
    | tr f _ _ _ _ _ _ => exact ⟨_, _, _, rfl⟩
  refine wpList_plain hg fun K hK => ?_
  have hc : a.eval (.const (.slice none 0 0)) = .slice none 0 0 := rfl
  have hrun : (execOp a.eval o).run P w = .ok (.value (.bool false)) w := by
    simp [execOp, ho, hs, hc, eqGuard, binOp, Op.equal, Op.maxDepth, run_equalIn_slice_nil w 9999 t e (some s) l c hu.u]
  unfold Oper.wp
  rw [hrun, Oper.upon_value, hd]
  exact hK _ _ (h m0 w0 (a.put (some d) (.bool false)) w ⟨by simp [Act.put, h1], h2, m, h3, h4, h5.put (by omega) (.v _ rfl)⟩)
end

theorem ints_one (l : List Int) : (l.map I).all pvOne = true := by
  rw [List.all_eq_true]
  intro c hc
  obtain ⟨x, _, rfl⟩ := List.mem_map.1 hc
  rfl

theorem Clone_iso (l : List Int) (hl : l.length ≤ 1000000) : Iso Tryz.prog 25 [intsP l] (fun p => p = intsP l) := by
  have hG := has_nil
  refine Iso_enter Tryz.func25 rfl rfl rfl ?_
  cases l with
  | nil =>
    repeat (first | refine wpL_end ?_ | refine wpL_nil ?_ | refine wpA_seq ?_ | refine wpA_region ?_ | refine wpA_block ?_ | refine wpL_v rfl rfl (by decide) (OpV_cmp rfl rfl rfl (congrArg some (decide_eq_true (by omega)))) ?_ | refine wpL_v rfl rfl (by decide) (OpV_cmp rfl rfl rfl (congrArg some (decide_eq_false (by omega)))) ?_ | refine wpL_v rfl rfl (by decide) (OpV_cmp rfl rfl rfl (congrArg some (ndec_t (by omega)))) ?_ | refine wpL_v rfl rfl (by decide) (OpV_cmp rfl rfl rfl (congrArg some (ndec_f (by omega)))) ?_ | refine wpL_v rfl rfl (by decide) (OpV_move rfl rfl) ?_ | refine wpL_v rfl rfl (by decide) (OpV_assign rfl rfl) ?_ | refine wpL_v rfl rfl (by decide) (OpV_cmp rfl rfl rfl rfl) ?_ | refine wpL_v rfl rfl (by decide) (OpV_nilptr rfl rfl rfl) ?_ | refine wpL_v rfl rfl (by decide) (OpV_beq rfl rfl rfl) ?_ | refine wpL_v rfl rfl (by decide) (OpV_bne rfl rfl rfl) ?_ | (refine wpL_sliceH hG rfl rfl (by decide) rfl rfl rfl rfl rfl rfl rfl rfl ?_; intro id G hG) | refine wpA_ct rfl (by first | rfl | exact decide_eq_true (by omega) | exact ndec_t (by omega)) ?_ | refine wpA_cf rfl (by first | rfl | exact decide_eq_false (by omega) | exact ndec_f (by omega)) ?_ | refine wpA_skip ?_ | refine wpA_exit ?_ | refine wpA_ret ?_ | refine x_then_exit ?_ | refine x_then_ret ?_ | refine x_then_normal ?_ | refine x_block_ret ?_ | refine x_block_normal ?_ | refine x_block_exit ?_ | refine x_block_other rfl ?_)
    refine wpL_nilq (sz := 1) rfl rfl rfl rfl (by decide) ?_
    intro b
    cases b with
    | true =>
      refine wpL_end ?_
      refine wpA_ct rfl rfl ?_
      refine wpA_seq ?_
      refine wpA_region ?_
      repeat (first | refine wpL_v rfl rfl (by decide) (OpV_move rfl rfl) ?_ | refine wpL_v rfl rfl (by decide) (OpV_assign rfl rfl) ?_ | refine wpL_v rfl rfl (by decide) (OpV_cmp rfl rfl rfl rfl) ?_ | refine wpL_v rfl rfl (by decide) (OpV_nilptr rfl rfl rfl) ?_ | refine wpL_v rfl rfl (by decide) (OpV_beq rfl rfl rfl) ?_ | refine wpL_v rfl rfl (by decide) (OpV_bne rfl rfl rfl) ?_ | (refine wpL_sliceH hG rfl rfl (by decide) rfl rfl rfl rfl rfl rfl rfl rfl ?_; intro id G hG))
      refine wpL_end ?_
      refine wpA_wk 2 rfl (Wk.nil 1) ?_
      repeat (first | refine wpL_end ?_ | refine wpL_nil ?_ | refine wpA_seq ?_ | refine wpA_region ?_ | refine wpA_block ?_ | refine wpL_v rfl rfl (by decide) (OpV_cmp rfl rfl rfl (congrArg some (decide_eq_true (by omega)))) ?_ | refine wpL_v rfl rfl (by decide) (OpV_cmp rfl rfl rfl (congrArg some (decide_eq_false (by omega)))) ?_ | refine wpL_v rfl rfl (by decide) (OpV_cmp rfl rfl rfl (congrArg some (ndec_t (by omega)))) ?_ | refine wpL_v rfl rfl (by decide) (OpV_cmp rfl rfl rfl (congrArg some (ndec_f (by omega)))) ?_ | refine wpL_v rfl rfl (by decide) (OpV_move rfl rfl) ?_ | refine wpL_v rfl rfl (by decide) (OpV_assign rfl rfl) ?_ | refine wpL_v rfl rfl (by decide) (OpV_cmp rfl rfl rfl rfl) ?_ | refine wpL_v rfl rfl (by decide) (OpV_nilptr rfl rfl rfl) ?_ | refine wpL_v rfl rfl (by decide) (OpV_beq rfl rfl rfl) ?_ | refine wpL_v rfl rfl (by decide) (OpV_bne rfl rfl rfl) ?_ | (refine wpL_sliceH hG rfl rfl (by decide) rfl rfl rfl rfl rfl rfl rfl rfl ?_; intro id G hG) | refine wpA_ct rfl (by first | rfl | exact decide_eq_true (by omega) | exact ndec_t (by omega)) ?_ | refine wpA_cf rfl (by first | rfl | exact decide_eq_false (by omega) | exact ndec_f (by omega)) ?_ | refine wpA_skip ?_ | refine wpA_exit ?_ | refine wpA_ret ?_ | refine x_then_exit ?_ | refine x_then_ret ?_ | refine x_then_normal ?_ | refine x_block_ret ?_ | refine x_block_normal ?_ | refine x_block_exit ?_ | refine x_block_other rfl ?_)
      exact postI_1 rfl rfl (.refl _) (tree_intsP []) rfl
    | false =>
      repeat (first | refine wpL_end ?_ | refine wpL_nil ?_ | refine wpA_seq ?_ | refine wpA_region ?_ | refine wpA_block ?_ | (refine wpL_appendH 0 hG rfl rfl (by decide) rfl rfl rfl rfl rfl rfl rfl rfl rfl rfl (by omega) (by omega) ?_; intro id2 G hG) | refine wpL_v rfl rfl (by decide) (OpV_cmp rfl rfl rfl (congrArg some (decide_eq_true (by omega)))) ?_ | refine wpL_v rfl rfl (by decide) (OpV_cmp rfl rfl rfl (congrArg some (decide_eq_false (by omega)))) ?_ | refine wpL_v rfl rfl (by decide) (OpV_cmp rfl rfl rfl (congrArg some (ndec_t (by omega)))) ?_ | refine wpL_v rfl rfl (by decide) (OpV_cmp rfl rfl rfl (congrArg some (ndec_f (by omega)))) ?_ | refine wpL_v rfl rfl (by decide) (OpV_move rfl rfl) ?_ | refine wpL_v rfl rfl (by decide) (OpV_assign rfl rfl) ?_ | refine wpL_v rfl rfl (by decide) (OpV_cmp rfl rfl rfl rfl) ?_ | refine wpL_v rfl rfl (by decide) (OpV_nilptr rfl rfl rfl) ?_ | refine wpL_v rfl rfl (by decide) (OpV_beq rfl rfl rfl) ?_ | refine wpL_v rfl rfl (by decide) (OpV_bne rfl rfl rfl) ?_ | (refine wpL_sliceH hG rfl rfl (by decide) rfl rfl rfl rfl rfl rfl rfl rfl ?_; intro id G hG) | refine wpA_ct rfl (by first | rfl | exact decide_eq_true (by omega) | exact ndec_t (by omega)) ?_ | refine wpA_cf rfl (by first | rfl | exact decide_eq_false (by omega) | exact ndec_f (by omega)) ?_ | refine wpA_skip ?_ | refine wpA_exit ?_ | refine wpA_ret ?_ | refine x_then_exit ?_ | refine x_then_ret ?_ | refine x_then_normal ?_ | refine x_block_ret ?_ | refine x_block_normal ?_ | refine x_block_exit ?_ | refine x_block_other rfl ?_)
      exact postI_1 rfl rfl (.own hG (k := 0) rfl rfl) (tree_intsP []) rfl
  | cons x l =>
    have ho := ints_one (x :: l)
    have hll : (x :: l).length = l.length + 1 := rfl
    repeat (first | refine wpL_end ?_ | refine wpL_nil ?_ | refine wpA_seq ?_ | refine wpA_region ?_ | refine wpA_block ?_ | refine wpL_v rfl rfl (by decide) (OpV_cmp rfl rfl rfl (congrArg some (decide_eq_true (by omega)))) ?_ | refine wpL_v rfl rfl (by decide) (OpV_cmp rfl rfl rfl (congrArg some (decide_eq_false (by omega)))) ?_ | refine wpL_v rfl rfl (by decide) (OpV_cmp rfl rfl rfl (congrArg some (ndec_t (by omega)))) ?_ | refine wpL_v rfl rfl (by decide) (OpV_cmp rfl rfl rfl (congrArg some (ndec_f (by omega)))) ?_ | refine wpL_v rfl rfl (by decide) (OpV_move rfl rfl) ?_ | refine wpL_v rfl rfl (by decide) (OpV_assign rfl rfl) ?_ | refine wpL_v rfl rfl (by decide) (OpV_cmp rfl rfl rfl rfl) ?_ | refine wpL_v rfl rfl (by decide) (OpV_nilptr rfl rfl rfl) ?_ | refine wpL_v rfl rfl (by decide) (OpV_beq rfl rfl rfl) ?_ | refine wpL_v rfl rfl (by decide) (OpV_bne rfl rfl rfl) ?_ | (refine wpL_sliceH hG rfl rfl (by decide) rfl rfl rfl rfl rfl rfl rfl rfl ?_; intro id G hG) | refine wpA_ct rfl (by first | rfl | exact decide_eq_true (by omega) | exact ndec_t (by omega)) ?_ | refine wpA_cf rfl (by first | rfl | exact decide_eq_false (by omega) | exact ndec_f (by omega)) ?_ | refine wpA_skip ?_ | refine wpA_exit ?_ | refine wpA_ret ?_ | refine x_then_exit ?_ | refine x_then_ret ?_ | refine x_then_normal ?_ | refine x_block_ret ?_ | refine x_block_normal ?_ | refine x_block_exit ?_ | refine x_block_other rfl ?_)
    refine wpL_nilsl rfl rfl rfl rfl (by decide) ?_
    repeat (first | refine wpL_end ?_ | refine wpL_nil ?_ | refine wpA_seq ?_ | refine wpA_region ?_ | refine wpA_block ?_ | (refine wpL_appendH 0 hG rfl rfl (by decide) rfl rfl rfl rfl rfl rfl rfl rfl rfl (by exact ho) (by omega) (by omega) ?_; intro id2 G hG) | refine wpL_v rfl rfl (by decide) (OpV_cmp rfl rfl rfl (congrArg some (decide_eq_true (by omega)))) ?_ | refine wpL_v rfl rfl (by decide) (OpV_cmp rfl rfl rfl (congrArg some (decide_eq_false (by omega)))) ?_ | refine wpL_v rfl rfl (by decide) (OpV_cmp rfl rfl rfl (congrArg some (ndec_t (by omega)))) ?_ | refine wpL_v rfl rfl (by decide) (OpV_cmp rfl rfl rfl (congrArg some (ndec_f (by omega)))) ?_ | refine wpL_v rfl rfl (by decide) (OpV_move rfl rfl) ?_ | refine wpL_v rfl rfl (by decide) (OpV_assign rfl rfl) ?_ | refine wpL_v rfl rfl (by decide) (OpV_cmp rfl rfl rfl rfl) ?_ | refine wpL_v rfl rfl (by decide) (OpV_nilptr rfl rfl rfl) ?_ | refine wpL_v rfl rfl (by decide) (OpV_beq rfl rfl rfl) ?_ | refine wpL_v rfl rfl (by decide) (OpV_bne rfl rfl rfl) ?_ | (refine wpL_sliceH hG rfl rfl (by decide) rfl rfl rfl rfl rfl rfl rfl rfl ?_; intro id G hG) | refine wpA_ct rfl (by first | rfl | exact decide_eq_true (by omega) | exact ndec_t (by omega)) ?_ | refine wpA_cf rfl (by first | rfl | exact decide_eq_false (by omega) | exact ndec_f (by omega)) ?_ | refine wpA_skip ?_ | refine wpA_exit ?_ | refine wpA_ret ?_ | refine x_then_exit ?_ | refine x_then_ret ?_ | refine x_then_normal ?_ | refine x_block_ret ?_ | refine x_block_normal ?_ | refine x_block_exit ?_ | refine x_block_other rfl ?_)
    have e : 0 + (x :: l).length = (x :: l).length := by omega
    rw [e] at *
    exact postI_1 rfl rfl (.own hG (k := 0) rfl (by simp)) (tree_intsP (x :: l)) rfl

theorem loadI {d : TypeDesc} {size off : Nat} {cells : List PV} {c : PV} (hd : isAggD d = false) (h : takeN 1 (cells.drop off) = some [c]) : loadC d size cells off = some c := by
  simp only [loadC, hd, h]

theorem bN_at (l : List Piece) (height : Int) {k : Nat} (h : k < (bN l height).length) : (bN l height).getD k 0 < l.length ∧ (k + 1 < (bN l height).length → (bN l height).getD (k + 1) 0 = fillF l ((bN l height).getD k 0) height) := by
  have e : endsN l height = bN l height ++ [l.length] := rfl
  have hx : (endsN l height)[k]? = some ((bN l height).getD k 0) := by rw [e, List.getElem?_append_left h]; simp [h]
  obtain ⟨y, hy⟩ : ∃ y, (endsN l height)[k + 1]? = some y := ⟨_, List.getElem?_eq_getElem (by rw [e]; simp; omega)⟩
  obtain ⟨h1, h2⟩ := (endsN_pairs l height).2 k _ y hx hy
  refine ⟨h1, fun h3 => ?_⟩
  rw [← h2]
  rw [e, List.getElem?_append_left h3] at hy
  simp [List.getD_eq_getElem?_getD, hy]
theorem bN_zero (l : List Piece) (height : Int) : (bN l height).getD 0 0 = 0 := by
  unfold bN
  cases hl : l.length with
  | zero => rfl
  | succ n => simp [brk, hl]
theorem bN_len (l : List Piece) (height : Int) : (bN l height).length ≤ l.length := brk_len l height _ _
theorem bL_at (l : List Piece) (height : Int) {k : Nat} (h : k < (bN l height).length) : (breaksL l height)[k]? = some (((bN l height).getD k 0 : Nat) : Int) := by
  have : breaksL l height = (bN l height).map Int.ofNat := rfl
  rw [this, List.getElem?_map]
  simp [h]
theorem bL_len (l : List Piece) (height : Int) : (breaksL l height).length = (bN l height).length := by
  have : breaksL l height = (bN l height).map Int.ofNat := rfl
  rw [this, List.length_map]
theorem keepG_stop {old : List Piece} {height : Int} {b : List Nat} {p n i : Nat} (h : ¬ (i < b.length ∧ reachF old (b.getD (i - 1) 0) height < p)) : keepG old height b p n i = i := by
  cases n with
  | zero => rfl
  | succ n => simp only [keepG]; rw [if_neg h]

def outK (b : List Nat) (i : Nat) : List Nat := 0 :: (b.drop 1).take (i - 1)
theorem outK_len {b : List Nat} {i : Nat} (h1 : 1 ≤ i) (h2 : i ≤ b.length ∨ i = 1) : (outK b i).length = i := by
  simp only [outK, List.length_cons, List.length_take, List.length_drop]; omega
theorem outK_succ {b : List Nat} {i : Nat} (h1 : 1 ≤ i) (h2 : i < b.length) : outK b (i + 1) = outK b i ++ [b.getD i 0] := by
  have : i + 1 - 1 = (i - 1) + 1 := by omega
  simp only [outK, this, List.take_add_one, List.getElem?_drop]
  rw [show 1 + (i - 1) = i by omega]
  simp [h2]
theorem outK_last {b : List Nat} (h0 : b.getD 0 0 = 0) {i : Nat} (h1 : 1 ≤ i) (h2 : i ≤ b.length ∨ i = 1) : ∃ pre, outK b i = pre ++ [b.getD (i - 1) 0] := by
  by_cases h : i = 1
  · subst h; exact ⟨[], by simp only [outK, Nat.sub_self, List.take_zero, h0, List.nil_append]⟩
  · obtain ⟨j, rfl⟩ : ∃ j, i = j + 1 := ⟨i - 1, by omega⟩
    exact ⟨outK b j, by rw [outK_succ (by omega) (by omega)]; rfl⟩
end Go.Proofs.YtnenmpeejjeopaaGreatDoor
