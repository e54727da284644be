/- The ids in cells; the ids that the program finds. -/
import Derived.Test.YtpmfnjkcoogicaaGreatId
namespace Go.Proofs.YtpmfnjkcoogicaaGreat
open Go.RowKit Go.Th
set_option linter.unusedVariables false
set_option maxRecDepth 20000

section
variable {P : Program} {n : Nat} {l : List Oper} {acc : List PV} {Hs : Nat → Heap} {i : Nat} {o : Oper} {os : List Oper} {p : PV} {E : Env} {d : Nat} {K : Env → Prop}
theorem Y_rr (lo hi : Nat) (h1 : loCount l i = lo) (h2 : hiCount l i = hi) (hg : o.guard = none) (hl : loudOp o = false) (hd : o.dst = some d) (hn : d < n) (h : ∀ k, lo ≤ k → k ≤ hi → OpV P o (opEnv o E) (Hs k) p)
    (k : DY P n l Hs (i + 1) os (p :: acc) ((d, p) :: E) K) : DY P n l Hs i (o :: os) acc E K := by
  refine ⟨p, ⟨fun d' hd' => by rw [hd] at hd'; cases hd'; exact hn, ?_⟩, by rw [hd]; exact k⟩
  rw [hg, hl]
  intro c hc1 hc2
  exact (h c (by omega) (by omega)).K
theorem Y_r3 {H H2 H3 : Heap} (c : Nat) (h1 : loCount l i = c) (h2 : hiCount l i = c + 2) (hH : Hs c = H) (hH2 : Hs (c + 1) = H2) (hH3 : Hs (c + 2) = H3) (hg : o.guard = none) (hl : loudOp o = false) (hd : o.dst = some d) (hn : d < n) (h : OpV P o (opEnv o E) H p) (h' : OpV P o (opEnv o E) H2 p) (h'' : OpV P o (opEnv o E) H3 p)
    (k : DY P n l Hs (i + 1) os (p :: acc) ((d, p) :: E) K) : DY P n l Hs i (o :: os) acc E K :=
  Y_rr c (c + 2) h1 h2 hg hl hd hn (fun k a b => by
    rcases (by omega : k = c ∨ k = c + 1 ∨ k = c + 2) with e | e | e
    · rw [e, hH]; exact h
    · rw [e, hH2]; exact h'
    · rw [e, hH3]; exact h'') k
end

set_option maxHeartbeats 16000000 in
theorem idsCF (l : List Cell) (hI : ∀ x ∈ l, ∀ i h f, x = .mk i h f → IdI 12 f) : IdC 13 l := by
  intro H L hG hcost
  have hll := costCs_len l
  refine AC_enter Tryz.func13 rfl rfl rfl ?_
  repeat (first | refine wpL_end ?_ | refine wpL_nil ?_ | refine wpA_seq ?_ | refine wpA_region ?_ | refine wpA_block ?_ | refine wpL_v rfl rfl (by decide) (OpV_cmp rfl rfl rfl (congrArg some (decide_eq_true (by omega)))) ?_ | refine wpL_v rfl rfl (by decide) (OpV_cmp rfl rfl rfl (congrArg some (decide_eq_false (by omega)))) ?_ | refine wpL_v rfl rfl (by decide) (OpV_cmp rfl rfl rfl (congrArg some (ndec_t (by omega)))) ?_ | refine wpL_v rfl rfl (by decide) (OpV_cmp rfl rfl rfl (congrArg some (ndec_f (by omega)))) ?_ | refine wpL_v rfl rfl (by decide) (OpV_move rfl rfl) ?_ | refine wpL_v rfl rfl (by decide) (OpV_assign rfl rfl) ?_ | refine wpL_v rfl rfl (by decide) (OpV_cmp rfl rfl rfl rfl) ?_ | refine wpL_v rfl rfl (by decide) (OpV_add rfl rfl rfl (by omega)) ?_ | refine wpL_v rfl rfl (by decide) (OpV_len rfl rfl rfl) ?_ | refine wpL_v rfl rfl (by decide) (OpV_fieldAddr rfl rfl rfl rfl) ?_ | refine wpL_v rfl rfl (by decide) (OpV_load rfl rfl rfl) ?_ | refine wpL_loadH 0 hG rfl rfl (by decide) rfl rfl rfl rfl ?_ | refine wpL_loadH 1 hG rfl rfl (by decide) rfl rfl rfl rfl ?_ | refine wpL_loadH 2 hG rfl rfl (by decide) rfl rfl rfl rfl ?_ | refine wpL_loadH 3 hG rfl rfl (by decide) rfl rfl rfl rfl ?_ | refine wpL_loadH 4 hG rfl rfl (by decide) rfl rfl rfl rfl ?_ | refine wpL_loadH 5 hG rfl rfl (by decide) rfl rfl rfl rfl ?_ | (refine wpL_sliceH hG rfl rfl (by decide) rfl rfl rfl rfl rfl rfl rfl rfl ?_; intro id G hG) | refine wpA_ct rfl (by first | rfl | exact decide_eq_true (by omega) | exact ndec_t (by omega)) ?_ | refine wpA_cf rfl (by first | rfl | exact decide_eq_false (by omega) | exact ndec_f (by omega)) ?_ | refine wpA_skip ?_ | refine wpA_exit ?_ | refine wpA_ret ?_ | refine x_then_exit ?_ | refine x_then_ret ?_ | refine x_then_normal ?_ | refine x_block_ret ?_ | refine x_block_normal ?_ | refine x_block_exit ?_ | refine x_block_other rfl ?_)
  refine wpA_ghostH 3 3 1 hG rfl ?_
  intro o G hG
  refine wpA_loopS (S := Nat × Nat × List Int) (fun s => [(0, cellsP l), (3, .sl s.2.1 0 s.2.2.length 1), (4, I s.1)]) (fun s G => s.1 ≤ l.length ∧ s.2.2 = idsCs (l.take s.1) ∧ Has G ((s.2.1, ⟨s.2.2.map I, 3, true⟩) :: L)) (fun s => l.length - s.1) (0, o, [])
    (.cons rfl (.cons rfl (.cons rfl (.nil _)))) ⟨Nat.zero_le _, by simp [idsCs], hG⟩ ?_
  clear hG
  rintro ⟨i, o, a⟩ G ⟨hi, ha, hG⟩
  dsimp only at hi ha hG ⊢
  by_cases hil : i < l.length
  · obtain ⟨x, hx⟩ : ∃ x, l[i]? = some x := ⟨_, List.getElem?_eq_getElem hil⟩
    have hIx := hI x (List.mem_of_getElem? hx)
    have htk := idsCs_take l i x hx
    have hal : a.length + costC x ≤ 300 := by
      have := room_C l i x hx
      rw [← ha] at this
      omega
    obtain ⟨d, h, f⟩ := x
    have hf := hIx d h f rfl
    have hfl := idsIs_len f
    rw [costC] at hal
    rw [idsC] at htk
    have hfi := hf.iso (by omega)
    clear hIx hI
    repeat (first | refine wpL_end ?_ | refine wpL_nil ?_ | refine wpA_seq ?_ | refine wpA_region ?_ | refine wpA_block ?_ | refine wpL_v rfl rfl (by decide) (OpV_cmp rfl rfl rfl (congrArg some (decide_eq_true (by omega)))) ?_ | refine wpL_v rfl rfl (by decide) (OpV_cmp rfl rfl rfl (congrArg some (decide_eq_false (by omega)))) ?_ | refine wpL_v rfl rfl (by decide) (OpV_cmp rfl rfl rfl (congrArg some (ndec_t (by omega)))) ?_ | refine wpL_v rfl rfl (by decide) (OpV_cmp rfl rfl rfl (congrArg some (ndec_f (by omega)))) ?_ | refine wpL_v rfl rfl (by decide) (OpV_move rfl rfl) ?_ | refine wpL_v rfl rfl (by decide) (OpV_assign rfl rfl) ?_ | refine wpL_v rfl rfl (by decide) (OpV_cmp rfl rfl rfl rfl) ?_ | refine wpL_v rfl rfl (by decide) (OpV_add rfl rfl rfl (by omega)) ?_ | refine wpL_v rfl rfl (by decide) (OpV_len rfl rfl rfl) ?_ | refine wpL_v rfl rfl (by decide) (OpV_fieldAddr rfl rfl rfl rfl) ?_ | refine wpL_v rfl rfl (by decide) (OpV_load rfl rfl rfl) ?_ | refine wpL_loadH 0 hG rfl rfl (by decide) rfl rfl rfl rfl ?_ | refine wpL_loadH 1 hG rfl rfl (by decide) rfl rfl rfl rfl ?_ | refine wpL_loadH 2 hG rfl rfl (by decide) rfl rfl rfl rfl ?_ | refine wpL_loadH 3 hG rfl rfl (by decide) rfl rfl rfl rfl ?_ | refine wpL_loadH 4 hG rfl rfl (by decide) rfl rfl rfl rfl ?_ | refine wpL_loadH 5 hG rfl rfl (by decide) rfl rfl rfl rfl ?_ | (refine wpL_sliceH hG rfl rfl (by decide) rfl rfl rfl rfl rfl rfl rfl rfl ?_; intro id G hG) | refine wpA_ct rfl (by first | rfl | exact decide_eq_true (by omega) | exact ndec_t (by omega)) ?_ | refine wpA_cf rfl (by first | rfl | exact decide_eq_false (by omega) | exact ndec_f (by omega)) ?_ | refine wpA_skip ?_ | refine wpA_exit ?_ | refine wpA_ret ?_ | refine x_then_exit ?_ | refine x_then_ret ?_ | refine x_then_normal ?_ | refine x_block_ret ?_ | refine x_block_normal ?_ | refine x_block_exit ?_ | refine x_block_other rfl ?_)
    obtain ⟨H1, e1⟩ : ∃ X, X = G ++ [some (Blk.mk [I d] 3 true)] := ⟨_, rfl⟩
    have hG1 := hG.new (Blk.mk [I d] 3 true)
    rw [← e1] at hG1
    obtain ⟨H2, e2⟩ : ∃ X, X = H1.set o none ++ [some (Blk.mk (a.map I ++ [I d]) 3 true)] := ⟨_, rfl⟩
    have hG2 := hG1.grow (k := 1) rfl (Blk.mk (a.map I ++ [I d]) 3 true)
    rw [← e2] at hG2
    obtain ⟨H3, e3⟩ : ∃ X, X = H2.set H1.length none ++ [some (Blk.mk (a.map I ++ [I d] ++ (idsIs f).map I) 3 true)] := ⟨_, rfl⟩
    have hG3 := hG2.grow (k := 1) rfl (Blk.mk (a.map I ++ [I d] ++ (idsIs f).map I) 3 true)
    rw [← e3] at hG3
    refine wpA_yL [H1, H2, H3] H3 mixed (by decide +kernel) (N := 3) (by decide +kernel) rfl ?_
    repeat (first | refine Y_v rfl rfl rfl (by decide) (fun _ => OpV_index_tr (cells := l.flatMap encCell) rfl rfl rfl (by omega) (by exact cell_at hx)) ?_ | refine Y_w 0 (by decide +kernel) rfl rfl rfl rfl (by decide) (OpW_buildSlice rfl rfl rfl rfl rfl rfl rfl rfl) e1 ?_ | refine Y_w 1 (by decide +kernel) rfl rfl rfl rfl (by decide) (OpW_append rfl rfl rfl rfl (hG1.cellsOf (k := 0) rfl rfl) rfl (appendA_at (hG1.get 1 _ _ rfl) rfl rfl (by simp)) (by omega) (by omega)) e2 ?_ | refine Y_k rfl rfl rfl (by decide) (fun _ => Iso.K rfl rfl rfl rfl (hfi.mono (Q' := fun p => p = intsP (idsIs f)) (fun _ h => h)) (TreeL.cons (tree_itemsP _) TreeL.nil)) ?_ | refine Y_w 2 (by decide +kernel) rfl rfl rfl rfl (by decide) (OpW_append rfl rfl rfl rfl rfl (by exact ints_one _) (appendA_at (hG2.get 1 _ _ rfl) rfl rfl (by simp)) (by omega) (by omega)) e3 ?_ | refine Y_v rfl rfl rfl (by decide) (fun _ => OpV_cmp rfl rfl rfl (congrArg some (decide_eq_true (by omega)))) ?_ | refine Y_v rfl rfl rfl (by decide) (fun _ => OpV_cmp rfl rfl rfl (congrArg some (decide_eq_false (by omega)))) ?_ | refine Y_v rfl rfl rfl (by decide) (fun _ => OpV_cmp rfl rfl rfl (congrArg some (ndec_t (by omega)))) ?_ | refine Y_v rfl rfl rfl (by decide) (fun _ => OpV_cmp rfl rfl rfl (congrArg some (ndec_f (by omega)))) ?_ | refine Y_v rfl rfl rfl (by decide) (fun _ => OpV_move rfl rfl) ?_ | refine Y_v rfl rfl rfl (by decide) (fun _ => OpV_assign rfl rfl) ?_ | refine Y_v rfl rfl rfl (by decide) (fun _ => OpV_cmp rfl rfl rfl rfl) ?_ | refine Y_v rfl rfl rfl (by decide) (fun _ => OpV_add rfl rfl rfl (by omega)) ?_ | refine Y_v rfl rfl rfl (by decide) (fun _ => OpV_len rfl rfl rfl) ?_ | refine Y_v rfl rfl rfl (by decide) (fun _ => OpV_fieldAddr rfl rfl rfl rfl) ?_ | refine Y_v rfl rfl rfl (by decide) (fun _ => OpV_load rfl rfl rfl) ?_ | refine Y_end ?_)
    have hG : Has H3 ((H2.length, ⟨(a ++ d :: idsIs f).map I, 3, true⟩) :: L) := has_cells hG3.tail (by simp)
    repeat (first | refine wpL_end ?_ | refine wpL_nil ?_ | refine wpA_seq ?_ | refine wpA_region ?_ | refine wpA_block ?_ | refine wpL_v rfl rfl (by decide) (OpV_cmp rfl rfl rfl (congrArg some (decide_eq_true (by omega)))) ?_ | refine wpL_v rfl rfl (by decide) (OpV_cmp rfl rfl rfl (congrArg some (decide_eq_false (by omega)))) ?_ | refine wpL_v rfl rfl (by decide) (OpV_cmp rfl rfl rfl (congrArg some (ndec_t (by omega)))) ?_ | refine wpL_v rfl rfl (by decide) (OpV_cmp rfl rfl rfl (congrArg some (ndec_f (by omega)))) ?_ | refine wpL_v rfl rfl (by decide) (OpV_move rfl rfl) ?_ | refine wpL_v rfl rfl (by decide) (OpV_assign rfl rfl) ?_ | refine wpL_v rfl rfl (by decide) (OpV_cmp rfl rfl rfl rfl) ?_ | refine wpL_v rfl rfl (by decide) (OpV_add rfl rfl rfl (by omega)) ?_ | refine wpL_v rfl rfl (by decide) (OpV_len rfl rfl rfl) ?_ | refine wpL_v rfl rfl (by decide) (OpV_fieldAddr rfl rfl rfl rfl) ?_ | refine wpL_v rfl rfl (by decide) (OpV_load rfl rfl rfl) ?_ | refine wpL_loadH 0 hG rfl rfl (by decide) rfl rfl rfl rfl ?_ | refine wpL_loadH 1 hG rfl rfl (by decide) rfl rfl rfl rfl ?_ | refine wpL_loadH 2 hG rfl rfl (by decide) rfl rfl rfl rfl ?_ | refine wpL_loadH 3 hG rfl rfl (by decide) rfl rfl rfl rfl ?_ | refine wpL_loadH 4 hG rfl rfl (by decide) rfl rfl rfl rfl ?_ | refine wpL_loadH 5 hG rfl rfl (by decide) rfl rfl rfl rfl ?_ | (refine wpL_sliceH hG rfl rfl (by decide) rfl rfl rfl rfl rfl rfl rfl rfl ?_; intro id G hG) | refine wpA_ct rfl (by first | rfl | exact decide_eq_true (by omega) | exact ndec_t (by omega)) ?_ | refine wpA_cf rfl (by first | rfl | exact decide_eq_false (by omega) | exact ndec_f (by omega)) ?_ | refine wpA_skip ?_ | refine wpA_exit ?_ | refine wpA_ret ?_ | refine x_then_exit ?_ | refine x_then_ret ?_ | refine x_then_normal ?_ | refine x_block_ret ?_ | refine x_block_normal ?_ | refine x_block_exit ?_ | refine x_block_other rfl ?_)
    exact ⟨(i + 1, H2.length, a ++ d :: idsIs f), by simp only; omega, .cons rfl (.cons (sl_get rfl (by simp; omega)) (.cons rfl (.nil _))), by simp only; omega, by simp only; rw [htk, ha], hG⟩
  · have ei : i = l.length := by omega
    rw [ei, List.take_length] at ha
    repeat (first | refine wpL_end ?_ | refine wpL_nil ?_ | refine wpA_seq ?_ | refine wpA_region ?_ | refine wpA_block ?_ | refine wpL_v rfl rfl (by decide) (OpV_cmp rfl rfl rfl (congrArg some (decide_eq_true (by omega)))) ?_ | refine wpL_v rfl rfl (by decide) (OpV_cmp rfl rfl rfl (congrArg some (decide_eq_false (by omega)))) ?_ | refine wpL_v rfl rfl (by decide) (OpV_cmp rfl rfl rfl (congrArg some (ndec_t (by omega)))) ?_ | refine wpL_v rfl rfl (by decide) (OpV_cmp rfl rfl rfl (congrArg some (ndec_f (by omega)))) ?_ | refine wpL_v rfl rfl (by decide) (OpV_move rfl rfl) ?_ | refine wpL_v rfl rfl (by decide) (OpV_assign rfl rfl) ?_ | refine wpL_v rfl rfl (by decide) (OpV_cmp rfl rfl rfl rfl) ?_ | refine wpL_v rfl rfl (by decide) (OpV_add rfl rfl rfl (by omega)) ?_ | refine wpL_v rfl rfl (by decide) (OpV_len rfl rfl rfl) ?_ | refine wpL_v rfl rfl (by decide) (OpV_fieldAddr rfl rfl rfl rfl) ?_ | refine wpL_v rfl rfl (by decide) (OpV_load rfl rfl rfl) ?_ | refine wpL_loadH 0 hG rfl rfl (by decide) rfl rfl rfl rfl ?_ | refine wpL_loadH 1 hG rfl rfl (by decide) rfl rfl rfl rfl ?_ | refine wpL_loadH 2 hG rfl rfl (by decide) rfl rfl rfl rfl ?_ | refine wpL_loadH 3 hG rfl rfl (by decide) rfl rfl rfl rfl ?_ | refine wpL_loadH 4 hG rfl rfl (by decide) rfl rfl rfl rfl ?_ | refine wpL_loadH 5 hG rfl rfl (by decide) rfl rfl rfl rfl ?_ | (refine wpL_sliceH hG rfl rfl (by decide) rfl rfl rfl rfl rfl rfl rfl rfl ?_; intro id G hG) | refine wpA_ct rfl (by first | rfl | exact decide_eq_true (by omega) | exact ndec_t (by omega)) ?_ | refine wpA_cf rfl (by first | rfl | exact decide_eq_false (by omega) | exact ndec_f (by omega)) ?_ | refine wpA_skip ?_ | refine wpA_exit ?_ | refine wpA_ret ?_ | refine x_then_exit ?_ | refine x_then_ret ?_ | refine x_then_normal ?_ | refine x_block_ret ?_ | refine x_block_normal ?_ | refine x_block_exit ?_ | refine x_block_other rfl ?_)
    refine postA_1 rfl rfl ?_
    rw [← ha]
    exact ⟨o, rfl, hG⟩
end Go.Proofs.YtpmfnjkcoogicaaGreat
