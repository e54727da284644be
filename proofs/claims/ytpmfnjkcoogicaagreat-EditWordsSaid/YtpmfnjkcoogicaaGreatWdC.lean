/- The law EditWords, where the example at its head comes out as it should. -/
import Derived.Test.YtpmfnjkcoogicaaGreatWdB
namespace Go.Proofs.YtpmfnjkcoogicaaGreat
open Go.RowKit Go.Th
set_option linter.unusedVariables false
set_option maxRecDepth 20000

theorem words_len : words.length = 15 := rfl
theorem words_at {i : Nat} {b : ByteArray} (h : words[i]? = some b) : ∃ x, sorts[i]? = some x ∧ x.1 = b := by
  rw [← sorts_words, List.getElem?_map] at h
  cases hx : sorts[i]? with
  | none => rw [hx] at h; cases h
  | some x => rw [hx] at h; simp only [Option.map_some, Option.some.injEq] at h; exact ⟨x, rfl, h⟩
theorem at_words {i : Nat} {x : Sort3} (h : sorts[i]? = some x) : words[i]? = some x.1 := by
  rw [← sorts_words, List.getElem?_map, h]; rfl
theorem sEq_self (a : ByteArray) : sEq a a = true := by simp [sEq]
theorem sEq_ne (a : ByteArray) : (!sEq a a) = false := by rw [sEq_self]; rfl
/-- No word but the first is empty. -/
theorem words_full : ∀ i, i < 15 → 1 ≤ i → ((words[i]?).map fun b => b.toList.isEmpty) = some false := by decide +kernel

def wordsP : PV := .tr (words.map S) 15 1
theorem tree_wordsP : Tree wordsP := Tree.tr fun c hc => by
  obtain ⟨x, _, rfl⟩ := List.mem_map.1 hc
  exact tree_S x

theorem load_w {i : Nat} {b : ByteArray} (hb : words[i]? = some b) (H : Heap) : loadA .string 1 H (.ept (words.map S) (i * 1)) = some (S b) := by
  have h : (words.map S)[i]? = some (S b) := by rw [List.getElem?_map, hb]; rfl
  have h4 : takeN 1 ((words.map S).drop (i * 1)) = some [S b] := by
    rw [takeN_eq, Nat.mul_one]
    have hlt := (List.getElem?_eq_some_iff.1 h).1
    refine ⟨by simp only [List.length_drop]; omega, ?_⟩
    rw [List.drop_eq_getElem_cons hlt, (List.getElem?_eq_some_iff.1 h).2]
    rfl
  simp only [loadA, isAggD, readA, h4]

theorem found_at {x : Int} {w : ByteArray} (h : First x w) {i : Nat} {b : ByteArray} (h1 : 1 ≤ i) (hb : words[i]? = some b) (hq : sEq b w = true) (hn : ∀ (j : Nat) (b' : ByteArray), 1 ≤ j → j < i → words[j]? = some b' → sEq b' w = false) : x = i := by
  obtain ⟨y, hy, rfl⟩ := words_at hb
  rcases h with ⟨i0, e0, rfl, he, hq0, hmin⟩ | ⟨_, hno⟩
  · have hle : ¬ i < i0 := fun hlt => by
      have := hmin i y hlt hy
      rw [hq] at this; cases this
    have hge : ¬ i0 < i := fun hlt => by
      rcases Nat.eq_zero_or_pos i0 with h0 | hp
      · subst h0
        have hi15 : i < 15 := by have := (List.getElem?_eq_some_iff.1 hb).1; rwa [words_len] at this
        have hf := words_full i hi15 h1
        rw [hb] at hf
        have e1 : e0.1.toList = [] := by
          have : sorts[0]? = some (⟨#[]⟩, 0, false) := rfl
          rw [this] at he
          cases he
          exact (by decide +kernel : (⟨#[]⟩ : ByteArray).toList = [])
        have e2 : y.1.toList = w.toList := by simpa [sEq] using hq
        have e3 : e0.1.toList = w.toList := by simpa [sEq] using hq0
        rw [← e3, e1] at e2
        simp [e2] at hf
      · have := hn i0 e0.1 hp hlt (at_words he)
        rw [hq0] at this; cases this
    omega
  · have := hno i y hy
    rw [hq] at this; cases this

theorem found_no {x : Int} {w : ByteArray} (h : First x w) (hn : ∀ (j : Nat) (b' : ByteArray), 1 ≤ j → j < 15 → words[j]? = some b' → sEq b' w = false) : x < 1 := by
  rcases h with ⟨i0, e0, rfl, he, hq0, hmin⟩ | ⟨rfl, _⟩
  · rcases Nat.eq_zero_or_pos i0 with h0 | hp
    · subst h0; decide
    · have hi15 : i0 < 15 := by have := (List.getElem?_eq_some_iff.1 he).1; rwa [sorts_len] at this
      have := hn i0 e0.1 hp hi15 (at_words he)
      rw [hq0] at this; cases this
  · decide

/-- What is known of the kind. -/
def Kind (k : Int) (ws : ByteArray) (we : Int) (tk : Bool) : Prop :=
  Iso Tryz.prog 16 [I k] (fun p => p = .tup [S ws, I we]) ∧ Iso Tryz.prog 18 [I k] (fun p => p = B tk) ∧
  ((¬ (1 ≤ k ∧ k ≤ 14) ∧ ws = ⟨#[]⟩ ∧ we = 3 ∧ tk = false) ∨ (1 ≤ k ∧ k ≤ 10 ∧ words[k.toNat]? = some ws ∧ we = 0 ∧ tk = true) ∨ (k = 13 ∧ words[k.toNat]? = some ws ∧ we = 0 ∧ tk = true) ∨ ((k = 11 ∨ k = 12 ∨ k = 14) ∧ words[k.toNat]? = some ws ∧ we = 0 ∧ tk = false))

theorem kind_of (k : Int) : ∃ ws we tk, Kind k ws we tk := by
  by_cases h : 1 ≤ k ∧ k ≤ 14
  · obtain ⟨x, hx⟩ : ∃ x, sorts[k.toNat]? = some x := ⟨_, List.getElem?_eq_getElem (by rw [sorts_len]; omega)⟩
    have hw := at_words hx
    have ht := tracked_iso k
    by_cases h1 : k ≤ 10
    · exact ⟨x.1, 0, true, word_in k x h.1 h.2 hx, ht.mono (fun p hp => by rw [hp, decide_eq_true (by omega)]), .inr (.inl ⟨h.1, h1, hw, rfl, rfl⟩)⟩
    · by_cases h2 : k = 13
      · exact ⟨x.1, 0, true, word_in k x h.1 h.2 hx, ht.mono (fun p hp => by rw [hp, decide_eq_true (by omega)]), .inr (.inr (.inl ⟨h2, hw, rfl, rfl⟩))⟩
      · exact ⟨x.1, 0, false, word_in k x h.1 h.2 hx, ht.mono (fun p hp => by rw [hp, decide_eq_false (by omega)]), .inr (.inr (.inr ⟨by omega, hw, rfl, rfl⟩))⟩
  · exact ⟨⟨#[]⟩, 3, false, word_out k h, (tracked_iso k).mono (fun p hp => by rw [hp, decide_eq_false (by omega)]), .inl ⟨h, rfl, rfl, rfl⟩⟩

set_option maxHeartbeats 16000000 in
theorem editWords_iso (hkn : Iso Tryz.prog 6 [] (fun p => p = B true)) (k : Int) (w : ByteArray) : Iso Tryz.prog 5 [I k, S w] (fun p => p = B true) := by
  obtain ⟨ws, we, tk, hW, hT, hcase⟩ := kind_of k
  have hG := has_nil
  refine Iso_enter Tryz.func5 rfl rfl rfl ?_
  have tW := TreeL.cons (tree_I k) TreeL.nil
  repeat (first | refine wpL_end ?_ | refine wpL_nil ?_ | refine wpA_seq ?_ | refine wpA_region ?_ | refine wpA_block ?_ | refine wpA_freeze 5 rfl (hG.get 0 _ _ rfl) (cs := words.map S) rfl ?_ | (refine wpL_is rfl rfl rfl rfl rfl rfl (by decide) hW (TreeL.cons (tree_I _) TreeL.nil) ?_; rintro _ rfl) | (refine wpL_is rfl rfl rfl rfl rfl rfl (by decide) (find_iso w) (TreeL.cons (tree_S _) TreeL.nil) ?_; rintro _ ⟨x, hx, rfl⟩) | (refine wpL_is rfl rfl rfl rfl rfl rfl (by decide) hkn TreeL.nil ?_; rintro _ rfl) | refine wpL_v rfl rfl (by decide) (OpV_cmp rfl rfl rfl (congrArg some (decide_eq_true (by omega)))) ?_ | refine wpL_v rfl rfl (by decide) (OpV_cmp rfl rfl rfl (congrArg some (decide_eq_false (by omega)))) ?_ | refine wpL_v rfl rfl (by decide) (OpV_cmp rfl rfl rfl (congrArg some (ndec_t (by omega)))) ?_ | refine wpL_v rfl rfl (by decide) (OpV_cmp rfl rfl rfl (congrArg some (ndec_f (by omega)))) ?_ | refine wpL_v rfl rfl (by decide) (OpV_move rfl rfl) ?_ | refine wpL_v rfl rfl (by decide) (OpV_assign rfl rfl) ?_ | refine wpL_v rfl rfl (by decide) (OpV_cmp rfl rfl rfl rfl) ?_ | refine wpL_v rfl rfl (by decide) (OpV_add rfl rfl rfl (by omega)) ?_ | refine wpL_v rfl rfl (by decide) (OpV_len rfl rfl rfl) ?_ | refine wpL_v rfl rfl (by decide) (OpV_load rfl rfl rfl) ?_ | refine wpL_v rfl rfl (by decide) (OpV_not rfl rfl) ?_ | refine wpL_v rfl rfl (by decide) (OpV_extract rfl rfl rfl) ?_ | refine wpL_v rfl rfl (by decide) (OpV_pick_t rfl rfl (by first | rfl | exact decide_eq_true (by omega)) rfl) ?_ | refine wpL_v rfl rfl (by decide) (OpV_pick_f rfl rfl (by first | rfl | exact decide_eq_false (by omega)) rfl) ?_ | refine wpL_v rfl rfl (by decide) (OpV_nilptr rfl rfl rfl) ?_ | refine wpL_v rfl rfl (by decide) (OpV_beq rfl rfl rfl) ?_ | refine wpL_v rfl rfl (by decide) (OpV_bne rfl rfl rfl) ?_ | refine wpL_loadH 0 hG rfl rfl (by decide) rfl rfl rfl rfl ?_ | refine wpL_loadH 1 hG rfl rfl (by decide) rfl rfl rfl rfl ?_ | refine wpL_loadH 2 hG rfl rfl (by decide) rfl rfl rfl rfl ?_ | refine wpL_loadH 3 hG rfl rfl (by decide) rfl rfl rfl rfl ?_ | refine wpL_loadH 4 hG rfl rfl (by decide) rfl rfl rfl rfl ?_ | refine wpL_loadH 5 hG rfl rfl (by decide) rfl rfl rfl rfl ?_ | (refine wpL_sliceH hG rfl rfl (by decide) rfl rfl rfl rfl rfl rfl rfl rfl ?_; intro id G hG) | refine wpL_gt rfl rfl rfl rfl rfl (by decide) (by first | rfl | exact decide_eq_true (by omega) | exact decide_eq_false (by omega) | exact ndec_t (by omega) | exact ndec_f (by omega)) ?_ | refine wpL_gf rfl rfl rfl rfl rfl (by decide) (by first | rfl | exact decide_eq_true (by omega) | exact decide_eq_false (by omega) | exact ndec_t (by omega) | exact ndec_f (by omega)) ?_ | refine wpA_ct rfl (by first | rfl | exact decide_eq_true (by omega) | exact ndec_t (by omega)) ?_ | refine wpA_cf rfl (by first | rfl | exact decide_eq_false (by omega) | exact ndec_f (by omega)) ?_ | refine wpA_skip ?_ | refine wpA_exit ?_ | refine wpA_ret ?_ | refine x_then_exit ?_ | refine x_then_ret ?_ | refine x_then_normal ?_ | refine x_block_ret ?_ | refine x_block_normal ?_ | refine x_block_exit ?_ | refine x_block_other rfl ?_ | refine wpL_v rfl rfl (by decide) (OpV_pick_t rfl rfl (ndec_t (by omega)) rfl) ?_ | refine wpL_v rfl rfl (by decide) (OpV_pick_f rfl rfl (ndec_f (by omega)) rfl) ?_)
  have hw15 : ∀ (j : Nat) (b' : ByteArray), words[j]? = some b' → j < 15 := fun j b' hj => by
    have := (List.getElem?_eq_some_iff.1 hj).1
    rwa [words_len] at this
  obtain ⟨v0, hv0, hs⟩ : ∃ v0 : ByteArray, v0 = (if 1 ≤ k ∧ k ≤ 14 then ws else ⟨#[]⟩) ∧ (!sEq ws v0) = false := ⟨_, rfl, by
    split
    · exact sEq_ne ws
    · rename_i hn
      rcases hcase with ⟨_, rfl, _⟩ | ⟨h1, h2, _⟩ | ⟨h1, _⟩ | ⟨h1, _⟩
      · exact sEq_ne _
      · exact absurd ⟨h1, by omega⟩ hn
      · exact absurd (by omega) hn
      · exact absurd (by omega) hn⟩
  have cases5 : (k < 1 ∧ ws = ⟨#[]⟩ ∧ we = 3 ∧ tk = false ∧ v0 = ⟨#[]⟩) ∨ (15 ≤ k ∧ ws = ⟨#[]⟩ ∧ we = 3 ∧ tk = false ∧ v0 = ⟨#[]⟩) ∨ (1 ≤ k ∧ k ≤ 10 ∧ words[k.toNat]? = some v0 ∧ we = 0 ∧ tk = true) ∨ (k = 13 ∧ words[k.toNat]? = some v0 ∧ we = 0 ∧ tk = true) ∨ ((k = 11 ∨ k = 12 ∨ k = 14) ∧ words[k.toNat]? = some v0 ∧ we = 0 ∧ tk = false) := by
    rcases hcase with ⟨h1, h2, h3, h4⟩ | ⟨h1, h2, h3, h4, h5⟩ | ⟨h1, h2, h3, h4⟩ | ⟨h1, h2, h3, h4⟩
    · have e : v0 = ⟨#[]⟩ := by rw [hv0, if_neg h1]
      by_cases hk : k < 1
      · exact .inl ⟨hk, h2, h3, h4, e⟩
      · exact .inr (.inl ⟨by omega, h2, h3, h4, e⟩)
    · have e : v0 = ws := by rw [hv0, if_pos (by omega)]
      exact .inr (.inr (.inl ⟨h1, h2, by rw [e]; exact h3, h4, h5⟩))
    · have e : v0 = ws := by rw [hv0, if_pos (by omega)]
      exact .inr (.inr (.inr (.inl ⟨h1, by rw [e]; exact h2, h3, h4⟩)))
    · have e : v0 = ws := by rw [hv0, if_pos (by omega)]
      exact .inr (.inr (.inr (.inr ⟨h1, by rw [e]; exact h2, h3, h4⟩)))
  clear hcase hv0 hW hkn
  have hG := hG.forget
  have hn15 : (0 : Int) ≤ 15 := by decide
  have n1 : ¬ x < 1 → (if x < 1 then 0 else x) = x ∧ (if x < 1 then (30 : Int) else 0) = 0 := fun h => by rw [if_neg h, if_neg h]; exact ⟨rfl, rfl⟩
  have n2 : x < 1 → (if x < 1 then 0 else x) = 0 ∧ (if x < 1 then (30 : Int) else 0) = 30 := fun h => by rw [if_pos h, if_pos h]; exact ⟨rfl, rfl⟩
  generalize (if x < 1 then 0 else x) = n at n1 n2
  generalize (if x < 1 then (30 : Int) else 0) = e at n1 n2
  rcases cases5 with ⟨h1, rfl, rfl, rfl, rfl⟩ | ⟨h1, rfl, rfl, rfl, rfl⟩ | ⟨h1, h2, hw, rfl, rfl⟩ | ⟨h1, hw, rfl, rfl⟩ | ⟨h1, hw, rfl, rfl⟩
  all_goals
    repeat (first | refine wpL_end ?_ | refine wpL_nil ?_ | refine wpA_seq ?_ | refine wpA_region ?_ | refine wpA_block ?_ | refine wpL_v rfl rfl (by decide) (OpV.same (OpV_sne rfl rfl rfl) (congrArg (fun b => PV.v (.bool b)) hs)) ?_ | (refine wpL_is rfl rfl rfl rfl rfl rfl (by decide) hT (TreeL.cons (tree_I _) TreeL.nil) ?_; rintro _ rfl) | refine wpL_v rfl rfl (by decide) (OpV_indexAddr rfl rfl rfl rfl rfl (by omega)) ?_ | refine wpL_v rfl rfl (by decide) (OpV_load rfl rfl (by exact load_w hw _)) ?_ | refine wpL_v rfl rfl (by decide) (OpV_cmp rfl rfl rfl (congrArg some (decide_eq_true (by omega)))) ?_ | refine wpL_v rfl rfl (by decide) (OpV_cmp rfl rfl rfl (congrArg some (decide_eq_false (by omega)))) ?_ | refine wpL_v rfl rfl (by decide) (OpV_cmp rfl rfl rfl (congrArg some (ndec_t (by omega)))) ?_ | refine wpL_v rfl rfl (by decide) (OpV_cmp rfl rfl rfl (congrArg some (ndec_f (by omega)))) ?_ | refine wpL_v rfl rfl (by decide) (OpV_move rfl rfl) ?_ | refine wpL_v rfl rfl (by decide) (OpV_assign rfl rfl) ?_ | refine wpL_v rfl rfl (by decide) (OpV_cmp rfl rfl rfl rfl) ?_ | refine wpL_v rfl rfl (by decide) (OpV_add rfl rfl rfl (by omega)) ?_ | refine wpL_v rfl rfl (by decide) (OpV_len rfl rfl rfl) ?_ | refine wpL_v rfl rfl (by decide) (OpV_load rfl rfl rfl) ?_ | refine wpL_v rfl rfl (by decide) (OpV_not rfl rfl) ?_ | refine wpL_v rfl rfl (by decide) (OpV_extract rfl rfl rfl) ?_ | refine wpL_v rfl rfl (by decide) (OpV_pick_t rfl rfl (by first | rfl | exact decide_eq_true (by omega)) rfl) ?_ | refine wpL_v rfl rfl (by decide) (OpV_pick_f rfl rfl (by first | rfl | exact decide_eq_false (by omega)) rfl) ?_ | refine wpL_v rfl rfl (by decide) (OpV_nilptr rfl rfl rfl) ?_ | refine wpL_v rfl rfl (by decide) (OpV_beq rfl rfl rfl) ?_ | refine wpL_v rfl rfl (by decide) (OpV_bne rfl rfl rfl) ?_ | refine wpL_loadH 0 hG rfl rfl (by decide) rfl rfl rfl rfl ?_ | refine wpL_loadH 1 hG rfl rfl (by decide) rfl rfl rfl rfl ?_ | refine wpL_loadH 2 hG rfl rfl (by decide) rfl rfl rfl rfl ?_ | refine wpL_loadH 3 hG rfl rfl (by decide) rfl rfl rfl rfl ?_ | refine wpL_loadH 4 hG rfl rfl (by decide) rfl rfl rfl rfl ?_ | refine wpL_loadH 5 hG rfl rfl (by decide) rfl rfl rfl rfl ?_ | (refine wpL_sliceH hG rfl rfl (by decide) rfl rfl rfl rfl rfl rfl rfl rfl ?_; intro id G hG) | refine wpL_gt rfl rfl rfl rfl rfl (by decide) (by first | rfl | exact decide_eq_true (by omega) | exact decide_eq_false (by omega) | exact ndec_t (by omega) | exact ndec_f (by omega)) ?_ | refine wpL_gf rfl rfl rfl rfl rfl (by decide) (by first | rfl | exact decide_eq_true (by omega) | exact decide_eq_false (by omega) | exact ndec_t (by omega) | exact ndec_f (by omega)) ?_ | refine wpA_ct rfl (by first | rfl | exact decide_eq_true (by omega) | exact ndec_t (by omega)) ?_ | refine wpA_cf rfl (by first | rfl | exact decide_eq_false (by omega) | exact ndec_f (by omega)) ?_ | refine wpA_skip ?_ | refine wpA_exit ?_ | refine wpA_ret ?_ | refine x_then_exit ?_ | refine x_then_ret ?_ | refine x_then_normal ?_ | refine x_block_ret ?_ | refine x_block_normal ?_ | refine x_block_exit ?_ | refine x_block_other rfl ?_ | refine wpL_v rfl rfl (by decide) (OpV_pick_t rfl rfl (ndec_t (by omega)) rfl) ?_ | refine wpL_v rfl rfl (by decide) (OpV_pick_f rfl rfl (ndec_f (by omega)) rfl) ?_)
  all_goals
    refine wpA_loopS (S := Nat) (fun i => [(1, S w), (5, .tr (words.map S) 15 1), (8, I n), (9, I e), (10, I i)]) (fun i _ => 1 ≤ i ∧ i ≤ 15 ∧ ∀ (j : Nat) (b' : ByteArray), 1 ≤ j → j < i → words[j]? = some b' → sEq b' w = false) (fun i => 15 - i) 1
      (.cons rfl (.cons rfl (.cons rfl (.cons rfl (.cons rfl (.nil _)))))) ⟨by omega, by omega, fun j b' h1 h2 => by omega⟩ ?_
    rintro i H ⟨hi1, hi, he⟩
    have hG := Has.nil H
    by_cases hil : i < 15
    · obtain ⟨b, hb⟩ : ∃ b, words[i]? = some b := ⟨_, List.getElem?_eq_getElem (by rw [words_len]; exact hil)⟩
      cases hq : sEq b w with
      | true =>
        have hxi : x = i := found_at hx hi1 hb hq he
        obtain ⟨hn1, he1⟩ := n1 (by omega)
        repeat (first | refine wpL_end ?_ | refine wpL_nil ?_ | refine wpA_seq ?_ | refine wpA_region ?_ | refine wpA_block ?_ | refine wpL_v rfl rfl (by decide) (OpV_indexAddr rfl rfl rfl rfl rfl (by omega)) ?_ | refine wpL_v rfl rfl (by decide) (OpV_load rfl rfl (by exact load_w hb _)) ?_ | refine wpL_v rfl rfl (by decide) (OpV.same (OpV_seq rfl rfl rfl) (congrArg (fun b => PV.v (.bool b)) hq)) ?_ | refine wpL_v rfl rfl (by decide) (OpV_cmp rfl rfl rfl (congrArg some (decide_eq_true (by omega)))) ?_ | refine wpL_v rfl rfl (by decide) (OpV_cmp rfl rfl rfl (congrArg some (decide_eq_false (by omega)))) ?_ | refine wpL_v rfl rfl (by decide) (OpV_cmp rfl rfl rfl (congrArg some (ndec_t (by omega)))) ?_ | refine wpL_v rfl rfl (by decide) (OpV_cmp rfl rfl rfl (congrArg some (ndec_f (by omega)))) ?_ | refine wpL_v rfl rfl (by decide) (OpV_move rfl rfl) ?_ | refine wpL_v rfl rfl (by decide) (OpV_assign rfl rfl) ?_ | refine wpL_v rfl rfl (by decide) (OpV_cmp rfl rfl rfl rfl) ?_ | refine wpL_v rfl rfl (by decide) (OpV_add rfl rfl rfl (by omega)) ?_ | refine wpL_v rfl rfl (by decide) (OpV_len rfl rfl rfl) ?_ | refine wpL_v rfl rfl (by decide) (OpV_load rfl rfl rfl) ?_ | refine wpL_v rfl rfl (by decide) (OpV_not rfl rfl) ?_ | refine wpL_v rfl rfl (by decide) (OpV_extract rfl rfl rfl) ?_ | refine wpL_v rfl rfl (by decide) (OpV_pick_t rfl rfl (by first | rfl | exact decide_eq_true (by omega)) rfl) ?_ | refine wpL_v rfl rfl (by decide) (OpV_pick_f rfl rfl (by first | rfl | exact decide_eq_false (by omega)) rfl) ?_ | refine wpL_v rfl rfl (by decide) (OpV_nilptr rfl rfl rfl) ?_ | refine wpL_v rfl rfl (by decide) (OpV_beq rfl rfl rfl) ?_ | refine wpL_v rfl rfl (by decide) (OpV_bne rfl rfl rfl) ?_ | refine wpL_loadH 0 hG rfl rfl (by decide) rfl rfl rfl rfl ?_ | refine wpL_loadH 1 hG rfl rfl (by decide) rfl rfl rfl rfl ?_ | refine wpL_loadH 2 hG rfl rfl (by decide) rfl rfl rfl rfl ?_ | refine wpL_loadH 3 hG rfl rfl (by decide) rfl rfl rfl rfl ?_ | refine wpL_loadH 4 hG rfl rfl (by decide) rfl rfl rfl rfl ?_ | refine wpL_loadH 5 hG rfl rfl (by decide) rfl rfl rfl rfl ?_ | (refine wpL_sliceH hG rfl rfl (by decide) rfl rfl rfl rfl rfl rfl rfl rfl ?_; intro id G hG) | refine wpL_gt rfl rfl rfl rfl rfl (by decide) (by first | rfl | exact decide_eq_true (by omega) | exact decide_eq_false (by omega) | exact ndec_t (by omega) | exact ndec_f (by omega)) ?_ | refine wpL_gf rfl rfl rfl rfl rfl (by decide) (by first | rfl | exact decide_eq_true (by omega) | exact decide_eq_false (by omega) | exact ndec_t (by omega) | exact ndec_f (by omega)) ?_ | refine wpA_ct rfl (by first | rfl | exact decide_eq_true (by omega) | exact ndec_t (by omega)) ?_ | refine wpA_cf rfl (by first | rfl | exact decide_eq_false (by omega) | exact ndec_f (by omega)) ?_ | refine wpA_skip ?_ | refine wpA_exit ?_ | refine wpA_ret ?_ | refine x_then_exit ?_ | refine x_then_ret ?_ | refine x_then_normal ?_ | refine x_block_ret ?_ | refine x_block_normal ?_ | refine x_block_exit ?_ | refine x_block_other rfl ?_ | refine wpL_v rfl rfl (by decide) (OpV_pick_t rfl rfl (ndec_t (by omega)) rfl) ?_ | refine wpL_v rfl rfl (by decide) (OpV_pick_f rfl rfl (ndec_f (by omega)) rfl) ?_)
        refine postI_1 rfl rfl (.refl _) (tree_B _) ?_
        rfl
      | false =>
        repeat (first | refine wpL_end ?_ | refine wpL_nil ?_ | refine wpA_seq ?_ | refine wpA_region ?_ | refine wpA_block ?_ | refine wpL_v rfl rfl (by decide) (OpV_indexAddr rfl rfl rfl rfl rfl (by omega)) ?_ | refine wpL_v rfl rfl (by decide) (OpV_load rfl rfl (by exact load_w hb _)) ?_ | refine wpL_v rfl rfl (by decide) (OpV.same (OpV_seq rfl rfl rfl) (congrArg (fun b => PV.v (.bool b)) hq)) ?_ | refine wpL_v rfl rfl (by decide) (OpV_cmp rfl rfl rfl (congrArg some (decide_eq_true (by omega)))) ?_ | refine wpL_v rfl rfl (by decide) (OpV_cmp rfl rfl rfl (congrArg some (decide_eq_false (by omega)))) ?_ | refine wpL_v rfl rfl (by decide) (OpV_cmp rfl rfl rfl (congrArg some (ndec_t (by omega)))) ?_ | refine wpL_v rfl rfl (by decide) (OpV_cmp rfl rfl rfl (congrArg some (ndec_f (by omega)))) ?_ | refine wpL_v rfl rfl (by decide) (OpV_move rfl rfl) ?_ | refine wpL_v rfl rfl (by decide) (OpV_assign rfl rfl) ?_ | refine wpL_v rfl rfl (by decide) (OpV_cmp rfl rfl rfl rfl) ?_ | refine wpL_v rfl rfl (by decide) (OpV_add rfl rfl rfl (by omega)) ?_ | refine wpL_v rfl rfl (by decide) (OpV_len rfl rfl rfl) ?_ | refine wpL_v rfl rfl (by decide) (OpV_load rfl rfl rfl) ?_ | refine wpL_v rfl rfl (by decide) (OpV_not rfl rfl) ?_ | refine wpL_v rfl rfl (by decide) (OpV_extract rfl rfl rfl) ?_ | refine wpL_v rfl rfl (by decide) (OpV_pick_t rfl rfl (by first | rfl | exact decide_eq_true (by omega)) rfl) ?_ | refine wpL_v rfl rfl (by decide) (OpV_pick_f rfl rfl (by first | rfl | exact decide_eq_false (by omega)) rfl) ?_ | refine wpL_v rfl rfl (by decide) (OpV_nilptr rfl rfl rfl) ?_ | refine wpL_v rfl rfl (by decide) (OpV_beq rfl rfl rfl) ?_ | refine wpL_v rfl rfl (by decide) (OpV_bne rfl rfl rfl) ?_ | refine wpL_loadH 0 hG rfl rfl (by decide) rfl rfl rfl rfl ?_ | refine wpL_loadH 1 hG rfl rfl (by decide) rfl rfl rfl rfl ?_ | refine wpL_loadH 2 hG rfl rfl (by decide) rfl rfl rfl rfl ?_ | refine wpL_loadH 3 hG rfl rfl (by decide) rfl rfl rfl rfl ?_ | refine wpL_loadH 4 hG rfl rfl (by decide) rfl rfl rfl rfl ?_ | refine wpL_loadH 5 hG rfl rfl (by decide) rfl rfl rfl rfl ?_ | (refine wpL_sliceH hG rfl rfl (by decide) rfl rfl rfl rfl rfl rfl rfl rfl ?_; intro id G hG) | refine wpL_gt rfl rfl rfl rfl rfl (by decide) (by first | rfl | exact decide_eq_true (by omega) | exact decide_eq_false (by omega) | exact ndec_t (by omega) | exact ndec_f (by omega)) ?_ | refine wpL_gf rfl rfl rfl rfl rfl (by decide) (by first | rfl | exact decide_eq_true (by omega) | exact decide_eq_false (by omega) | exact ndec_t (by omega) | exact ndec_f (by omega)) ?_ | refine wpA_ct rfl (by first | rfl | exact decide_eq_true (by omega) | exact ndec_t (by omega)) ?_ | refine wpA_cf rfl (by first | rfl | exact decide_eq_false (by omega) | exact ndec_f (by omega)) ?_ | refine wpA_skip ?_ | refine wpA_exit ?_ | refine wpA_ret ?_ | refine x_then_exit ?_ | refine x_then_ret ?_ | refine x_then_normal ?_ | refine x_block_ret ?_ | refine x_block_normal ?_ | refine x_block_exit ?_ | refine x_block_other rfl ?_ | refine wpL_v rfl rfl (by decide) (OpV_pick_t rfl rfl (ndec_t (by omega)) rfl) ?_ | refine wpL_v rfl rfl (by decide) (OpV_pick_f rfl rfl (ndec_f (by omega)) rfl) ?_)
        refine ⟨i + 1, by omega, .cons rfl (.cons rfl (.cons rfl (.cons rfl (.cons rfl (.nil _))))), by omega, by omega, fun j b' hj1 hj hjb => ?_⟩
        by_cases e : j = i
        · subst e; rw [hb] at hjb; cases hjb; exact hq
        · exact he j b' hj1 (by omega) hjb
    · have e15 : i = 15 := by omega
      subst e15
      obtain ⟨hn1, he1⟩ := n2 (found_no hx he)
      repeat (first | refine wpL_end ?_ | refine wpL_nil ?_ | refine wpA_seq ?_ | refine wpA_region ?_ | refine wpA_block ?_ | refine wpL_v rfl rfl (by decide) (OpV_cmp rfl rfl rfl (congrArg some (decide_eq_true (by omega)))) ?_ | refine wpL_v rfl rfl (by decide) (OpV_cmp rfl rfl rfl (congrArg some (decide_eq_false (by omega)))) ?_ | refine wpL_v rfl rfl (by decide) (OpV_cmp rfl rfl rfl (congrArg some (ndec_t (by omega)))) ?_ | refine wpL_v rfl rfl (by decide) (OpV_cmp rfl rfl rfl (congrArg some (ndec_f (by omega)))) ?_ | refine wpL_v rfl rfl (by decide) (OpV_move rfl rfl) ?_ | refine wpL_v rfl rfl (by decide) (OpV_assign rfl rfl) ?_ | refine wpL_v rfl rfl (by decide) (OpV_cmp rfl rfl rfl rfl) ?_ | refine wpL_v rfl rfl (by decide) (OpV_add rfl rfl rfl (by omega)) ?_ | refine wpL_v rfl rfl (by decide) (OpV_len rfl rfl rfl) ?_ | refine wpL_v rfl rfl (by decide) (OpV_load rfl rfl rfl) ?_ | refine wpL_v rfl rfl (by decide) (OpV_not rfl rfl) ?_ | refine wpL_v rfl rfl (by decide) (OpV_extract rfl rfl rfl) ?_ | refine wpL_v rfl rfl (by decide) (OpV_pick_t rfl rfl (by first | rfl | exact decide_eq_true (by omega)) rfl) ?_ | refine wpL_v rfl rfl (by decide) (OpV_pick_f rfl rfl (by first | rfl | exact decide_eq_false (by omega)) rfl) ?_ | refine wpL_v rfl rfl (by decide) (OpV_nilptr rfl rfl rfl) ?_ | refine wpL_v rfl rfl (by decide) (OpV_beq rfl rfl rfl) ?_ | refine wpL_v rfl rfl (by decide) (OpV_bne rfl rfl rfl) ?_ | refine wpL_loadH 0 hG rfl rfl (by decide) rfl rfl rfl rfl ?_ | refine wpL_loadH 1 hG rfl rfl (by decide) rfl rfl rfl rfl ?_ | refine wpL_loadH 2 hG rfl rfl (by decide) rfl rfl rfl rfl ?_ | refine wpL_loadH 3 hG rfl rfl (by decide) rfl rfl rfl rfl ?_ | refine wpL_loadH 4 hG rfl rfl (by decide) rfl rfl rfl rfl ?_ | refine wpL_loadH 5 hG rfl rfl (by decide) rfl rfl rfl rfl ?_ | (refine wpL_sliceH hG rfl rfl (by decide) rfl rfl rfl rfl rfl rfl rfl rfl ?_; intro id G hG) | refine wpL_gt rfl rfl rfl rfl rfl (by decide) (by first | rfl | exact decide_eq_true (by omega) | exact decide_eq_false (by omega) | exact ndec_t (by omega) | exact ndec_f (by omega)) ?_ | refine wpL_gf rfl rfl rfl rfl rfl (by decide) (by first | rfl | exact decide_eq_true (by omega) | exact decide_eq_false (by omega) | exact ndec_t (by omega) | exact ndec_f (by omega)) ?_ | refine wpA_ct rfl (by first | rfl | exact decide_eq_true (by omega) | exact ndec_t (by omega)) ?_ | refine wpA_cf rfl (by first | rfl | exact decide_eq_false (by omega) | exact ndec_f (by omega)) ?_ | refine wpA_skip ?_ | refine wpA_exit ?_ | refine wpA_ret ?_ | refine x_then_exit ?_ | refine x_then_ret ?_ | refine x_then_normal ?_ | refine x_block_ret ?_ | refine x_block_normal ?_ | refine x_block_exit ?_ | refine x_block_other rfl ?_ | refine wpL_v rfl rfl (by decide) (OpV_pick_t rfl rfl (ndec_t (by omega)) rfl) ?_ | refine wpL_v rfl rfl (by decide) (OpV_pick_f rfl rfl (ndec_f (by omega)) rfl) ?_)
      refine postI_1 rfl rfl (.refl _) (tree_B _) ?_
      rfl
end Go.Proofs.YtpmfnjkcoogicaaGreat
