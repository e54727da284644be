/- The table of keys; find, Default, Get, Value. -/
import Derived.Test.YtpkeceifnmmhcaaPaA
namespace Go.Proofs.Ytpkeceifnmmhcaa
open Go.RowKit Go.Th
set_option linter.unusedVariables false
set_option maxRecDepth 20000

def KeyR.num (k : KeyR) : List Int := [k.key, k.group, k.low, k.high, k.std]
def tableN : List (List Int) := [[1, 1, 0, 1073741824, 0], [2, 1, 0, 1, 0], [3, 1, 0, 1, 0], [4, 1, 0, 3, 0], [5, 1, 2, 1638, 22], [6, 1, 0, 16777215, 0], [7, 1, 0, 63, 0], [8, 1, 0, 255, 0], [9, 1, -400, 400, 0], [10, 1, 0, 1, 0], [20, 2, 0, 1073741824, 0], [21, 2, 0, 3, 0], [22, 2, -31680, 31680, 0], [23, 2, -31680, 31680, 0], [24, 2, -31680, 31680, 0], [25, 2, 0, 31680, 0], [26, 2, 0, 31680, 0], [27, 2, 0, 31680, 0], [28, 2, 0, 1, 0], [29, 2, 0, 1, 0], [30, 2, 0, 1, 1], [31, 2, 0, 1, 0], [32, 2, 0, 9, 0], [33, 2, 0, 1073741824, 0], [34, 2, 1, 9, 1], [35, 2, 0, 32767, 0], [36, 2, 1, 31680, 720], [37, 2, 0, 1, 0], [40, 3, 720, 31680, 12240], [41, 3, 720, 31680, 15840], [42, 3, 0, 31680, 1440], [43, 3, 0, 31680, 1440], [44, 3, 0, 31680, 1440], [45, 3, 0, 31680, 1440], [46, 3, 0, 32767, 0], [47, 3, 1, 6, 1], [50, 4, 0, 1, 0], [51, 4, 0, 1, 0], [52, 4, 0, 31680, 0], [60, 5, 1, 32, 1], [61, 5, 0, 2, 0], [62, 5, 0, 31680, 0], [63, 5, 0, 16777215, 16777215], [70, 6, 0, 31680, 0], [71, 6, 0, 2, 0]]
def tkeys : List Int := tableN.map (·.headD 0)
def findN (x : Int) : List Int := if srB tkeys x = true then tableN.getD (srI tkeys x) [] else [0, 0, 0, 0, 0]

def decK : List PV → List KeyR
  | .v (.int _ a) :: .v (.int _ b) :: .v (.int _ c) :: .v (.int _ d) :: .v (.int _ e) :: .v n :: r => ⟨a, b, c, d, e, n⟩ :: decK r
  | _ => []

theorem keys_of {C : List PV} (e : (decK C).flatMap encKey = C) (n : (decK C).length = 45) : PV.tr C 45 6 = keysP (decK C) := by simp only [keysP, e, n]
theorem keys_tree {C : List PV} (e : (decK C).flatMap encKey = C) (n : (decK C).length = 45) : Tree (PV.tr C 45 6) := by rw [keys_of e n]; exact tree_keys _

set_option maxHeartbeats 8000000 in
theorem table_iso : Iso Try.prog 72 [] (fun p => ∃ l : List KeyR, p = keysP l ∧ l.map KeyR.num = tableN ∧ ∀ k ∈ l, pvOne (.v k.name) = true) := by
  have hG := has_nil
  refine Iso_enter Try.func72 rfl rfl rfl ?_
  repeat (first | refine wpL_end ?_ | refine wpL_nil ?_ | refine wpA_seq ?_ | refine wpA_region ?_ | refine wpA_block ?_ | refine wpL_v rfl rfl (by decide) (OpV_assign rfl rfl) ?_ | refine wpL_v rfl rfl (by decide) (OpV_build rfl rfl rfl rfl) ?_ | (refine wpL_sliceH hG rfl rfl (by decide) rfl rfl rfl rfl rfl rfl rfl rfl ?_; intro id G hG) | refine wpA_ct rfl (by first | rfl | exact decide_eq_true (by omega) | exact ndec_t (by omega)) ?_ | refine wpA_cf rfl (by first | rfl | exact decide_eq_false (by omega) | exact ndec_f (by omega)) ?_ | refine wpA_skip ?_ | refine wpA_exit ?_ | refine wpA_ret ?_ | refine x_then_exit ?_ | refine x_then_ret ?_ | refine x_then_normal ?_ | refine x_block_ret ?_ | refine x_block_normal ?_ | refine x_block_exit ?_ | refine x_block_other rfl ?_)
  refine postI_1 rfl rfl (.own hG (k := 0) rfl rfl) ?_ ?_
  · exact keys_tree (by kernel_rfl) (by kernel_rfl)
  · exact ⟨decK _, keys_of (by kernel_rfl) (by kernel_rfl), by kernel_rfl, List.all_eq_true.1 (by kernel_rfl)⟩

theorem find_z (x : Int) (h : srB tkeys x = false) : findN x = [0, 0, 0, 0, 0] := by unfold findN; rw [h]; rfl
theorem find_t {l : List KeyR} (hl : l.map KeyR.num = tableN) (x : Int) (h : srB tkeys x = true) : ∃ k, l[srI tkeys x]? = some k ∧ k.num = findN x := by
  have hlen : l.length = tkeys.length := by rw [tkeys, ← hl]; simp
  have h1 : srI tkeys x < l.length := by
    simp only [srB, Bool.and_eq_true, decide_eq_true_eq] at h
    rw [hlen]; exact h.1
  refine ⟨l[srI tkeys x], List.getElem?_eq_getElem h1, ?_⟩
  unfold findN
  rw [if_pos h, ← hl]
  simp [h1]
theorem keys_num {l : List KeyR} (hl : l.map KeyR.num = tableN) : l.map KeyR.key = tkeys ∧ l.length = 45 := by
  constructor
  · rw [tkeys, ← hl, List.map_map]; rfl
  · have := congrArg List.length hl
    rw [List.length_map] at this
    rw [this]; rfl
theorem key_one {k : KeyR} (h : pvOne (.v k.name) = true) : (encKey k).all pvOne = true := by simp only [encKey, List.all_cons, List.all_nil, h]; rfl

set_option maxHeartbeats 8000000 in
theorem find_iso (x : Int) : Iso Try.prog 65 [I x] (fun p => ∃ k : KeyR, p = .tup [.agg (encKey k), B (srB tkeys x)] ∧ k.num = findN x ∧ pvOne (.v k.name) = true) := by
  have hG := has_nil
  refine Iso_enter Try.func65 rfl rfl rfl ?_
  repeat (first | refine wpL_end ?_ | refine wpL_nil ?_ | refine wpA_seq ?_ | refine wpA_region ?_ | refine wpA_block ?_ | (refine wpL_is rfl rfl rfl rfl rfl rfl (by decide) table_iso TreeL.nil ?_; rintro _ ⟨l, rfl, hl, hn⟩) | refine wpL_v rfl rfl (by decide) (OpV_move rfl rfl) ?_ | refine wpL_v rfl rfl (by decide) (OpV_assign rfl rfl) ?_ | refine wpL_v rfl rfl (by decide) (OpV_load rfl rfl rfl) ?_ | refine wpL_v rfl rfl (by decide) (OpV_not rfl rfl) ?_ | refine wpL_v rfl rfl (by decide) (OpV_extract rfl rfl rfl) ?_ | refine wpL_v rfl rfl (by decide) (OpV_build rfl rfl rfl rfl) ?_ | refine wpL_loadH 0 hG rfl rfl (by decide) rfl rfl rfl rfl ?_ | refine wpL_loadH 1 hG rfl rfl (by decide) rfl rfl rfl rfl ?_ | refine wpL_loadH 2 hG rfl rfl (by decide) rfl rfl rfl rfl ?_ | refine wpL_loadH 3 hG rfl rfl (by decide) rfl rfl rfl rfl ?_ | refine wpL_loadH 4 hG rfl rfl (by decide) rfl rfl rfl rfl ?_ | refine wpL_loadH 5 hG rfl rfl (by decide) rfl rfl rfl rfl ?_ | (refine wpL_storeH 0 hG rfl rfl rfl rfl rfl rfl rfl rfl rfl rfl rfl ?_; intro G hG) | (refine wpL_storeH 1 hG rfl rfl rfl rfl rfl rfl rfl rfl rfl rfl rfl ?_; intro G hG) | (refine wpL_storeH 2 hG rfl rfl rfl rfl rfl rfl rfl rfl rfl rfl rfl ?_; intro G hG) | (refine wpL_storeH 3 hG rfl rfl rfl rfl rfl rfl rfl rfl rfl rfl rfl ?_; intro G hG) | (refine wpL_storeH 4 hG rfl rfl rfl rfl rfl rfl rfl rfl rfl rfl rfl ?_; intro G hG) | (refine wpL_storeH 5 hG rfl rfl rfl rfl rfl rfl rfl rfl rfl rfl rfl ?_; intro G hG) | (refine wpL_allocH hG rfl rfl (by decide) rfl rfl ?_; intro id G hG) | refine wpA_ct rfl (by first | rfl | exact decide_eq_true (by omega) | exact ndec_t (by omega)) ?_ | refine wpA_cf rfl (by first | rfl | exact decide_eq_false (by omega) | exact ndec_f (by omega)) ?_ | refine wpA_skip ?_ | refine wpA_exit ?_ | refine wpA_ret ?_ | refine x_then_exit ?_ | refine x_then_ret ?_ | refine x_then_normal ?_ | refine x_block_ret ?_ | refine x_block_normal ?_ | refine x_block_exit ?_ | refine x_block_other rfl ?_)
  obtain ⟨k1, k2⟩ := keys_num hl
  have hS := searchKey_iso l x (by omega) hn
  rw [k1] at hS
  cases hb : srB tkeys x with
  | false =>
    rw [hb] at hS
    clear hl
    repeat (first | refine wpL_end ?_ | refine wpL_nil ?_ | refine wpA_seq ?_ | refine wpA_region ?_ | refine wpA_block ?_ | (refine wpL_is rfl rfl rfl rfl rfl rfl (by decide) hS (TreeL.cons (tree_keys _) (TreeL.cons (tree_I _) (TreeL.cons (Tree.fn trees_nil) TreeL.nil))) ?_; rintro _ rfl) | refine wpL_v rfl rfl (by decide) (OpV_move rfl rfl) ?_ | refine wpL_v rfl rfl (by decide) (OpV_assign rfl rfl) ?_ | refine wpL_v rfl rfl (by decide) (OpV_load rfl rfl rfl) ?_ | refine wpL_v rfl rfl (by decide) (OpV_not rfl rfl) ?_ | refine wpL_v rfl rfl (by decide) (OpV_extract rfl rfl rfl) ?_ | refine wpL_v rfl rfl (by decide) (OpV_build rfl rfl rfl rfl) ?_ | refine wpL_loadH 0 hG rfl rfl (by decide) rfl rfl rfl rfl ?_ | refine wpL_loadH 1 hG rfl rfl (by decide) rfl rfl rfl rfl ?_ | refine wpL_loadH 2 hG rfl rfl (by decide) rfl rfl rfl rfl ?_ | refine wpL_loadH 3 hG rfl rfl (by decide) rfl rfl rfl rfl ?_ | refine wpL_loadH 4 hG rfl rfl (by decide) rfl rfl rfl rfl ?_ | refine wpL_loadH 5 hG rfl rfl (by decide) rfl rfl rfl rfl ?_ | (refine wpL_storeH 0 hG rfl rfl rfl rfl rfl rfl rfl rfl rfl rfl rfl ?_; intro G hG) | (refine wpL_storeH 1 hG rfl rfl rfl rfl rfl rfl rfl rfl rfl rfl rfl ?_; intro G hG) | (refine wpL_storeH 2 hG rfl rfl rfl rfl rfl rfl rfl rfl rfl rfl rfl ?_; intro G hG) | (refine wpL_storeH 3 hG rfl rfl rfl rfl rfl rfl rfl rfl rfl rfl rfl ?_; intro G hG) | (refine wpL_storeH 4 hG rfl rfl rfl rfl rfl rfl rfl rfl rfl rfl rfl ?_; intro G hG) | (refine wpL_storeH 5 hG rfl rfl rfl rfl rfl rfl rfl rfl rfl rfl rfl ?_; intro G hG) | (refine wpL_allocH hG rfl rfl (by decide) rfl rfl ?_; intro id G hG) | refine wpA_ct rfl (by first | rfl | exact decide_eq_true (by omega) | exact ndec_t (by omega)) ?_ | refine wpA_cf rfl (by first | rfl | exact decide_eq_false (by omega) | exact ndec_f (by omega)) ?_ | refine wpA_skip ?_ | refine wpA_exit ?_ | refine wpA_ret ?_ | refine x_then_exit ?_ | refine x_then_ret ?_ | refine x_then_normal ?_ | refine x_block_ret ?_ | refine x_block_normal ?_ | refine x_block_exit ?_ | refine x_block_other rfl ?_)
    exact postI_c1 rfl rfl ((loadA_at (hG.get 0 _ _ rfl)).trans rfl) rfl (.refl _) (.refl _) (Tree.agg (tree_encKey ⟨0, 0, 0, 0, 0, .string .empty⟩)) (.v _) ⟨⟨0, 0, 0, 0, 0, .string .empty⟩, rfl, (find_z x hb).symm, rfl⟩
  | true =>
    obtain ⟨k, h1, h2⟩ := find_t hl x hb
    rw [hb] at hS
    have hk1 := hn k (List.mem_of_getElem? h1)
    have hone := key_one hk1
    have hlt : srI tkeys x < l.length := (List.getElem?_eq_some_iff.1 h1).1
    generalize srI tkeys x = i at hS h1 hlt
    have o1 : takeN 6 ((l.flatMap encKey).drop ((i : Int).toNat * 6)) = some (encKey k) := flat_at encKey_len l i k h1
    clear hl
    repeat (first | refine wpL_end ?_ | refine wpL_nil ?_ | refine wpA_seq ?_ | refine wpA_region ?_ | refine wpA_block ?_ | (refine wpL_is rfl rfl rfl rfl rfl rfl (by decide) hS (TreeL.cons (tree_keys _) (TreeL.cons (tree_I _) (TreeL.cons (Tree.fn trees_nil) TreeL.nil))) ?_; rintro _ rfl) | refine wpL_v rfl rfl (by decide) (OpV_index_tr (cells := l.flatMap encKey) rfl rfl rfl (by omega) (by exact o1)) ?_ | (refine wpL_storeH 0 hG rfl rfl rfl rfl rfl rfl rfl (by exact hone) rfl rfl rfl ?_; intro G hG) | refine wpL_v rfl rfl (by decide) (OpV_move rfl rfl) ?_ | refine wpL_v rfl rfl (by decide) (OpV_assign rfl rfl) ?_ | refine wpL_v rfl rfl (by decide) (OpV_load rfl rfl rfl) ?_ | refine wpL_v rfl rfl (by decide) (OpV_not rfl rfl) ?_ | refine wpL_v rfl rfl (by decide) (OpV_extract rfl rfl rfl) ?_ | refine wpL_v rfl rfl (by decide) (OpV_build rfl rfl rfl rfl) ?_ | refine wpL_loadH 0 hG rfl rfl (by decide) rfl rfl rfl rfl ?_ | refine wpL_loadH 1 hG rfl rfl (by decide) rfl rfl rfl rfl ?_ | refine wpL_loadH 2 hG rfl rfl (by decide) rfl rfl rfl rfl ?_ | refine wpL_loadH 3 hG rfl rfl (by decide) rfl rfl rfl rfl ?_ | refine wpL_loadH 4 hG rfl rfl (by decide) rfl rfl rfl rfl ?_ | refine wpL_loadH 5 hG rfl rfl (by decide) rfl rfl rfl rfl ?_ | (refine wpL_storeH 0 hG rfl rfl rfl rfl rfl rfl rfl rfl rfl rfl rfl ?_; intro G hG) | (refine wpL_storeH 1 hG rfl rfl rfl rfl rfl rfl rfl rfl rfl rfl rfl ?_; intro G hG) | (refine wpL_storeH 2 hG rfl rfl rfl rfl rfl rfl rfl rfl rfl rfl rfl ?_; intro G hG) | (refine wpL_storeH 3 hG rfl rfl rfl rfl rfl rfl rfl rfl rfl rfl rfl ?_; intro G hG) | (refine wpL_storeH 4 hG rfl rfl rfl rfl rfl rfl rfl rfl rfl rfl rfl ?_; intro G hG) | (refine wpL_storeH 5 hG rfl rfl rfl rfl rfl rfl rfl rfl rfl rfl rfl ?_; intro G hG) | (refine wpL_allocH hG rfl rfl (by decide) rfl rfl ?_; intro id G hG) | refine wpA_ct rfl (by first | rfl | exact decide_eq_true (by omega) | exact ndec_t (by omega)) ?_ | refine wpA_cf rfl (by first | rfl | exact decide_eq_false (by omega) | exact ndec_f (by omega)) ?_ | refine wpA_skip ?_ | refine wpA_exit ?_ | refine wpA_ret ?_ | refine x_then_exit ?_ | refine x_then_ret ?_ | refine x_then_normal ?_ | refine x_block_ret ?_ | refine x_block_normal ?_ | refine x_block_exit ?_ | refine x_block_other rfl ?_)
    exact postI_c1 rfl rfl ((loadA_at (hG.get 0 _ _ rfl)).trans rfl) rfl (.refl _) (.refl _) (Tree.agg (tree_encKey k)) (.v _) ⟨k, rfl, h2, hk1⟩

/-! ### Default, Get, Value -/

def defF (x : Int) : Int := (findN x).getD 4 0
def defE (x : Int) : Int := if srB tkeys x = true then 0 else 4

set_option maxHeartbeats 8000000 in
theorem Default_iso (x : Int) : Iso Try.prog 69 [I x] (fun p => p = .tup [I (if srB tkeys x = true then defF x else 0), I (defE x)]) := by
  have hG := has_nil
  have hf := find_iso x
  unfold defE
  refine Iso_enter Try.func69 rfl rfl rfl ?_
  cases hb : srB tkeys x with
  | false =>
    rw [hb] at hf
    repeat (first | refine wpL_end ?_ | refine wpL_nil ?_ | refine wpA_seq ?_ | refine wpA_region ?_ | refine wpA_block ?_ | (refine wpL_is rfl rfl rfl rfl rfl rfl (by decide) hf (TreeL.cons (tree_I _) TreeL.nil) ?_; rintro _ ⟨k, rfl, h2, hk1⟩; have hone := key_one hk1) | (refine wpL_storeH 0 hG rfl rfl rfl rfl rfl rfl rfl (by exact hone) rfl rfl rfl ?_; intro G hG) | refine wpL_v rfl rfl (by decide) (OpV_move rfl rfl) ?_ | refine wpL_v rfl rfl (by decide) (OpV_assign rfl rfl) ?_ | refine wpL_v rfl rfl (by decide) (OpV_fieldAddr rfl rfl rfl rfl) ?_ | refine wpL_v rfl rfl (by decide) (OpV_load rfl rfl rfl) ?_ | refine wpL_v rfl rfl (by decide) (OpV_not rfl rfl) ?_ | refine wpL_v rfl rfl (by decide) (OpV_extract rfl rfl rfl) ?_ | refine wpL_loadH 0 hG rfl rfl (by decide) rfl rfl rfl rfl ?_ | refine wpL_loadH 1 hG rfl rfl (by decide) rfl rfl rfl rfl ?_ | refine wpL_loadH 2 hG rfl rfl (by decide) rfl rfl rfl rfl ?_ | refine wpL_loadH 3 hG rfl rfl (by decide) rfl rfl rfl rfl ?_ | refine wpL_loadH 4 hG rfl rfl (by decide) rfl rfl rfl rfl ?_ | refine wpL_loadH 5 hG rfl rfl (by decide) rfl rfl rfl rfl ?_ | (refine wpL_storeH 0 hG rfl rfl rfl rfl rfl rfl rfl rfl rfl rfl rfl ?_; intro G hG) | (refine wpL_storeH 1 hG rfl rfl rfl rfl rfl rfl rfl rfl rfl rfl rfl ?_; intro G hG) | (refine wpL_storeH 2 hG rfl rfl rfl rfl rfl rfl rfl rfl rfl rfl rfl ?_; intro G hG) | (refine wpL_storeH 3 hG rfl rfl rfl rfl rfl rfl rfl rfl rfl rfl rfl ?_; intro G hG) | (refine wpL_storeH 4 hG rfl rfl rfl rfl rfl rfl rfl rfl rfl rfl rfl ?_; intro G hG) | (refine wpL_storeH 5 hG rfl rfl rfl rfl rfl rfl rfl rfl rfl rfl rfl ?_; intro G hG) | (refine wpL_allocH hG rfl rfl (by decide) rfl rfl ?_; intro id G hG) | refine wpA_ct rfl (by first | rfl | exact decide_eq_true (by omega) | exact ndec_t (by omega)) ?_ | refine wpA_cf rfl (by first | rfl | exact decide_eq_false (by omega) | exact ndec_f (by omega)) ?_ | refine wpA_skip ?_ | refine wpA_exit ?_ | refine wpA_ret ?_ | refine x_then_exit ?_ | refine x_then_ret ?_ | refine x_then_normal ?_ | refine x_block_ret ?_ | refine x_block_normal ?_ | refine x_block_exit ?_ | refine x_block_other rfl ?_)
    exact postI_2 rfl rfl rfl (.refl _) (.refl _) (.v _) (.v _) rfl
  | true =>
    rw [hb] at hf
    repeat (first | refine wpL_end ?_ | refine wpL_nil ?_ | refine wpA_seq ?_ | refine wpA_region ?_ | refine wpA_block ?_ | (refine wpL_is rfl rfl rfl rfl rfl rfl (by decide) hf (TreeL.cons (tree_I _) TreeL.nil) ?_; rintro _ ⟨k, rfl, h2, hk1⟩; have hone := key_one hk1) | (refine wpL_storeH 0 hG rfl rfl rfl rfl rfl rfl rfl (by exact hone) rfl rfl rfl ?_; intro G hG) | refine wpL_v rfl rfl (by decide) (OpV_move rfl rfl) ?_ | refine wpL_v rfl rfl (by decide) (OpV_assign rfl rfl) ?_ | refine wpL_v rfl rfl (by decide) (OpV_fieldAddr rfl rfl rfl rfl) ?_ | refine wpL_v rfl rfl (by decide) (OpV_load rfl rfl rfl) ?_ | refine wpL_v rfl rfl (by decide) (OpV_not rfl rfl) ?_ | refine wpL_v rfl rfl (by decide) (OpV_extract rfl rfl rfl) ?_ | refine wpL_loadH 0 hG rfl rfl (by decide) rfl rfl rfl rfl ?_ | refine wpL_loadH 1 hG rfl rfl (by decide) rfl rfl rfl rfl ?_ | refine wpL_loadH 2 hG rfl rfl (by decide) rfl rfl rfl rfl ?_ | refine wpL_loadH 3 hG rfl rfl (by decide) rfl rfl rfl rfl ?_ | refine wpL_loadH 4 hG rfl rfl (by decide) rfl rfl rfl rfl ?_ | refine wpL_loadH 5 hG rfl rfl (by decide) rfl rfl rfl rfl ?_ | (refine wpL_storeH 0 hG rfl rfl rfl rfl rfl rfl rfl rfl rfl rfl rfl ?_; intro G hG) | (refine wpL_storeH 1 hG rfl rfl rfl rfl rfl rfl rfl rfl rfl rfl rfl ?_; intro G hG) | (refine wpL_storeH 2 hG rfl rfl rfl rfl rfl rfl rfl rfl rfl rfl rfl ?_; intro G hG) | (refine wpL_storeH 3 hG rfl rfl rfl rfl rfl rfl rfl rfl rfl rfl rfl ?_; intro G hG) | (refine wpL_storeH 4 hG rfl rfl rfl rfl rfl rfl rfl rfl rfl rfl rfl ?_; intro G hG) | (refine wpL_storeH 5 hG rfl rfl rfl rfl rfl rfl rfl rfl rfl rfl rfl ?_; intro G hG) | (refine wpL_allocH hG rfl rfl (by decide) rfl rfl ?_; intro id G hG) | refine wpA_ct rfl (by first | rfl | exact decide_eq_true (by omega) | exact ndec_t (by omega)) ?_ | refine wpA_cf rfl (by first | rfl | exact decide_eq_false (by omega) | exact ndec_f (by omega)) ?_ | refine wpA_skip ?_ | refine wpA_exit ?_ | refine wpA_ret ?_ | refine x_then_exit ?_ | refine x_then_ret ?_ | refine x_then_normal ?_ | refine x_block_ret ?_ | refine x_block_normal ?_ | refine x_block_exit ?_ | refine x_block_other rfl ?_)
    have e : defF x = k.std := by unfold defF; rw [← h2]; rfl
    rw [e]
    exact postI_2 rfl rfl rfl (.refl _) (.refl _) (.v _) (.v _) rfl

theorem search_iso (l : List PropR) (x : Int) (hl : l.length ≤ 9223372036854775807) : Iso Try.prog 77 [propsP l, I x] (fun p => p = .tup [I (srI (l.map PropR.key) x), B (srB (l.map PropR.key) x)]) := by
  have hG := has_nil
  have hS := searchProp_iso l x hl
  refine Iso_enter Try.func77 rfl rfl rfl ?_
  repeat (first | refine wpL_end ?_ | refine wpL_nil ?_ | refine wpA_seq ?_ | refine wpA_region ?_ | refine wpA_block ?_ | (refine wpL_is rfl rfl rfl rfl rfl rfl (by decide) hS (TreeL.cons (tree_props _) (TreeL.cons (tree_I _) (TreeL.cons (Tree.fn trees_nil) TreeL.nil))) ?_; rintro _ rfl) | refine wpL_v rfl rfl (by decide) (OpV_move rfl rfl) ?_ | refine wpL_v rfl rfl (by decide) (OpV_assign rfl rfl) ?_ | refine wpL_v rfl rfl (by decide) (OpV_extract rfl rfl rfl) ?_ | refine wpA_ct rfl (by first | rfl | exact decide_eq_true (by omega) | exact ndec_t (by omega)) ?_ | refine wpA_cf rfl (by first | rfl | exact decide_eq_false (by omega) | exact ndec_f (by omega)) ?_ | refine wpA_skip ?_ | refine wpA_exit ?_ | refine wpA_ret ?_ | refine x_then_exit ?_ | refine x_then_ret ?_ | refine x_then_normal ?_ | refine x_block_ret ?_ | refine x_block_normal ?_ | refine x_block_exit ?_ | refine x_block_other rfl ?_)
  exact postI_2 rfl rfl rfl (.refl _) (.refl _) (.v _) (.v _) rfl

def getF (l : List PropR) (x : Int) : Int := if srB (l.map PropR.key) x = true then (l.getD (srI (l.map PropR.key) x) ⟨0, 0⟩).val else 0
theorem Get_iso (l : List PropR) (x : Int) (hl : l.length ≤ 9223372036854775807) : Iso Try.prog 68 [propsP l, I x] (fun p => p = .tup [I (getF l x), B (srB (l.map PropR.key) x)]) := by
  have hG := has_nil
  have hS := search_iso l x hl
  refine Iso_enter Try.func68 rfl rfl rfl ?_
  unfold getF
  cases hb : srB (l.map PropR.key) x with
  | false =>
    rw [hb] at hS
    repeat (first | refine wpL_end ?_ | refine wpL_nil ?_ | refine wpA_seq ?_ | refine wpA_region ?_ | refine wpA_block ?_ | (refine wpL_is rfl rfl rfl rfl rfl rfl (by decide) hS (TreeL.cons (tree_props _) (TreeL.cons (tree_I _) TreeL.nil)) ?_; rintro _ rfl) | refine wpL_v rfl rfl (by decide) (OpV_move rfl rfl) ?_ | refine wpL_v rfl rfl (by decide) (OpV_assign rfl rfl) ?_ | refine wpL_v rfl rfl (by decide) (OpV_fieldAddr rfl rfl rfl rfl) ?_ | refine wpL_v rfl rfl (by decide) (OpV_load rfl rfl rfl) ?_ | refine wpL_v rfl rfl (by decide) (OpV_not rfl rfl) ?_ | refine wpL_v rfl rfl (by decide) (OpV_extract rfl rfl rfl) ?_ | refine wpL_loadH 0 hG rfl rfl (by decide) rfl rfl rfl rfl ?_ | refine wpL_loadH 1 hG rfl rfl (by decide) rfl rfl rfl rfl ?_ | refine wpL_loadH 2 hG rfl rfl (by decide) rfl rfl rfl rfl ?_ | refine wpL_loadH 3 hG rfl rfl (by decide) rfl rfl rfl rfl ?_ | refine wpL_loadH 4 hG rfl rfl (by decide) rfl rfl rfl rfl ?_ | refine wpL_loadH 5 hG rfl rfl (by decide) rfl rfl rfl rfl ?_ | refine wpA_ct rfl (by first | rfl | exact decide_eq_true (by omega) | exact ndec_t (by omega)) ?_ | refine wpA_cf rfl (by first | rfl | exact decide_eq_false (by omega) | exact ndec_f (by omega)) ?_ | refine wpA_skip ?_ | refine wpA_exit ?_ | refine wpA_ret ?_ | refine x_then_exit ?_ | refine x_then_ret ?_ | refine x_then_normal ?_ | refine x_block_ret ?_ | refine x_block_normal ?_ | refine x_block_exit ?_ | refine x_block_other rfl ?_)
    exact postI_2 rfl rfl rfl (.refl _) (.refl _) (.v _) (.v _) rfl
  | true =>
    rw [hb] at hS
    have hlt : srI (l.map PropR.key) x < l.length := by
      simp only [srB, Bool.and_eq_true, decide_eq_true_eq, List.length_map] at hb
      exact hb.1
    generalize srI (l.map PropR.key) x = i at hS hlt
    obtain ⟨p, hp⟩ : ∃ p, l[i]? = some p := ⟨_, List.getElem?_eq_getElem hlt⟩
    have e : l.getD i ⟨0, 0⟩ = p := by simp [hp]
    rw [e]
    have o1 : takeN 2 ((l.flatMap encProp).drop ((i : Int).toNat * 2)) = some (encProp p) := flat_at encProp_len l i p hp
    repeat (first | refine wpL_end ?_ | refine wpL_nil ?_ | refine wpA_seq ?_ | refine wpA_region ?_ | refine wpA_block ?_ | (refine wpL_is rfl rfl rfl rfl rfl rfl (by decide) hS (TreeL.cons (tree_props _) (TreeL.cons (tree_I _) TreeL.nil)) ?_; rintro _ rfl) | refine wpL_v rfl rfl (by decide) (OpV_index_tr (cells := l.flatMap encProp) rfl rfl rfl (by omega) (by exact o1)) ?_ | refine wpL_v rfl rfl (by decide) (OpV_move rfl rfl) ?_ | refine wpL_v rfl rfl (by decide) (OpV_assign rfl rfl) ?_ | refine wpL_v rfl rfl (by decide) (OpV_fieldAddr rfl rfl rfl rfl) ?_ | refine wpL_v rfl rfl (by decide) (OpV_load rfl rfl rfl) ?_ | refine wpL_v rfl rfl (by decide) (OpV_not rfl rfl) ?_ | refine wpL_v rfl rfl (by decide) (OpV_extract rfl rfl rfl) ?_ | refine wpL_loadH 0 hG rfl rfl (by decide) rfl rfl rfl rfl ?_ | refine wpL_loadH 1 hG rfl rfl (by decide) rfl rfl rfl rfl ?_ | refine wpL_loadH 2 hG rfl rfl (by decide) rfl rfl rfl rfl ?_ | refine wpL_loadH 3 hG rfl rfl (by decide) rfl rfl rfl rfl ?_ | refine wpL_loadH 4 hG rfl rfl (by decide) rfl rfl rfl rfl ?_ | refine wpL_loadH 5 hG rfl rfl (by decide) rfl rfl rfl rfl ?_ | refine wpA_ct rfl (by first | rfl | exact decide_eq_true (by omega) | exact ndec_t (by omega)) ?_ | refine wpA_cf rfl (by first | rfl | exact decide_eq_false (by omega) | exact ndec_f (by omega)) ?_ | refine wpA_skip ?_ | refine wpA_exit ?_ | refine wpA_ret ?_ | refine x_then_exit ?_ | refine x_then_ret ?_ | refine x_then_normal ?_ | refine x_block_ret ?_ | refine x_block_normal ?_ | refine x_block_exit ?_ | refine x_block_other rfl ?_)
    exact postI_2 rfl rfl rfl (.refl _) (.refl _) (.v _) (.v _) rfl

def valF (l : List PropR) (x : Int) : Int := if srB (l.map PropR.key) x = true then getF l x else if srB tkeys x = true then defF x else 0
theorem Value_iso (l : List PropR) (x : Int) (hl : l.length ≤ 9223372036854775807) : Iso Try.prog 57 [propsP l, I x] (fun p => p = I (valF l x)) := by
  have hG := has_nil
  have hS := Get_iso l x hl
  have hD := Default_iso x
  unfold valF
  refine Iso_enter Try.func57 rfl rfl rfl ?_
  cases hb : srB (l.map PropR.key) x with
  | false =>
    rw [hb] at hS
    repeat (first | refine wpL_end ?_ | refine wpL_nil ?_ | refine wpA_seq ?_ | refine wpA_region ?_ | refine wpA_block ?_ | (refine wpL_is rfl rfl rfl rfl rfl rfl (by decide) hS (TreeL.cons (tree_props _) (TreeL.cons (tree_I _) TreeL.nil)) ?_; rintro _ rfl) | (refine wpL_is rfl rfl rfl rfl rfl rfl (by decide) hD (TreeL.cons (tree_I _) TreeL.nil) ?_; rintro _ rfl) | refine wpL_v rfl rfl (by decide) (OpV_move rfl rfl) ?_ | refine wpL_v rfl rfl (by decide) (OpV_assign rfl rfl) ?_ | refine wpL_v rfl rfl (by decide) (OpV_extract rfl rfl rfl) ?_ | refine wpA_ct rfl (by first | rfl | exact decide_eq_true (by omega) | exact ndec_t (by omega)) ?_ | refine wpA_cf rfl (by first | rfl | exact decide_eq_false (by omega) | exact ndec_f (by omega)) ?_ | refine wpA_skip ?_ | refine wpA_exit ?_ | refine wpA_ret ?_ | refine x_then_exit ?_ | refine x_then_ret ?_ | refine x_then_normal ?_ | refine x_block_ret ?_ | refine x_block_normal ?_ | refine x_block_exit ?_ | refine x_block_other rfl ?_)
    exact postI_1 rfl rfl (.refl _) (.v _) rfl
  | true =>
    rw [hb] at hS
    repeat (first | refine wpL_end ?_ | refine wpL_nil ?_ | refine wpA_seq ?_ | refine wpA_region ?_ | refine wpA_block ?_ | (refine wpL_is rfl rfl rfl rfl rfl rfl (by decide) hS (TreeL.cons (tree_props _) (TreeL.cons (tree_I _) TreeL.nil)) ?_; rintro _ rfl) | refine wpL_v rfl rfl (by decide) (OpV_move rfl rfl) ?_ | refine wpL_v rfl rfl (by decide) (OpV_assign rfl rfl) ?_ | refine wpL_v rfl rfl (by decide) (OpV_extract rfl rfl rfl) ?_ | refine wpA_ct rfl (by first | rfl | exact decide_eq_true (by omega) | exact ndec_t (by omega)) ?_ | refine wpA_cf rfl (by first | rfl | exact decide_eq_false (by omega) | exact ndec_f (by omega)) ?_ | refine wpA_skip ?_ | refine wpA_exit ?_ | refine wpA_ret ?_ | refine x_then_exit ?_ | refine x_then_ret ?_ | refine x_then_normal ?_ | refine x_block_ret ?_ | refine x_block_normal ?_ | refine x_block_exit ?_ | refine x_block_other rfl ?_)
    exact postI_1 rfl rfl (.refl _) (.v _) rfl
end Go.Proofs.Ytpkeceifnmmhcaa
