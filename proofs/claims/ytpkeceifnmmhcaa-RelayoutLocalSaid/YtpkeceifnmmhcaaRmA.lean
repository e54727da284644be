/- One piece of another height: how many pages are kept, how many are filled. Plain lists, no program in sight. -/
import Derived.Test.YtpkeceifnmmhcaaRlW
namespace Go.Proofs.Ytpkeceifnmmhcaa
open Go.Th
set_option linter.unusedVariables false
set_option maxRecDepth 20000

theorem preN_at (l m : List Piece) (k n p : Nat) (h1 : p ≤ k) (h2 : k ≤ p + n) (h3 : k ≤ l.length) (h4 : k ≤ m.length) (hs : ∀ i, i < k → pg l i = pg m i)
    (hk : ¬ (k < l.length ∧ k < m.length ∧ eqP (pg l k) (pg m k) = true)) : preN l m n p = k := by
  induction n generalizing p with
  | zero => rw [preN]; omega
  | succ n ih =>
    rw [preN]
    by_cases e : p = k
    · subst e; rw [if_neg hk]
    · rw [if_pos ⟨by omega, by omega, (eqP_iff _ _).2 (hs p (by omega))⟩]
      exact ih (p + 1) (by omega) (by omega)
theorem preL_at (l m : List Piece) (k : Nat) (h3 : k ≤ l.length) (h4 : k ≤ m.length) (hs : ∀ i, i < k → pg l i = pg m i)
    (hk : ¬ (k < l.length ∧ k < m.length ∧ eqP (pg l k) (pg m k) = true)) : preL l m = k := preN_at l m k l.length 0 (by omega) (by omega) h3 h4 hs hk
theorem preL_same (l : List Piece) : preL l l = l.length := preL_at l l l.length (by omega) (by omega) (fun i hi => rfl) (by omega)
theorem rebF_same (l : List Piece) (height : Int) : rebF l l height = (breaksL l height, 0) := by
  unfold rebF; rw [preL_same, if_pos ⟨rfl, rfl⟩]

/-- The list with another height at one place. -/
def setH (l : List Piece) (k : Nat) (v : Int) : List Piece := l.set k { pg l k with height := v }
theorem setH_len (l : List Piece) (k : Nat) (v : Int) : (setH l k v).length = l.length := by simp [setH]
theorem setH_pg (l : List Piece) (k : Nat) (v : Int) (hk : k < l.length) (i : Nat) : pg (setH l k v) i = if i = k then { pg l k with height := v } else pg l i := by
  simp only [setH]
  generalize hp : ({ pg l k with height := v } : Piece) = p
  simp only [pg, List.getD_eq_getElem?_getD, List.getElem?_set]
  by_cases e : i = k
  · subst e; simp [hk]
  · simp [e, show ¬ k = i from fun h => e h.symm]
theorem setH_pre (l : List Piece) (k : Nat) (v : Int) (hk : k < l.length) (hv : v ≠ (pg l k).height) : preL l (setH l k v) = k := by
  refine preL_at l _ k (by omega) (by rw [setH_len]; omega) (fun i hi => by rw [setH_pg l k v hk, if_neg (by omega)]) (fun h => ?_)
  have := (eqP_iff _ _).1 h.2.2
  rw [setH_pg l k v hk, if_pos rfl] at this
  exact hv (by rw [this])
theorem setH_ok {l : List Piece} (h : allOk l) (k : Nat) (v : Int) (hk : k < l.length) (hv : small v) : allOk (setH l k v) := by
  refine ⟨by rw [setH_len]; exact h.1, fun p hp => ?_⟩
  rcases List.mem_or_eq_of_mem_set hp with hp | rfl
  · exact h.2 p hp
  · have := ok_pg h hk
    exact ⟨this.flow, this.block, this.part, this.fr, this.tt, hv, this.before, this.after, this.rep, this.feet, this.foot⟩

/-! ### The number of the pages that are filled -/

theorem rebG_count (new : List Piece) (height : Int) (b : List Int) (moved : Int) (q n : Nat) (out : List Nat) (last c base : Nat) (h1 : last < new.length) (h2 : new.length ≤ last + n) (h : out.length = base + c) :
    (rebG new height b moved q n ((out ++ [last]).map Int.ofNat) last c).2 + base ≤ (rebG new height b moved q n ((out ++ [last]).map Int.ofNat) last c).1.length := by
  induction n generalizing out last c with
  | zero => omega
  | succ n ih =>
    have f1 := fillF_gt new last height
    rw [rebG]
    generalize fillF new last height = F at f1 ⊢
    by_cases c1 : new.length ≤ F
    · rw [if_pos c1]
      simp only [List.length_map, List.length_append, List.length_cons, List.length_nil]; omega
    · rw [if_neg c1]
      by_cases c2 : new.length - q ≤ F ∧ bsB b ((F : Int) - moved) = true
      · rw [if_pos c2]
        simp only [List.length_map, List.length_append, List.length_cons, List.length_nil]; omega
      · rw [if_neg c2]
        have := ih (out ++ [last]) F (c + 1) (by omega) (by omega) (by simp only [List.length_append, List.length_cons, List.length_nil]; omega)
        rw [List.map_append (l₁ := out ++ [last])] at this
        exact this

theorem keepG_at (old : List Piece) (height : Int) (b : List Nat) (p c n i : Nat) (h1 : 1 ≤ i) (h2 : i ≤ c + 1) (h3 : c + 1 ≤ b.length) (h4 : c + 1 ≤ i + n)
    (hs : ∀ j, j < c → reachF old (b.getD j 0) height < p) (hc : ¬ reachF old (b.getD c 0) height < p) : keepG old height b p n i = c + 1 := by
  induction n generalizing i with
  | zero => rw [keepG]; omega
  | succ n ih =>
    rw [keepG]
    by_cases e : i = c + 1
    · subst e; rw [if_neg (fun h => hc h.2)]
    · rw [if_pos ⟨by omega, hs (i - 1) (by omega)⟩]
      exact ih (i + 1) (by omega) (by omega) (by omega)

/-- The last page reaches to the end. -/
theorem last_reach (l : List Piece) (height : Int) (hl : 0 < l.length) : 0 < (bN l height).length ∧ l.length ≤ reachF l ((bN l height).getD ((bN l height).length - 1) 0) height := by
  have h0 : 0 < (bN l height).length := by rw [bN_bF, bF_step hl]; simp
  refine ⟨h0, ?_⟩
  have e : endsN l height = bN l height ++ [l.length] := rfl
  have h1 := (endsN_pairs l height).2 ((bN l height).length - 1) ((bN l height).getD ((bN l height).length - 1) 0) l.length
    (by rw [e, List.getElem?_append_left (by omega), List.getD_eq_getElem?_getD, List.getElem?_eq_getElem (by omega)]; rfl) (by rw [e, show (bN l height).length - 1 + 1 = (bN l height).length by omega]; simp)
  have := fillF_reachF l ((bN l height).getD ((bN l height).length - 1) 0) height
  omega

theorem local_law (l : List Piece) (height : Int) (k c : Nat) (v : Int) (hk : k < l.length) (hv : v ≠ (pg l k).height) (h1 : c ≤ (bN l height).length)
    (hs : ∀ j, j < c → reachF l ((bN l height).getD j 0) height < k) (hc : c < (bN l height).length → ¬ reachF l ((bN l height).getD c 0) height < k) :
    c < (bN l height).length ∧ c < (bN (setH l k v) height).length ∧ (rebF l (setH l k v) height).2 + c ≤ (bN (setH l k v) height).length ∧ (breaksL (setH l k v) height).take (c + 1) = (breaksL l height).take (c + 1) := by
  obtain ⟨g1, g2⟩ := last_reach l height (by omega)
  have hcl : c < (bN l height).length := by
    by_cases e : c = (bN l height).length
    · have := hs ((bN l height).length - 1) (by omega); omega
    · omega
  have hc := hc hcl
  have hp := setH_pre l k v hk hv
  have hlen := setH_len l k v
  have hkn : keepG l height (bN l height) (preL l (setH l k v)) (bN l height).length 1 = c + 1 := by
    rw [hp]; exact keepG_at l height _ k c _ 1 (by omega) (by omega) (by omega) (by omega) hs hc
  obtain ⟨kk, k0, k1, k2, k3, k4⟩ := keep_pre l (setH l k v) height (bN l height).length 1 (by omega) (.inr rfl) (by rw [Nat.sub_self, bN_zero]; omega) (by rw [Nat.sub_self, bN_zero]; rfl)
  rw [hkn] at k1
  subst k1
  rw [Nat.add_sub_cancel] at k0 k4
  have hbt : (bN l height).take (c + 1) = (bN l height).take c ++ [(bN l height).getD c 0] := by
    rw [List.take_add_one]; simp [hcl]
  rw [bF_step k0] at k4
  have hlc : ((bN l height).take c).length = c := by simp only [List.length_take]; omega
  have hlt : c < (bN (setH l k v) height).length := by rw [k4, List.length_append, hlc, List.length_cons]; omega
  have htk : (bN (setH l k v) height).take (c + 1) = (bN l height).take (c + 1) := by
    rw [hbt, k4, List.take_append, hlc, List.take_of_length_le (by omega), show c + 1 - c = 1 by omega]; rfl
  refine ⟨hcl, hlt, ?_, ?_⟩
  · have hb := rebF_breaks l (setH l k v) height
    have bl := bL_len (setH l k v) height
    rw [← bl, ← hb]
    unfold rebF
    rw [if_neg (by rw [hp]; omega), if_neg (by omega)]
    have ek : keepN l height (preL l (setH l k v)) = c + 1 := hkn
    have e0 : kept0 l height (preL l (setH l k v)) = outK (bN l height) (c + 1) := by rw [← ek]; rfl
    rw [e0, outK_take (bN_zero l height) (by omega) (.inl (by omega)), Nat.add_sub_cancel]
    have hlast : ((bN l height).take c ++ [(bN l height).getD c 0]).getLastD 0 = (bN l height).getD c 0 := by simp
    rw [hlast]
    exact rebG_count _ height _ _ _ _ _ _ 0 c k0 (by omega) (by omega)
  · have e1 : breaksL (setH l k v) height = (bN (setH l k v) height).map Int.ofNat := rfl
    have e2 : breaksL l height = (bN l height).map Int.ofNat := rfl
    rw [e1, e2, ← List.map_take, ← List.map_take, htk]
end Go.Proofs.Ytpkeceifnmmhcaa
