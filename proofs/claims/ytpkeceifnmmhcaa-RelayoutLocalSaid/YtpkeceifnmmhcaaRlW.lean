/- The breaks that Rebreak hands back are the breaks of the new pieces: plain lists, no program in sight. -/
import Derived.Test.YtpkeceifnmmhcaaRlJ
import Derived.Test.YtpkeceifnmmhcaaRlT
namespace Go.Proofs.Ytpkeceifnmmhcaa
open Go.Th
set_option linter.unusedVariables false
set_option maxRecDepth 20000

/-! ### Other pieces behind the reach do not change where the page ends -/

section
variable {l o : List Piece} {a n : Nat} {height : Int}
theorem tx_agree (hp : ∀ k, k ≤ n → pg o k = pg l k) (j : Nat) (hj : a + j ≤ n) : tx o a j = tx l a j ∧ nt o a j = nt l a j ∧ ft o a j = ft l a j := by
  induction j with
  | zero => simp only [tx, nt, ft, hp a (by omega), and_self]
  | succ j ih =>
    obtain ⟨h1, h2, h3⟩ := ih (by omega)
    simp only [tx, nt, ft, h1, h2, h3, hp (a + j) (by omega), hp (a + j + 1) (by omega), and_self]
theorem tot_agree (hp : ∀ k, k ≤ n → pg o k = pg l k) (j : Nat) (hj : a + j ≤ n) : tot o a height j = tot l a height j := by
  obtain ⟨h1, h2, h3⟩ := tx_agree hp j hj
  simp only [tot, h1, h2, h3, hp a (by omega)]
theorem back_agree (hp : ∀ k, k ≤ n → pg o k = pg l k) (i k : Nat) (hk : k ≤ n) : backG o a i k = backG l a i k := by
  induction k with
  | zero => rfl
  | succ k ih => simp only [backG, hp (k + 1) hk, ih (by omega)]
theorem reachG_ge (l : List Piece) (a : Nat) (height : Int) (c i : Nat) : i ≤ reachG l a height c i := by
  induction c generalizing i with
  | zero => exact Nat.le_refl _
  | succ c ih =>
    rw [reachG]
    split
    · exact Nat.le_refl _
    · have := ih (i + 1); omega
theorem fill_agree' (hp : ∀ k, k ≤ n → pg o k = pg l k) (hl : n < l.length) (ho : n < o.length) (d i : Nat) (hd : i + d = n) (hi : a < i) (hr : reachG l a height (l.length - i) i = n) :
    fillG l a height (l.length - i) i = fillG o a height (o.length - i) i := by
  induction d generalizing i with
  | zero =>
    obtain rfl : i = n := by omega
    obtain ⟨c, hc⟩ : ∃ c, l.length - i = c + 1 := ⟨l.length - i - 1, by omega⟩
    obtain ⟨c', hc'⟩ : ∃ c, o.length - i = c + 1 := ⟨o.length - i - 1, by omega⟩
    rw [hc, reachG] at hr
    rw [hc, hc', fillG, fillG, hp i (by omega), tot_agree hp (i - a) (by omega), back_agree hp i i (by omega)]
    by_cases hF : (pg l i).force = true
    · rw [if_pos hF, if_pos hF]
    · by_cases hT : tot l a height (i - a) ≤ height
      · rw [if_neg (by intro hh; rcases hh with hh | hh; exact hF hh; omega)] at hr
        have := reachG_ge l a height c (i + 1)
        omega
      · rw [if_neg hF, if_neg hF, if_neg hT, if_neg hT]
  | succ d ih =>
    obtain ⟨c, hc⟩ : ∃ c, l.length - i = c + 1 := ⟨l.length - i - 1, by omega⟩
    obtain ⟨c', hc'⟩ : ∃ c, o.length - i = c + 1 := ⟨o.length - i - 1, by omega⟩
    have e1 : l.length - (i + 1) = c := by omega
    have e2 : o.length - (i + 1) = c' := by omega
    have ih := ih (i + 1) (by omega) (by omega)
    rw [e1, e2] at ih
    rw [hc, reachG] at hr
    rw [hc, hc', fillG, fillG, hp i (by omega), tot_agree hp (i - a) (by omega), back_agree hp i i (by omega)]
    by_cases hF : (pg l i).force = true
    · rw [if_pos hF, if_pos hF]
    · by_cases hT : tot l a height (i - a) ≤ height
      · rw [if_neg (by intro hh; rcases hh with hh | hh; exact hF hh; omega)] at hr
        rw [if_neg hF, if_neg hF, if_pos hT, if_pos hT]
        exact ih hr
      · rw [if_neg hF, if_neg hF, if_neg hT, if_neg hT]
end

theorem reachF_gt (l : List Piece) (a : Nat) (height : Int) : a < reachF l a height := reachG_ge l a height _ _
theorem reachG_le (l : List Piece) (a : Nat) (height : Int) (c i : Nat) : reachG l a height c i ≤ i + c := by
  induction c generalizing i with
  | zero => exact Nat.le_refl _
  | succ c ih =>
    rw [reachG]
    split
    · omega
    · have := ih (i + 1); omega
theorem reachF_le (l : List Piece) (a : Nat) (height : Int) (ha : a < l.length) : reachF l a height ≤ l.length := by
  have := reachG_le l a height (l.length - (a + 1)) (a + 1)
  simp only [reachF]; omega
theorem fill_agree (l b : List Piece) (a : Nat) (height : Int) (hr : reachF l a height < l.length) : fillF l a height = fillF (sub l 0 (reachF l a height + 1) ++ b) a height := by
  have h0 := reachF_gt l a height
  have e : (sub l 0 (reachF l a height + 1)).length = reachF l a height + 1 := by simp only [sub, List.length_take, List.length_drop]; omega
  refine fill_agree' (n := reachF l a height) (fun k hk => ?_) hr (by rw [List.length_append, e]; omega) (reachF l a height - (a + 1)) (a + 1) (by omega) (by omega) rfl
  simp only [pg, List.getD_eq_getElem?_getD]
  rw [List.getElem?_append_left (by omega)]
  simp only [sub, List.drop_zero, Nat.sub_zero, List.getElem?_take]
  rw [if_pos (by omega)]

/-! ### The list of breaks -/

theorem brk_none {l : List Piece} {height : Int} {n i : Nat} (h : l.length ≤ i) : brk l height n i = [] := by
  cases n with
  | zero => rfl
  | succ n => rw [brk, if_neg (by omega)]
theorem brk_fuel (l : List Piece) (height : Int) (n m i : Nat) (hn : l.length ≤ i + n) (hm : l.length ≤ i + m) : brk l height n i = brk l height m i := by
  induction n generalizing m i with
  | zero => rw [brk_none (by omega), brk_none (by omega)]
  | succ n ih =>
    by_cases h : i < l.length
    · obtain ⟨m, rfl⟩ : ∃ k, m = k + 1 := ⟨m - 1, by omega⟩
      have := fillF_gt l i height
      rw [brk, brk, if_pos h, if_pos h, ih m (fillF l i height) (by omega) (by omega)]
    · rw [brk_none (by omega), brk_none (by omega)]
/-- The breaks from a piece on. -/
def bF (l : List Piece) (height : Int) (i : Nat) : List Nat := brk l height l.length i
theorem bF_step {l : List Piece} {height : Int} {i : Nat} (h : i < l.length) : bF l height i = i :: bF l height (fillF l i height) := by
  obtain ⟨n, hn⟩ : ∃ n, l.length = n + 1 := ⟨l.length - 1, by omega⟩
  have := fillF_gt l i height
  unfold bF
  conv => lhs; rw [hn, brk, if_pos h]
  rw [brk_fuel l height n l.length (fillF l i height) (by omega) (by omega)]
theorem bF_end {l : List Piece} {height : Int} {i : Nat} (h : l.length ≤ i) : bF l height i = [] := brk_none h
theorem bN_bF (l : List Piece) (height : Int) : bN l height = bF l height 0 := rfl

theorem bF_drop (l : List Piece) (height : Int) (k i : Nat) (h : k < (bF l height i).length) : (bF l height i).drop k = bF l height ((bF l height i).getD k 0) := by
  induction k generalizing i with
  | zero =>
    by_cases hi : i < l.length
    · rw [bF_step hi, List.drop_zero]
      have : (i :: bF l height (fillF l i height)).getD 0 0 = i := rfl
      rw [this, bF_step hi]
    · rw [bF_end (by omega)] at h; simp at h
  | succ k ih =>
    by_cases hi : i < l.length
    · rw [bF_step hi] at h ⊢
      rw [List.drop_succ_cons, ih (fillF l i height) (by simpa using h)]
      rfl
    · rw [bF_end (by omega)] at h; simp at h

theorem brk_ge (l : List Piece) (height : Int) (n i : Nat) : ∀ x ∈ brk l height n i, i ≤ x := by
  induction n generalizing i with
  | zero => intro x hx; simp [brk] at hx
  | succ n ih =>
    intro x hx
    rw [brk] at hx
    split at hx
    · rcases List.mem_cons.1 hx with rfl | hx
      · exact Nat.le_refl _
      · have := ih _ x hx
        have := fillF_gt l i height
        omega
    · simp at hx
theorem brk_sorted (l : List Piece) (height : Int) (n i : Nat) : (brk l height n i).Pairwise (· < ·) := by
  induction n generalizing i with
  | zero => exact .nil
  | succ n ih =>
    rw [brk]
    split
    · refine .cons (fun x hx => ?_) (ih _)
      have := brk_ge l height n _ x hx
      have := fillF_gt l i height
      omega
    · exact .nil

/-! ### The same pieces further on -/

section
variable {l o : List Piece} {a c : Nat} {height : Int}
theorem tx_shift (hs : ∀ j, pg l (a + j) = pg o (c + j)) (j : Nat) : tx l a j = tx o c j ∧ nt l a j = nt o c j ∧ ft l a j = ft o c j := by
  induction j with
  | zero =>
    have h0 := hs 0
    simp only [Nat.add_zero] at h0
    simp only [tx, nt, ft, h0, and_self]
  | succ j ih =>
    obtain ⟨h1, h2, h3⟩ := ih
    have h4 := hs j
    have h5 : pg l (a + j + 1) = pg o (c + j + 1) := hs (j + 1)
    simp only [tx, nt, ft, h1, h2, h3, h4, h5, and_self]
theorem tot_shift (hs : ∀ j, pg l (a + j) = pg o (c + j)) (j : Nat) : tot l a height j = tot o c height j := by
  obtain ⟨h1, h2, h3⟩ := tx_shift hs j
  have h0 := hs 0
  simp only [Nat.add_zero] at h0
  simp only [tot, h0, h1, h2, h3]
theorem back_shift (hs : ∀ j, pg l (a + j) = pg o (c + j)) (x y j : Nat) (hxy : x + c = y + a) : backG l a x (a + j) + c = backG o c y (c + j) + a := by
  induction j with
  | zero => rw [backG_le l a x (by omega), backG_le o c y (by omega)]; exact hxy
  | succ j ih =>
    have h5 : pg l (a + j + 1) = pg o (c + j + 1) := hs (j + 1)
    show backG l a x (a + j + 1) + c = backG o c y (c + j + 1) + a
    have e1 : backG l a x (a + j + 1) = if (pg l (a + j + 1)).kept then backG l a x (a + j) else a + j + 1 := by rw [backG, if_pos (by omega)]
    have e2 : backG o c y (c + j + 1) = if (pg o (c + j + 1)).kept then backG o c y (c + j) else c + j + 1 := by rw [backG, if_pos (by omega)]
    rw [e1, e2, h5]
    split
    · exact ih
    · omega
theorem fillG_shift (hs : ∀ j, pg l (a + j) = pg o (c + j)) (n i : Nat) : fillG l a height n (a + i) + c = fillG o c height n (c + i) + a := by
  induction n generalizing i with
  | zero => simp only [fillG]; omega
  | succ n ih =>
    rw [fillG, fillG, hs i, show a + i - a = i by omega, show c + i - c = i by omega, tot_shift hs i]
    split
    · omega
    · split
      · exact ih (i + 1)
      · exact back_shift hs (a + i) (c + i) i (by omega)
theorem fillF_shift (hs : ∀ j, pg l (a + j) = pg o (c + j)) (hl : l.length + c = o.length + a) : fillF l a height + c = fillF o c height + a := by
  have := fillG_shift (height := height) hs (l.length - (a + 1)) 1
  unfold fillF
  rw [show o.length - (c + 1) = l.length - (a + 1) by omega]
  exact this
end

theorem brk_shift (l o : List Piece) (height : Int) (n a c : Nat) (d : Int) (hd : (c : Int) = a + d) (hs : ∀ j, pg l (a + j) = pg o (c + j)) (hl : l.length + c = o.length + a) :
    (brk l height n a).map (fun x : Nat => (x : Int) + d) = (brk o height n c).map Int.ofNat := by
  induction n generalizing a c with
  | zero => rfl
  | succ n ih =>
    rw [brk, brk]
    by_cases h : a < l.length
    · rw [if_pos h, if_pos (by omega)]
      have h1 := fillF_shift (height := height) hs hl
      have h2 := fillF_gt l a height
      have h3 := fillF_gt o c height
      generalize fillF l a height = x at h1 h2
      generalize fillF o c height = y at h1 h3
      obtain ⟨s, rfl⟩ : ∃ s, x = a + s := ⟨x - a, by omega⟩
      obtain rfl : y = c + s := by omega
      rw [List.map_cons, List.map_cons, ih (a + s) (c + s) (by omega) (fun j => by rw [Nat.add_assoc, Nat.add_assoc]; exact hs (s + j)) (by omega), ← hd]
      rfl
    · rw [if_neg h, if_neg (by omega)]; rfl

/-! ### What is common -/

theorem preN_spec (l m : List Piece) (n p : Nat) (h : ∀ i, i < p → pg l i = pg m i) : ∀ i, i < preN l m n p → pg l i = pg m i := by
  induction n generalizing p with
  | zero => exact h
  | succ n ih =>
    rw [preN]
    split
    · rename_i hc
      refine ih (p + 1) (fun i hi => ?_)
      by_cases e : i = p
      · subst e; exact (eqP_iff _ _).1 hc.2.2
      · exact h i (by omega)
    · exact h
theorem preL_spec (l m : List Piece) : ∀ i, i < preL l m → pg l i = pg m i := preN_spec l m _ 0 (fun i hi => by omega)
theorem sufN_spec (l m : List Piece) (p n q : Nat) (h : ∀ i, i < q → pg l (l.length - 1 - i) = pg m (m.length - 1 - i)) : ∀ i, i < sufN l m p n q → pg l (l.length - 1 - i) = pg m (m.length - 1 - i) := by
  induction n generalizing q with
  | zero => exact h
  | succ n ih =>
    rw [sufN]
    split
    · rename_i hc
      refine ih (q + 1) (fun i hi => ?_)
      by_cases e : i = q
      · subst e; exact (eqP_iff _ _).1 hc.2.2
      · exact h i (by omega)
    · exact h
theorem sufL_spec (l m : List Piece) : ∀ i, i < sufL l m → pg l (l.length - 1 - i) = pg m (m.length - 1 - i) := sufN_spec l m _ _ 0 (fun i hi => by omega)
theorem sufL_le (l m : List Piece) : sufL l m ≤ l.length ∧ sufL l m ≤ m.length := by
  have := preL_le l m
  have := sufN_le l m (preL l m) l.length 0 (by omega) (by omega)
  unfold sufL; omega
theorem pg_out {l : List Piece} {i : Nat} (h : l.length ≤ i) : pg l i = nilP := by
  simp only [pg, List.getD_eq_getElem?_getD, List.getElem?_eq_none h, Option.getD_none]
theorem suf_shift (old new : List Piece) (x m : Nat) (hx : new.length ≤ x + sufL old new) (hm : x + old.length = m + new.length) : ∀ j, pg old (m + j) = pg new (x + j) := fun j => by
  have hq := sufL_le old new
  by_cases h : x + j < new.length
  · have := sufL_spec old new (new.length - 1 - (x + j)) (by omega)
    rw [show old.length - 1 - (new.length - 1 - (x + j)) = m + j by omega, show new.length - 1 - (new.length - 1 - (x + j)) = x + j by omega] at this
    exact this
  · rw [pg_out (by omega), pg_out (by omega)]
theorem list_same {l m : List Piece} (hl : l.length = m.length) (h : ∀ i, i < l.length → pg l i = pg m i) : l = m := by
  apply List.ext_getElem? fun i => ?_
  by_cases hi : i < l.length
  · rw [pg_some hi, pg_some (by omega), h i hi]
  · rw [List.getElem?_eq_none (by omega), List.getElem?_eq_none (by omega)]

/-! ### The breaks that are kept -/

theorem outK_take {b : List Nat} (h0 : b.getD 0 0 = 0) {i : Nat} (h1 : 1 ≤ i) (h2 : i ≤ b.length ∨ i = 1) : outK b i = b.take (i - 1) ++ [b.getD (i - 1) 0] := by
  obtain ⟨i, rfl⟩ : ∃ k, i = k + 1 := ⟨i - 1, by omega⟩
  induction i with
  | zero => simp only [outK, Nat.zero_add, Nat.sub_self, List.take_zero, h0, List.nil_append]
  | succ i ih =>
    have hb : i + 1 < b.length := by omega
    rw [outK_succ (by omega) hb, ih (by omega) (by omega)]
    simp only [Nat.add_sub_cancel, List.take_add_one]
    simp [show i < b.length by omega]

theorem keep_pre (old new : List Piece) (height : Int) (n i : Nat) (h1 : 1 ≤ i) (h2 : i ≤ (bN old height).length ∨ i = 1)
    (h3 : (bN old height).getD (i - 1) 0 < new.length) (h : bN new height = (bN old height).take (i - 1) ++ bF new height ((bN old height).getD (i - 1) 0)) :
    ∃ k, (bN old height).getD (k - 1) 0 < new.length ∧ k = keepG old height (bN old height) (preL old new) n i ∧ i ≤ k ∧ (k ≤ (bN old height).length ∨ k = 1) ∧ bN new height = (bN old height).take (k - 1) ++ bF new height ((bN old height).getD (k - 1) 0) := by
  induction n generalizing i with
  | zero => exact ⟨i, h3, rfl, Nat.le_refl _, h2, h⟩
  | succ n ih =>
    rw [keepG]
    by_cases hc : i < (bN old height).length ∧ reachF old ((bN old height).getD (i - 1) 0) height < preL old new
    · rw [if_pos hc]
      obtain ⟨b1, b2⟩ := bN_at old height (show i - 1 < (bN old height).length by omega)
      have b2 := b2 (by omega)
      rw [show i - 1 + 1 = i by omega] at b2
      obtain ⟨p1, p2⟩ := preL_le old new
      have hg := reachF_gt old ((bN old height).getD (i - 1) 0) height
      have hag := fill_agree' (l := old) (o := new) (a := (bN old height).getD (i - 1) 0) (n := reachF old ((bN old height).getD (i - 1) 0) height) (height := height) (fun k hk => (preL_spec old new k (by omega)).symm) (by omega) (by omega)
        (reachF old ((bN old height).getD (i - 1) 0) height - ((bN old height).getD (i - 1) 0 + 1)) ((bN old height).getD (i - 1) 0 + 1) (by omega) (by omega) rfl
      have hag : fillF old ((bN old height).getD (i - 1) 0) height = fillF new ((bN old height).getD (i - 1) 0) height := hag
      have hfr := fillF_reachF old ((bN old height).getD (i - 1) 0) height
      obtain ⟨k, k0, k1, k2, k3, k4⟩ := ih (i + 1) (by omega) (by omega) (by rw [Nat.add_sub_cancel, b2]; omega) (by
        have et : (bN old height).take i = (bN old height).take (i - 1) ++ [(bN old height).getD (i - 1) 0] := by
          obtain ⟨i', rfl⟩ : ∃ k, i = k + 1 := ⟨i - 1, by omega⟩
          rw [Nat.add_sub_cancel, List.take_add_one]
          simp [show i' < (bN old height).length by omega]
        rw [Nat.add_sub_cancel, b2, hag, et, List.append_assoc, List.singleton_append, ← bF_step h3]
        exact h)
      exact ⟨k, k0, k1, by omega, k3, k4⟩
    · rw [if_neg hc]
      exact ⟨i, h3, rfl, Nat.le_refl _, h2, h⟩

/-! ### The pages that are filled anew -/

theorem rebG_breaks (old new : List Piece) (height : Int) (n : Nat) (out : List Nat) (last c : Nat) (h1 : last < new.length) (h2 : new.length ≤ last + n) (h : bN new height = out ++ bF new height last) :
    (rebG new height (breaksL old height) ((new.length : Int) - old.length) (sufL old new) n ((out ++ [last]).map Int.ofNat) last c).1 = breaksL new height := by
  have eb : breaksL new height = (bN new height).map Int.ofNat := rfl
  induction n generalizing out last c with
  | zero => omega
  | succ n ih =>
    have f1 := fillF_gt new last height
    rw [bF_step h1] at h
    rw [rebG]
    generalize hF : fillF new last height = F at *
    by_cases c1 : new.length ≤ F
    · rw [if_pos c1]
      rw [bF_end c1] at h
      rw [eb, h]
    · rw [if_neg c1]
      by_cases c2 : new.length - sufL old new ≤ F ∧ bsB (breaksL old height) ((F : Int) - ((new.length : Int) - old.length)) = true
      · rw [if_pos c2]
        obtain ⟨d1, d2⟩ := c2
        simp only [bsB, Bool.and_eq_true, decide_eq_true_eq] at d2
        obtain ⟨d2, d3⟩ := d2
        generalize bsI (breaksL old height) ((F : Int) - ((new.length : Int) - old.length)) = k at d2 d3 ⊢
        have hk : k < (bN old height).length := by rw [← bL_len]; exact d2
        have hat := bL_at old height hk
        have hm : ((bN old height).getD k 0 : Int) = (F : Int) - ((new.length : Int) - old.length) := by
          rw [← d3]
          simp [List.getD_eq_getElem?_getD, hat]
        have hdr := bF_drop old height k 0 hk
        rw [← bN_bF] at hdr
        obtain ⟨m, em⟩ : ∃ m, m = (bN old height).getD k 0 := ⟨_, rfl⟩
        rw [← em] at hm hdr
        have hml : m < old.length := by rw [em]; exact (bN_at old height hk).1
        have hsh := brk_shift old new height (old.length + new.length) m F ((new.length : Int) - old.length) (by omega) (suf_shift old new F m (by omega) (by omega)) (by omega)
        rw [brk_fuel old height _ old.length m (by omega) (by omega), brk_fuel new height _ new.length F (by omega) (by omega)] at hsh
        have hsh : (bF old height m).map (fun x : Nat => (x : Int) + ((new.length : Int) - old.length)) = (bF new height F).map Int.ofNat := hsh
        have hd2 : (breaksL old height).drop (k + 1) = ((bN old height).drop (k + 1)).map Int.ofNat := by rw [List.map_drop]; rfl
        have hd3 : (bN old height).drop (k + 1) = bF old height (fillF old m height) := by
          rw [← List.tail_drop, hdr, bF_step hml]; rfl
        rw [bF_step hml, List.map_cons] at hsh
        rw [eb, h, hd2, hd3]
        simp only [List.map_append, List.map_cons, List.map_nil, List.append_assoc, List.cons_append, List.nil_append, List.map_map] at hsh ⊢
        rw [← hsh, show (m : Int) + ((new.length : Int) - old.length) = (F : Int) by omega]
        rfl
      · rw [if_neg c2]
        have := ih (out ++ [last]) F (c + 1) (by omega) (by omega) (by rw [h]; simp)
        rw [← this, List.map_append (l₁ := out ++ [last])]
        rfl

theorem rebF_breaks (old new : List Piece) (height : Int) : (rebF old new height).1 = breaksL new height := by
  obtain ⟨p1, p2⟩ := preL_le old new
  unfold rebF
  by_cases c1 : preL old new = old.length ∧ preL old new = new.length
  · rw [if_pos c1]
    have : old = new := list_same (by omega) (fun i hi => preL_spec old new i (by omega))
    rw [this]
  · rw [if_neg c1]
    by_cases c2 : new.length = 0
    · rw [if_pos c2]
      have : breaksL new height = (bF new height 0).map Int.ofNat := rfl
      rw [this, bF_end (by omega)]; rfl
    · rw [if_neg c2]
      obtain ⟨k, k0, k1, k2, k3, k4⟩ := keep_pre old new height (bN old height).length 1 (by omega) (.inr rfl) (by rw [Nat.sub_self, bN_zero]; omega) (by rw [Nat.sub_self, bN_zero]; rfl)
      have ek : keepN old height (preL old new) = k := k1.symm
      have e0 : kept0 old height (preL old new) = outK (bN old height) k := by rw [← ek]; rfl
      rw [e0, outK_take (bN_zero old height) k2 k3]
      have hlast : ((bN old height).take (k - 1) ++ [(bN old height).getD (k - 1) 0]).getLastD 0 = (bN old height).getD (k - 1) 0 := by simp
      rw [hlast]
      refine rebG_breaks old new height new.length _ _ 0 k0 (by omega) k4
end Go.Proofs.Ytpkeceifnmmhcaa
