/- Filling a page, as a law of lists; the walk of fill and Fill. -/
import Derived.Test.YtnenmpeejjeopaaGreatDoorPgB
namespace Go.Proofs.YtnenmpeejjeopaaGreatDoor
open Go.Th
set_option linter.unusedVariables false
set_option maxRecDepth 20000

def nilP : Piece := ⟨0, 0, 0, 0, 0, 0, 0, 0, 0, [], false, false⟩
def pg (l : List Piece) (i : Nat) : Piece := l.getD i nilP

theorem pg_some {l : List Piece} {i : Nat} (h : i < l.length) : l[i]? = some (pg l i) := by
  simp [pg, h]

/-- The text of the pieces a, …, a + j: its height, the height of its feet, their number. -/
def tx (l : List Piece) (a : Nat) : Nat → Int
  | 0 => (pg l a).height
  | j + 1 => tx l a j + ((pg l (a + j)).after + (pg l (a + j + 1)).before) + (pg l (a + j + 1)).height
def nt (l : List Piece) (a : Nat) : Nat → Int
  | 0 => sumFeet (pg l a).feet
  | j + 1 => nt l a j + sumFeet (pg l (a + j + 1)).feet
def ft (l : List Piece) (a : Nat) : Nat → Nat
  | 0 => (pg l a).feet.length
  | j + 1 => ft l a j + (pg l (a + j + 1)).feet.length
def tot (l : List Piece) (a : Nat) (height : Int) (j : Nat) : Int := fillH (repOf (pg l a) height) (tx l a j) (nt l a j) (ft l a j)

/-- The piece before which a page is cut that overflows with piece i. -/
def backG (l : List Piece) (a i : Nat) : Nat → Nat
  | 0 => i
  | k + 1 => if a < k + 1 then (if (pg l (k + 1)).kept then backG l a i k else k + 1) else i
def fillG (l : List Piece) (a : Nat) (height : Int) : Nat → Nat → Nat
  | 0, i => i
  | n + 1, i => if (pg l i).force then i else if tot l a height (i - a) ≤ height then fillG l a height n (i + 1) else backG l a i i
def fillF (l : List Piece) (a : Nat) (height : Int) : Nat := fillG l a height (l.length - (a + 1)) (a + 1)

def allOk (l : List Piece) : Prop := l.length ≤ 120 ∧ ∀ p ∈ l, p.ok

theorem ok_pg {l : List Piece} (h : allOk l) {i : Nat} (hi : i < l.length) : (pg l i).ok := h.2 _ (List.mem_of_getElem? (pg_some hi))

theorem sums_le {l : List Piece} (h : allOk l) (a j : Nat) (hj : a + j < l.length) :
    (0 ≤ tx l a j ∧ tx l a j ≤ 4000000000 * (j + 1)) ∧ (0 ≤ nt l a j ∧ nt l a j ≤ 5368709120 * (j + 1)) ∧ ft l a j ≤ 5 * (j + 1) := by
  induction j with
  | zero =>
    have hp := ok_pg h (show a < l.length by omega)
    have h1 := hp.height
    have h2 := sumFeet_take_le _ (pg l a).feet.length hp.foot hp.feet
    have h3 := hp.feet
    rw [List.take_length] at h2
    simp only [small] at h1
    simp only [tx, nt, ft]
    omega
  | succ j ih =>
    have ih := ih (by omega)
    have hp := ok_pg h (show a + j + 1 < l.length by omega)
    have hq := (ok_pg h (show a + j < l.length by omega)).after
    have h1 := hp.height
    have h4 := hp.before
    have h2 := sumFeet_take_le _ (pg l (a + j + 1)).feet.length hp.foot hp.feet
    have h3 := hp.feet
    rw [List.take_length] at h2
    simp only [small] at h1 h4 hq
    simp only [tx, nt, ft]
    omega

theorem repOf_small {p : Piece} (h : p.ok) (height : Int) : small (repOf p height) := by
  have := h.rep
  unfold repOf
  split
  · simp [small]
  · exact this

theorem backG_le (l : List Piece) (a i : Nat) {k : Nat} (h : k ≤ a) : backG l a i k = i := by
  cases k with
  | zero => rfl
  | succ k => simp only [backG]; rw [if_neg (by omega)]

set_option maxHeartbeats 2000000 in
theorem fill_iso (l : List Piece) (a : Nat) (height : Int) (hl : allOk l) (ha : a < l.length) :
    Iso Tryz.prog 58 [pcs l, I a, I height] (fun p => p = I (fillF l a height)) := by
  have hlen := hl.1
  refine Iso_enter Tryz.func58 rfl rfl rfl ?_
  have hb := begin_ac [] (pg l a) height (ok_pg hl ha)
  repeat (first | refine wpL_end ?_ | refine wpL_nil ?_ | refine wpA_seq ?_ | refine wpA_region ?_ | refine wpA_block ?_ | refine wpL_v rfl rfl (by decide) (OpV_index_tr rfl rfl rfl (by omega) (pcs_spot (pg_some ha))) ?_ | refine wpL_ac rfl rfl rfl rfl rfl rfl (by decide) hb ?_ | refine wpL_v rfl rfl (by decide) (OpV_move rfl rfl) ?_ | refine wpL_v rfl rfl (by decide) (OpV_assign rfl rfl) ?_ | refine wpL_v rfl rfl (by decide) (OpV_cmp rfl rfl rfl rfl) ?_ | refine wpL_v rfl rfl (by decide) (OpV_add rfl rfl rfl (by omega)) ?_ | refine wpL_v rfl rfl (by decide) (OpV_sub rfl rfl rfl (by omega)) ?_ | refine wpL_v rfl rfl (by decide) (OpV_len rfl rfl rfl) ?_ | refine wpL_v rfl rfl (by decide) (OpV_fieldAddr rfl rfl rfl rfl) ?_ | refine wpL_v rfl rfl (by decide) (OpV_load rfl rfl rfl) ?_ | refine wpL_v rfl rfl (by decide) (OpV_load_at rfl rfl (get_new _ _) rfl) ?_ | refine wpL_v rfl rfl (by decide) (OpV_not rfl rfl) ?_ | refine wpA_ct rfl (by first | rfl | exact decide_eq_true (by omega)) ?_ | refine wpA_cf rfl (by first | rfl | exact decide_eq_false (by omega)) ?_ | refine wpA_skip ?_ | refine wpA_exit ?_ | refine wpA_ret ?_ | refine x_then_exit ?_ | refine x_then_ret ?_ | refine x_then_normal ?_ | refine x_block_ret ?_ | refine x_block_normal ?_ | refine x_block_exit ?_ | refine x_block_other rfl ?_)
  rintro _ G1 ⟨id, rfl, h1, h2, h3⟩
  repeat (first | refine wpL_end ?_ | refine wpL_nil ?_ | refine wpA_seq ?_ | refine wpA_region ?_ | refine wpA_block ?_ | refine wpL_v rfl rfl (by decide) (OpV_move rfl rfl) ?_ | refine wpL_v rfl rfl (by decide) (OpV_assign rfl rfl) ?_ | refine wpL_v rfl rfl (by decide) (OpV_cmp rfl rfl rfl rfl) ?_ | refine wpL_v rfl rfl (by decide) (OpV_add rfl rfl rfl (by omega)) ?_ | refine wpL_v rfl rfl (by decide) (OpV_sub rfl rfl rfl (by omega)) ?_ | refine wpL_v rfl rfl (by decide) (OpV_len rfl rfl rfl) ?_ | refine wpL_v rfl rfl (by decide) (OpV_fieldAddr rfl rfl rfl rfl) ?_ | refine wpL_v rfl rfl (by decide) (OpV_load rfl rfl rfl) ?_ | refine wpL_v rfl rfl (by decide) (OpV_load_at rfl rfl (get_new _ _) rfl) ?_ | refine wpL_v rfl rfl (by decide) (OpV_not rfl rfl) ?_ | refine wpA_ct rfl (by first | rfl | exact decide_eq_true (by omega)) ?_ | refine wpA_cf rfl (by first | rfl | exact decide_eq_false (by omega)) ?_ | refine wpA_skip ?_ | refine wpA_exit ?_ | refine wpA_ret ?_ | refine x_then_exit ?_ | refine x_then_ret ?_ | refine x_then_normal ?_ | refine x_block_ret ?_ | refine x_block_normal ?_ | refine x_block_exit ?_ | refine x_block_other rfl ?_)
  refine wpA_loopS (S := Nat) (fun j => [(0, pcs l), (1, I a), (2, I height), (7, .ptr id 0), (8, I ((a + j + 1 : Nat) : Int))])
    (fun j G => a + j < l.length ∧ G[id]? = some (some (filler (repOf (pg l a) height) (tx l a j) (nt l a j) (ft l a j))) ∧ fillG l a height (l.length - (a + j + 1)) (a + j + 1) = fillF l a height) (fun j => l.length - j) 0
    (.cons rfl (.cons rfl (.cons rfl (.cons rfl (.cons rfl (.nil _)))))) ⟨by omega, h2, rfl⟩ ?_
  rintro j G ⟨j1, j2, j3⟩
  by_cases hi : a + j + 1 < l.length
  · have hlt : id < G.length := lt_of_get j2
    have hpi := pcs_spot (pg_some hi)
    have hpj : takeN 12 ((l.flatMap encPiece).drop ((((a + j + 1 : Nat) : Int) - 1).toNat * 12)) = some (encPiece (pg l (a + j))) := by
      rw [show (((a + j + 1 : Nat) : Int) - 1).toNat = a + j from by omega]
      exact pcs_spot (pg_some j1)
    have hs := sums_le hl a j j1
    have hs2 := sums_le hl a (j + 1) hi
    have hrep := repOf_small (ok_pg hl ha) height
    have hadd := add_ac G id (repOf (pg l a) height) (tx l a j) (nt l a j) (ft l a j) ((pg l (a + j)).after + (pg l (a + j + 1)).before) (pg l (a + j + 1)) (.ept (encPiece (pg l (a + j))) 0) j2 (ok_pg hl hi)
      (.inr ⟨_, ok_pg hl j1, rfl, rfl⟩) (by omega) (by omega) (by omega)
    have en : l.length - (a + j + 1) = (l.length - (a + (j + 1) + 1)) + 1 := by omega
    have e1 : filler (repOf (pg l a) height) (tx l a j + ((pg l (a + j)).after + (pg l (a + j + 1)).before) + (pg l (a + j + 1)).height) (nt l a j + sumFeet (pg l (a + j + 1)).feet) (ft l a j + (pg l (a + j + 1)).feet.length) = filler (repOf (pg l a) height) (tx l a (j + 1)) (nt l a (j + 1)) (ft l a (j + 1)) := by
      simp only [tx, nt, ft, Int.natCast_add]
    rw [e1] at hadd
    rw [en, fillG] at j3
    have eia : a + j + 1 - a = j + 1 := by omega
    rw [eia] at j3
    cases hF : (pg l (a + j + 1)).force with
    | true =>
      rw [if_pos hF] at j3
      repeat (first | refine wpL_end ?_ | refine wpL_nil ?_ | refine wpA_seq ?_ | refine wpA_region ?_ | refine wpA_block ?_ | refine wpL_v rfl rfl (by decide) (OpV_index_tr rfl rfl rfl (by omega) hpi) ?_ | refine wpA_ct rfl hF ?_ | refine wpL_v rfl rfl (by decide) (OpV_move rfl rfl) ?_ | refine wpL_v rfl rfl (by decide) (OpV_assign rfl rfl) ?_ | refine wpL_v rfl rfl (by decide) (OpV_cmp rfl rfl rfl rfl) ?_ | refine wpL_v rfl rfl (by decide) (OpV_add rfl rfl rfl (by omega)) ?_ | refine wpL_v rfl rfl (by decide) (OpV_sub rfl rfl rfl (by omega)) ?_ | refine wpL_v rfl rfl (by decide) (OpV_len rfl rfl rfl) ?_ | refine wpL_v rfl rfl (by decide) (OpV_fieldAddr rfl rfl rfl rfl) ?_ | refine wpL_v rfl rfl (by decide) (OpV_load rfl rfl rfl) ?_ | refine wpL_v rfl rfl (by decide) (OpV_load_at rfl rfl (get_new _ _) rfl) ?_ | refine wpL_v rfl rfl (by decide) (OpV_not rfl rfl) ?_ | refine wpA_ct rfl (by first | rfl | exact decide_eq_true (by omega)) ?_ | refine wpA_cf rfl (by first | rfl | exact decide_eq_false (by omega)) ?_ | refine wpA_skip ?_ | refine wpA_exit ?_ | refine wpA_ret ?_ | refine x_then_exit ?_ | refine x_then_ret ?_ | refine x_then_normal ?_ | refine x_block_ret ?_ | refine x_block_normal ?_ | refine x_block_exit ?_ | refine x_block_other rfl ?_)
      exact postI_1 rfl rfl (.refl _) (.v _) (by rw [← j3])
    | false =>
      rw [if_neg (by rw [hF]; exact Bool.false_ne_true)] at j3
      repeat (first | refine wpL_end ?_ | refine wpL_nil ?_ | refine wpA_seq ?_ | refine wpA_region ?_ | refine wpA_block ?_ | refine wpL_v rfl rfl (by decide) (OpV_index_tr rfl rfl rfl (by omega) hpi) ?_ | refine wpA_cf rfl hF ?_ | refine wpL_v rfl rfl (by decide) (OpV_move rfl rfl) ?_ | refine wpL_v rfl rfl (by decide) (OpV_assign rfl rfl) ?_ | refine wpL_v rfl rfl (by decide) (OpV_cmp rfl rfl rfl rfl) ?_ | refine wpL_v rfl rfl (by decide) (OpV_add rfl rfl rfl (by omega)) ?_ | refine wpL_v rfl rfl (by decide) (OpV_sub rfl rfl rfl (by omega)) ?_ | refine wpL_v rfl rfl (by decide) (OpV_len rfl rfl rfl) ?_ | refine wpL_v rfl rfl (by decide) (OpV_fieldAddr rfl rfl rfl rfl) ?_ | refine wpL_v rfl rfl (by decide) (OpV_load rfl rfl rfl) ?_ | refine wpL_v rfl rfl (by decide) (OpV_load_at rfl rfl (get_new _ _) rfl) ?_ | refine wpL_v rfl rfl (by decide) (OpV_not rfl rfl) ?_ | refine wpA_ct rfl (by first | rfl | exact decide_eq_true (by omega)) ?_ | refine wpA_cf rfl (by first | rfl | exact decide_eq_false (by omega)) ?_ | refine wpA_skip ?_ | refine wpA_exit ?_ | refine wpA_ret ?_ | refine x_then_exit ?_ | refine x_then_ret ?_ | refine x_then_normal ?_ | refine x_block_ret ?_ | refine x_block_normal ?_ | refine x_block_exit ?_ | refine x_block_other rfl ?_)
      refine wpA_dL [AH G id (pg l (a + j + 1)) (pg l (a + j + 1)).feet.length (filler (repOf (pg l a) height) (tx l a (j + 1)) (nt l a (j + 1)) (ft l a (j + 1)))] (AH G id (pg l (a + j + 1)) (pg l (a + j + 1)).feet.length (filler (repOf (pg l a) height) (tx l a (j + 1)) (nt l a (j + 1)) (ft l a (j + 1)))) mixed (by decide +kernel) (N := 1) (by decide +kernel) rfl ?_
      repeat (first | refine D_v rfl rfl rfl (by decide) (fun _ => OpV_index_tr rfl rfl rfl (by omega) hpi) ?_ | refine D_v rfl rfl rfl (by decide) (fun _ => OpV_index_tr rfl rfl rfl (by omega) hpj) ?_ | refine D_v rfl rfl rfl (by decide) (fun _ => OpV_load rfl rfl rfl) ?_ | refine D_c 0 (by decide +kernel) rfl rfl rfl rfl (by decide) (AC.K rfl rfl rfl rfl hadd) rfl ?_ | refine D_v rfl rfl rfl (by decide) (fun _ => OpV_move rfl rfl) ?_ | refine D_v rfl rfl rfl (by decide) (fun _ => OpV_assign rfl rfl) ?_ | refine D_v rfl rfl rfl (by decide) (fun _ => OpV_cmp rfl rfl rfl rfl) ?_ | refine D_v rfl rfl rfl (by decide) (fun _ => OpV_add rfl rfl rfl (by omega)) ?_ | refine D_v rfl rfl rfl (by decide) (fun _ => OpV_sub rfl rfl rfl (by omega)) ?_ | refine D_v rfl rfl rfl (by decide) (fun _ => OpV_len rfl rfl rfl) ?_ | refine D_v rfl rfl rfl (by decide) (fun _ => OpV_fieldAddr rfl rfl rfl rfl) ?_ | refine D_v rfl rfl rfl (by decide) (fun _ => OpV_not rfl rfl) ?_ | refine D_end ?_)
      have h4 : (AH G id (pg l (a + j + 1)) (pg l (a + j + 1)).feet.length (filler (repOf (pg l a) height) (tx l a (j + 1)) (nt l a (j + 1)) (ft l a (j + 1))))[id]? = some (some (filler (repOf (pg l a) height) (tx l a (j + 1)) (nt l a (j + 1)) (ft l a (j + 1)))) := AH_get hlt
      generalize AH G id (pg l (a + j + 1)) (pg l (a + j + 1)).feet.length (filler (repOf (pg l a) height) (tx l a (j + 1)) (nt l a (j + 1)) (ft l a (j + 1))) = G2 at h4
      have hh := height_ac G2 id _ _ _ _ h4 hrep (by omega) (by omega) (by omega)
      repeat (first | refine wpL_end ?_ | refine wpL_nil ?_ | refine wpA_seq ?_ | refine wpA_region ?_ | refine wpA_block ?_ | refine wpL_ac rfl rfl rfl rfl rfl rfl (by decide) hh ?_ | refine wpL_v rfl rfl (by decide) (OpV_move rfl rfl) ?_ | refine wpL_v rfl rfl (by decide) (OpV_assign rfl rfl) ?_ | refine wpL_v rfl rfl (by decide) (OpV_cmp rfl rfl rfl rfl) ?_ | refine wpL_v rfl rfl (by decide) (OpV_add rfl rfl rfl (by omega)) ?_ | refine wpL_v rfl rfl (by decide) (OpV_sub rfl rfl rfl (by omega)) ?_ | refine wpL_v rfl rfl (by decide) (OpV_len rfl rfl rfl) ?_ | refine wpL_v rfl rfl (by decide) (OpV_fieldAddr rfl rfl rfl rfl) ?_ | refine wpL_v rfl rfl (by decide) (OpV_load rfl rfl rfl) ?_ | refine wpL_v rfl rfl (by decide) (OpV_load_at rfl rfl (get_new _ _) rfl) ?_ | refine wpL_v rfl rfl (by decide) (OpV_not rfl rfl) ?_ | refine wpA_ct rfl (by first | rfl | exact decide_eq_true (by omega)) ?_ | refine wpA_cf rfl (by first | rfl | exact decide_eq_false (by omega)) ?_ | refine wpA_skip ?_ | refine wpA_exit ?_ | refine wpA_ret ?_ | refine x_then_exit ?_ | refine x_then_ret ?_ | refine x_then_normal ?_ | refine x_block_ret ?_ | refine x_block_normal ?_ | refine x_block_exit ?_ | refine x_block_other rfl ?_)
      rintro _ G3 ⟨rfl, rfl⟩
      refine wpL_v rfl rfl (by decide) (OpV_move rfl rfl) ?_
      refine wpL_v rfl rfl (by decide) (OpV_cmp rfl rfl rfl rfl) ?_
      refine wpL_end ?_
      by_cases hT : tot l a height (j + 1) ≤ height
      · rw [if_pos hT] at j3
        have hT' : fillH (repOf (pg l a) height) (tx l a (j + 1)) (nt l a (j + 1)) (ft l a (j + 1)) ≤ height := hT
        repeat (first | refine wpL_end ?_ | refine wpL_nil ?_ | refine wpA_seq ?_ | refine wpA_region ?_ | refine wpA_block ?_ | refine wpL_v rfl rfl (by decide) (OpV_move rfl rfl) ?_ | refine wpL_v rfl rfl (by decide) (OpV_assign rfl rfl) ?_ | refine wpL_v rfl rfl (by decide) (OpV_cmp rfl rfl rfl rfl) ?_ | refine wpL_v rfl rfl (by decide) (OpV_add rfl rfl rfl (by omega)) ?_ | refine wpL_v rfl rfl (by decide) (OpV_sub rfl rfl rfl (by omega)) ?_ | refine wpL_v rfl rfl (by decide) (OpV_len rfl rfl rfl) ?_ | refine wpL_v rfl rfl (by decide) (OpV_fieldAddr rfl rfl rfl rfl) ?_ | refine wpL_v rfl rfl (by decide) (OpV_load rfl rfl rfl) ?_ | refine wpL_v rfl rfl (by decide) (OpV_load_at rfl rfl (get_new _ _) rfl) ?_ | refine wpL_v rfl rfl (by decide) (OpV_not rfl rfl) ?_ | refine wpA_ct rfl (by first | rfl | exact decide_eq_true (by omega)) ?_ | refine wpA_cf rfl (by first | rfl | exact decide_eq_false (by omega)) ?_ | refine wpA_skip ?_ | refine wpA_exit ?_ | refine wpA_ret ?_ | refine x_then_exit ?_ | refine x_then_ret ?_ | refine x_then_normal ?_ | refine x_block_ret ?_ | refine x_block_normal ?_ | refine x_block_exit ?_ | refine x_block_other rfl ?_)
        exact ⟨j + 1, by omega, .cons rfl (.cons rfl (.cons rfl (.cons rfl (.cons rfl (.nil _))))), hi, h4, j3⟩
      · rw [if_neg hT] at j3
        have hT' : ¬ fillH (repOf (pg l a) height) (tx l a (j + 1)) (nt l a (j + 1)) (ft l a (j + 1)) ≤ height := hT
        repeat (first | refine wpL_end ?_ | refine wpL_nil ?_ | refine wpA_seq ?_ | refine wpA_region ?_ | refine wpA_block ?_ | refine wpL_v rfl rfl (by decide) (OpV_move rfl rfl) ?_ | refine wpL_v rfl rfl (by decide) (OpV_assign rfl rfl) ?_ | refine wpL_v rfl rfl (by decide) (OpV_cmp rfl rfl rfl rfl) ?_ | refine wpL_v rfl rfl (by decide) (OpV_add rfl rfl rfl (by omega)) ?_ | refine wpL_v rfl rfl (by decide) (OpV_sub rfl rfl rfl (by omega)) ?_ | refine wpL_v rfl rfl (by decide) (OpV_len rfl rfl rfl) ?_ | refine wpL_v rfl rfl (by decide) (OpV_fieldAddr rfl rfl rfl rfl) ?_ | refine wpL_v rfl rfl (by decide) (OpV_load rfl rfl rfl) ?_ | refine wpL_v rfl rfl (by decide) (OpV_load_at rfl rfl (get_new _ _) rfl) ?_ | refine wpL_v rfl rfl (by decide) (OpV_not rfl rfl) ?_ | refine wpA_ct rfl (by first | rfl | exact decide_eq_true (by omega)) ?_ | refine wpA_cf rfl (by first | rfl | exact decide_eq_false (by omega)) ?_ | refine wpA_skip ?_ | refine wpA_exit ?_ | refine wpA_ret ?_ | refine x_then_exit ?_ | refine x_then_ret ?_ | refine x_then_normal ?_ | refine x_block_ret ?_ | refine x_block_normal ?_ | refine x_block_exit ?_ | refine x_block_other rfl ?_)
        refine wpA_loopS (S := Nat) (fun k => [(0, pcs l), (1, I a), (8, I ((a + j + 1 : Nat) : Int)), (9, I k)])
          (fun k G => a ≤ k ∧ k ≤ a + j + 1 ∧ backG l a (a + j + 1) k = fillF l a height) (fun k => k) (a + j + 1)
          (.cons rfl (.cons rfl (.cons rfl (.cons rfl (.nil _))))) ⟨by omega, by omega, j3⟩ ?_
        rintro k G4 ⟨q1, q2, q3⟩
        by_cases hk : a < k
        · obtain ⟨k, rfl⟩ : ∃ k', k = k' + 1 := ⟨k - 1, by omega⟩
          have hpk := pcs_spot (pg_some (show k + 1 < l.length by omega))
          rw [backG, if_pos hk] at q3
          cases hK : (pg l (k + 1)).kept with
          | true =>
            rw [if_pos hK] at q3
            have hK' : (!(pg l (k + 1)).kept) = false := by rw [hK]; rfl
            repeat (first | refine wpL_end ?_ | refine wpL_nil ?_ | refine wpA_seq ?_ | refine wpA_region ?_ | refine wpA_block ?_ | refine wpL_v rfl rfl (by decide) (OpV_index_tr rfl rfl rfl (by omega) hpk) ?_ | refine wpA_cf rfl hK' ?_ | refine wpL_v rfl rfl (by decide) (OpV_move rfl rfl) ?_ | refine wpL_v rfl rfl (by decide) (OpV_assign rfl rfl) ?_ | refine wpL_v rfl rfl (by decide) (OpV_cmp rfl rfl rfl rfl) ?_ | refine wpL_v rfl rfl (by decide) (OpV_add rfl rfl rfl (by omega)) ?_ | refine wpL_v rfl rfl (by decide) (OpV_sub rfl rfl rfl (by omega)) ?_ | refine wpL_v rfl rfl (by decide) (OpV_len rfl rfl rfl) ?_ | refine wpL_v rfl rfl (by decide) (OpV_fieldAddr rfl rfl rfl rfl) ?_ | refine wpL_v rfl rfl (by decide) (OpV_load rfl rfl rfl) ?_ | refine wpL_v rfl rfl (by decide) (OpV_load_at rfl rfl (get_new _ _) rfl) ?_ | refine wpL_v rfl rfl (by decide) (OpV_not rfl rfl) ?_ | refine wpA_ct rfl (by first | rfl | exact decide_eq_true (by omega)) ?_ | refine wpA_cf rfl (by first | rfl | exact decide_eq_false (by omega)) ?_ | refine wpA_skip ?_ | refine wpA_exit ?_ | refine wpA_ret ?_ | refine x_then_exit ?_ | refine x_then_ret ?_ | refine x_then_normal ?_ | refine x_block_ret ?_ | refine x_block_normal ?_ | refine x_block_exit ?_ | refine x_block_other rfl ?_)
            have ek : ((k + 1 : Nat) : Int) - 1 = (k : Int) := by omega
            exact ⟨k, by omega, .cons rfl (.cons rfl (.cons rfl (.cons (show _ = some (I (k : Int)) from by rw [← ek]; rfl) (.nil _)))), by omega, by omega, q3⟩
          | false =>
            rw [if_neg (by rw [hK]; exact Bool.false_ne_true)] at q3
            have hK' : (!(pg l (k + 1)).kept) = true := by rw [hK]; rfl
            repeat (first | refine wpL_end ?_ | refine wpL_nil ?_ | refine wpA_seq ?_ | refine wpA_region ?_ | refine wpA_block ?_ | refine wpL_v rfl rfl (by decide) (OpV_index_tr rfl rfl rfl (by omega) hpk) ?_ | refine wpA_ct rfl hK' ?_ | refine wpL_v rfl rfl (by decide) (OpV_move rfl rfl) ?_ | refine wpL_v rfl rfl (by decide) (OpV_assign rfl rfl) ?_ | refine wpL_v rfl rfl (by decide) (OpV_cmp rfl rfl rfl rfl) ?_ | refine wpL_v rfl rfl (by decide) (OpV_add rfl rfl rfl (by omega)) ?_ | refine wpL_v rfl rfl (by decide) (OpV_sub rfl rfl rfl (by omega)) ?_ | refine wpL_v rfl rfl (by decide) (OpV_len rfl rfl rfl) ?_ | refine wpL_v rfl rfl (by decide) (OpV_fieldAddr rfl rfl rfl rfl) ?_ | refine wpL_v rfl rfl (by decide) (OpV_load rfl rfl rfl) ?_ | refine wpL_v rfl rfl (by decide) (OpV_load_at rfl rfl (get_new _ _) rfl) ?_ | refine wpL_v rfl rfl (by decide) (OpV_not rfl rfl) ?_ | refine wpA_ct rfl (by first | rfl | exact decide_eq_true (by omega)) ?_ | refine wpA_cf rfl (by first | rfl | exact decide_eq_false (by omega)) ?_ | refine wpA_skip ?_ | refine wpA_exit ?_ | refine wpA_ret ?_ | refine x_then_exit ?_ | refine x_then_ret ?_ | refine x_then_normal ?_ | refine x_block_ret ?_ | refine x_block_normal ?_ | refine x_block_exit ?_ | refine x_block_other rfl ?_)
            exact postI_1 rfl rfl (.refl _) (.v _) (by rw [← q3])
        · rw [backG_le l a _ (by omega)] at q3
          repeat (first | refine wpL_end ?_ | refine wpL_nil ?_ | refine wpA_seq ?_ | refine wpA_region ?_ | refine wpA_block ?_ | refine wpL_v rfl rfl (by decide) (OpV_move rfl rfl) ?_ | refine wpL_v rfl rfl (by decide) (OpV_assign rfl rfl) ?_ | refine wpL_v rfl rfl (by decide) (OpV_cmp rfl rfl rfl rfl) ?_ | refine wpL_v rfl rfl (by decide) (OpV_add rfl rfl rfl (by omega)) ?_ | refine wpL_v rfl rfl (by decide) (OpV_sub rfl rfl rfl (by omega)) ?_ | refine wpL_v rfl rfl (by decide) (OpV_len rfl rfl rfl) ?_ | refine wpL_v rfl rfl (by decide) (OpV_fieldAddr rfl rfl rfl rfl) ?_ | refine wpL_v rfl rfl (by decide) (OpV_load rfl rfl rfl) ?_ | refine wpL_v rfl rfl (by decide) (OpV_load_at rfl rfl (get_new _ _) rfl) ?_ | refine wpL_v rfl rfl (by decide) (OpV_not rfl rfl) ?_ | refine wpA_ct rfl (by first | rfl | exact decide_eq_true (by omega)) ?_ | refine wpA_cf rfl (by first | rfl | exact decide_eq_false (by omega)) ?_ | refine wpA_skip ?_ | refine wpA_exit ?_ | refine wpA_ret ?_ | refine x_then_exit ?_ | refine x_then_ret ?_ | refine x_then_normal ?_ | refine x_block_ret ?_ | refine x_block_normal ?_ | refine x_block_exit ?_ | refine x_block_other rfl ?_)
          exact postI_1 rfl rfl (.refl _) (.v _) (by rw [← q3])
  · have e : l.length - (a + j + 1) = 0 := by omega
    rw [e, fillG] at j3
    repeat (first | refine wpL_end ?_ | refine wpL_nil ?_ | refine wpA_seq ?_ | refine wpA_region ?_ | refine wpA_block ?_ | refine wpL_v rfl rfl (by decide) (OpV_move rfl rfl) ?_ | refine wpL_v rfl rfl (by decide) (OpV_assign rfl rfl) ?_ | refine wpL_v rfl rfl (by decide) (OpV_cmp rfl rfl rfl rfl) ?_ | refine wpL_v rfl rfl (by decide) (OpV_add rfl rfl rfl (by omega)) ?_ | refine wpL_v rfl rfl (by decide) (OpV_sub rfl rfl rfl (by omega)) ?_ | refine wpL_v rfl rfl (by decide) (OpV_len rfl rfl rfl) ?_ | refine wpL_v rfl rfl (by decide) (OpV_fieldAddr rfl rfl rfl rfl) ?_ | refine wpL_v rfl rfl (by decide) (OpV_load rfl rfl rfl) ?_ | refine wpL_v rfl rfl (by decide) (OpV_load_at rfl rfl (get_new _ _) rfl) ?_ | refine wpL_v rfl rfl (by decide) (OpV_not rfl rfl) ?_ | refine wpA_ct rfl (by first | rfl | exact decide_eq_true (by omega)) ?_ | refine wpA_cf rfl (by first | rfl | exact decide_eq_false (by omega)) ?_ | refine wpA_skip ?_ | refine wpA_exit ?_ | refine wpA_ret ?_ | refine x_then_exit ?_ | refine x_then_ret ?_ | refine x_then_normal ?_ | refine x_block_ret ?_ | refine x_block_normal ?_ | refine x_block_exit ?_ | refine x_block_other rfl ?_)
    exact postI_1 rfl rfl (.refl _) (.v _) (by rw [← j3, show a + j + 1 = l.length from by omega]; rfl)
end Go.Proofs.YtnenmpeejjeopaaGreatDoor
