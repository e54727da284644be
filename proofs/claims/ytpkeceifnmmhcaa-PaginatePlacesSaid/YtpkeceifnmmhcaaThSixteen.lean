/- Cells that stand for less: a nil slice as a slice of no cells. -/
import Derived.Test.YtpkeceifnmmhcaaThFifteen
namespace Go.Th
open Go.RowKit

def Wk (c c' : PV) : Prop := ∀ m w v, Rep m w c v → Rep m w c' v
theorem Wk.refl (c : PV) : Wk c c := fun _ _ _ h => h
theorem Wk.nil (sz : Nat) : Wk (.v (.slice none 0 0)) (.tr [] 0 sz) := fun m w v h => by rw [rep_v h]; exact .trn

inductive WkL : List PV → List PV → Prop
  | nil : WkL [] []
  | cons {c d : PV} {cs ds : List PV} (h : Wk c d) (k : WkL cs ds) : WkL (c :: cs) (d :: ds)
theorem WkL.refl : ∀ l, WkL l l
  | [] => .nil
  | a :: l => .cons (.refl a) (WkL.refl l)
theorem WkL.app {a b c d : List PV} (h : WkL a b) (k : WkL c d) : WkL (a ++ c) (b ++ d) := by
  induction h with
  | nil => exact k
  | cons h _ ih => exact .cons h ih
theorem WkL.all {cs ds : List PV} (h : WkL cs ds) : ds.length = cs.length ∧ ∀ (j : Nat) (d : PV), ds[j]? = some d → ∃ c, cs[j]? = some c ∧ Wk c d := by
  induction h with
  | nil => exact ⟨rfl, fun j d h => by simp at h⟩
  | cons h k ih =>
    refine ⟨by simp [ih.1], fun j d hd => ?_⟩
    cases j with
    | zero => simp at hd; subst hd; exact ⟨_, rfl, h⟩
    | succ j => exact ih.2 j d (by simpa using hd)

theorem Wk.agg {cs ds : List PV} (h : WkL cs ds) : Wk (.agg cs) (.agg ds) := fun m w v hr => by
  obtain ⟨hl, hc⟩ := h.all
  cases hr with
  | agg vs a b =>
    refine .agg vs (by rw [a, hl]) fun j d hd => ?_
    obtain ⟨c, hc1, hc2⟩ := hc j d hd
    exact hc2 m w _ (b j c hc1)

theorem Wk.tr {cs ds : List PV} {len sz : Nat} (h : WkL cs ds) : Wk (.tr cs len sz) (.tr ds len sz) := fun m w v hr => by
  obtain ⟨hl, hc⟩ := h.all
  cases hr with
  | tr f a b c d e g =>
    refine .tr f a (by rw [hl, b]) c d (fun j q hq => ?_) (fun j q hq => ?_)
    · obtain ⟨c', hc1, hc2⟩ := hc j q hq
      exact e j c' hc1
    · obtain ⟨c', hc1, hc2⟩ := hc j q hq
      exact hc2 m w _ (g j c' hc1)
  | tr0 a b =>
    have : ds = [] := List.length_eq_zero_iff.1 (by rw [hl]; rfl)
    subst this; exact .tr0 a b
  | trn =>
    have : ds = [] := List.length_eq_zero_iff.1 (by rw [hl]; rfl)
    subst this; exact .trn

theorem wpA_wk {P : Program} {n : Nat} {Q : QA} {E : Env} {H : Heap} {c : Code} (t : Nat) {p p' : PV} (ht : E.get t = some p) (hw : Wk p p') (h : wpA P n c Q ((t, p') :: E) H) : wpA P n c Q E H := by
  rintro m0 w0 a w ⟨h1, h2, m, h3, h4, h5⟩
  refine h m0 w0 a w ⟨h1, h2, m, h3, h4, fun t' q hq => ?_⟩
  rw [Env.get_cons] at hq
  by_cases e : t = t'
  · subst e
    rw [if_pos rfl] at hq; cases hq
    exact hw m w _ (h5 t p ht)
  · rw [if_neg e] at hq
    exact h5 t' q hq

theorem wpA_altC {P : Program} {n : Nat} {Q : QA} {E : Env} {H : Heap} {L : List (Nat × Blk)} {pg : Nat} {B : Blk} {cs : List PV} {c : Code} (k : Nat) (hG : Has H L) (hk : L[k]? = some (pg, B)) (hw : WkL B.cells cs)
    (h : ∀ G, Has G (L.set k (pg, { B with cells := cs })) → wpA P n c Q E G) : wpA P n c Q E H := by
  rintro m0 w0 a w ⟨h1, h2, m, h3, h4, h5⟩
  obtain ⟨hl, hc⟩ := hw.all
  have hR := h4.alt (hG.get k pg B hk) { B with cells := cs } rfl rfl hl (fun j d hd => let ⟨c, c1, c2⟩ := hc j d hd; ⟨c, c1, fun v hv => c2 m w v hv⟩)
  exact h _ (hG.set hk _) m0 w0 a w ⟨h1, h2, m, h3, hR, h5⟩

theorem wpL_altC {P : Program} {n : Nat} {Q : QA} {E : Env} {H : Heap} {ops : Array Oper} {rest : List Oper} {L : List (Nat × Blk)} {pg : Nat} {B : Blk} {cs : List PV} (k : Nat) (hG : Has H L) (hk : L[k]? = some (pg, B)) (hw : WkL B.cells cs)
    (h : ∀ G, Has G (L.set k (pg, { B with cells := cs })) → wpL P n ops rest Q E G) : wpL P n ops rest Q E H := by
  rintro m0 w0 a w ⟨h1, h2, m, h3, h4, h5⟩
  obtain ⟨hl, hc⟩ := hw.all
  have hR := h4.alt (hG.get k pg B hk) { B with cells := cs } rfl rfl hl (fun j d hd => let ⟨c, c1, c2⟩ := hc j d hd; ⟨c, c1, fun v hv => c2 m w v hv⟩)
  exact h _ (hG.set hk _) m0 w0 a w ⟨h1, h2, m, h3, hR, h5⟩

theorem wpL_freeze {P : Program} {n : Nat} {Q : QA} {E : Env} {H : Heap} {ops : Array Oper} {rest : List Oper} (t : Nat) {id off len sz : Nat} {B : Blk} {cs : List PV} (ht : E.get t = some (.sl id off len sz)) (hB : H[id]? = some (some B)) (hc : takeN (len * sz) (B.cells.drop off) = some cs)
    (h : wpL P n ops rest Q ((t, .tr cs len sz) :: E) (H.set id none)) : wpL P n ops rest Q E H := fun m0 w0 a w hat => h m0 w0 a w (hat.freeze ht hB hc)
theorem ndec_t {p : Prop} [Decidable p] (h : ¬ p) : (!decide p) = true := by simp [h]
theorem ndec_f {p : Prop} [Decidable p] (h : p) : (!decide p) = false := by simp [h]
end Go.Th
