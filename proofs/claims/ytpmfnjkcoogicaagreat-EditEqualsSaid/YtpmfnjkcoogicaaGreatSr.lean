/- EditEquals answers true at every pair of edits. -/
import Derived.Test.YtpmfnjkcoogicaaGreatChecked
import Derived.WideKeyArgs
import Derived.Test.YtpmfnjkcoogicaaGreatRd
import Derived.Test.YtpmfnjkcoogicaaGreatEvK
import Derived.Test.YtpmfnjkcoogicaaGreatSq
import Derived.Test.YtpmfnjkcoogicaaGreatSs
namespace Go.Proofs.YtpmfnjkcoogicaaGreat
open Go.ChangeShapes Go.WideShapes Go.ChangeAt Go.RowKit Go.Th
set_option linter.unusedVariables false

theorem known17_iso : Iso Tryz.prog 6 [] (fun p => p = B true) := iso_of_below Tryz.func6 (by kernel_rfl) (by kernel_rfl) known17_below

theorem CR.agg {m : Mp} {w : World} {ps : List PV} {vs : Array Value} (h : CR m w ps vs.toList) : Rep m w (.agg ps) (.agg vs) := CR_agg h

set_option maxRecDepth 100000 in
theorem editEquals_lifted (os : Os) (started : os.Started) (H : Type) (enc : TypeId × Value → H) :
    ReturnsInHanded {} Tryz.checked os 3 .any (Rows.editEqualsSpec.pre6 enc Tryz.prog Tryz.f3 Rows.editEqualsRow.domain false) (Rows.editEqualsSpec.post enc Tryz.prog Tryz.f3 false true false false) := by
  refine returnsInHanded_of_change (C := Tryz.checked) own_knob started (by kernel_rfl) Tryz.func3
    (ChangeSpec.witness6 (enc := enc) (C := Tryz.checked) false ⟨#[], #[.agg #[.int .i64 0, .int .i64 0, .int .i64 0, .int .i64 0, .int .i64 0, .int .i64 0, .int .i64 0, .int .i64 0, .int .i64 0, .int .i64 0, .bool false, .slice none 0 0, .slice none 0 0, .slice none 0 0, .slice none 0 0, .slice none 0 0, .slice none 0 0, .slice none 0 0],
      .agg #[.int .i64 0, .int .i64 0, .int .i64 0, .int .i64 0, .int .i64 0, .int .i64 0, .int .i64 0, .int .i64 0, .int .i64 0, .int .i64 0, .bool false, .slice none 0 0, .slice none 0 0, .slice none 0 0, .slice none 0 0, .slice none 0 0, .slice none 0 0, .slice none 0 0]], []⟩ 8 (by kernel_rfl) (by kernel_rfl) (by kernel_rfl) (by kernel_rfl)) ?_
  intro W base args ds gs before hval0 hW hcnd _
  have hval : ∀ (j : Nat) t v, Tryz.f3.params[j]? = some t → args[j]? = some v → Value.okWide Tryz.prog W .any base t v := hval0
  have hW' := hW
  obtain ⟨p, q, hA0, hV, rfl, hfz, hnd⟩ := hW
  have hA : DataW.TrodAll enc Tryz.prog W 0 (fun _ => true) true Tryz.f3.params.toList args.toList ds p := hA0
  rw [Tryz.params3] at hA hval
  obtain ⟨v0, vs0, d0, ds0, p0, q0, hargs, rfl, rfl, h0, r0⟩ := trodAll_cons hA
  obtain ⟨v1, vs1, d1, ds1, p1, q1, rfl, rfl, rfl, h1, r1⟩ := trodAll_cons r0
  obtain ⟨rfl, rfl, rfl⟩ := trodAll_nil r1
  obtain rfl : args = #[v0, v1] := by cases args; simp_all
  obtain ⟨rfl, rfl⟩ := trodVars_none hV
  obtain ⟨cs0, rfl, _⟩ := okWide_struct Tryz.underlying32 (hval 0 32 v0 rfl rfl)
  obtain ⟨cs1, rfl, _⟩ := okWide_struct Tryz.underlying32 (hval 1 32 v1 rfl rfl)
  have h0k := h0
  have h1k := h1
  obtain ⟨f0, hf0⟩ := h0
  obtain ⟨f1, hf1⟩ := h1
  obtain ⟨a, ha⟩ := rd_edit hf0
  obtain ⟨b, hb⟩ := rd_edit hf1
  clear hA0 hval0
  simp only [List.append_nil] at hW'
  have hlt0 : ∀ x ∈ p0, x.block < W.heap.size := fun x hx => by
    have := hW'.lt x
    exact this (by simp [hx])
  have hlt1 : ∀ x ∈ p1, x.block < W.heap.size := fun x hx => by
    have := hW'.lt x
    exact this (by simp [hx])
  refine (iso_below (W := W) (editEquals_iso known17_iso a b) (vals := #[.agg cs0, .agg cs1]) ⟨rfl, fun j c hj => ?_⟩).mono fun e W' ⟨he, hb⟩ => ?_
  · match j with
    | 0 => simp at hj; subst hj; exact CR_agg ha
    | 1 => simp at hj; subst hj; exact CR_agg hb
    | j + 2 => simp at hj
  subst he
  exact ⟨_, rfl, post_of_below (pa := p0 ++ p1) (pv := []) hW' (fun _ _ _ => (trodAll_cons_mk (shut_bool Tryz.underlying4 _) trodAll_mk0))
    (fun sp hsp => by
      have t0 := WideElems.Trod_stays (sp' := sp) laid_out (by kernel_rfl) (of_decide_eq_true (by kernel_rfl)) h0k (fun x hx => hb.same (hlt0 x hx)) (fun x hx => hsp x (by simp [hx]))
      have t1 := WideElems.Trod_stays (sp' := sp) laid_out (by kernel_rfl) (of_decide_eq_true (by kernel_rfl)) h1k (fun x hx => hb.same (hlt1 x hx)) (fun x hx => hsp x (by simp [hx]))
      have t2 := trodAll_cons_mk t0 (trodAll_cons_mk t1 trodAll_mk0)
      simp only [List.append_nil] at t2
      exact t2)
    (fun _ _ => rfl) (by simp) hb (ok_one (by kernel_rfl) rfl (okWide_bool_mk Tryz.underlying4 _))⟩

theorem editEquals_over : Rows.editEqualsRow.holds Tryz.pinned (OpenSpec.ofChange Rows.editEqualsSpec) :=
  OpenClaim.holds_of_wide 3 Tryz.f3 rfl rfl rfl rfl rfl rfl rfl ⟨rfl, rfl, rfl, rfl, rfl⟩ rfl rfl rfl rfl rfl namedF Tryz.func3 facts instF wrapF
    (fun os started H enc _ => editEquals_lifted os started H enc)

theorem editEquals : Rows.EditEqualsSaid := editEquals_over
end Go.Proofs.YtpmfnjkcoogicaaGreat
