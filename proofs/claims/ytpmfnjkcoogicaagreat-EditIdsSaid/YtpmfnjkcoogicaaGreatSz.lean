/- EditIds answers true at every edit. -/
import Derived.Test.YtpmfnjkcoogicaaGreatChecked
import Derived.WideKeyArgs
import Derived.Test.YtpmfnjkcoogicaaGreatRd
import Derived.Test.YtpmfnjkcoogicaaGreatEvK
import Derived.Test.YtpmfnjkcoogicaaGreatSx
import Derived.Test.YtpmfnjkcoogicaaGreatSy
namespace Go.Proofs.YtpmfnjkcoogicaaGreat
open Go.ChangeShapes Go.WideShapes Go.ChangeAt Go.RowKit Go.Th
set_option linter.unusedVariables false

theorem known17_iso : Iso Tryz.prog 6 [] (fun p => p = B true) := iso_of_below Tryz.func6 (by kernel_rfl) (by kernel_rfl) known17_below

theorem CR.agg {m : Mp} {w : World} {ps : List PV} {vs : Array Value} (h : CR m w ps vs.toList) : Rep m w (.agg ps) (.agg vs) := CR_agg h

set_option maxRecDepth 100000 in
theorem editIds_lifted (os : Os) (started : os.Started) (H : Type) (enc : TypeId × Value → H) :
    ReturnsInHanded {} Tryz.checked os 4 .any (Rows.editIdsSpec.pre6 enc Tryz.prog Tryz.f4 Rows.editIdsRow.domain false) (Rows.editIdsSpec.post enc Tryz.prog Tryz.f4 false true false false) := by
  refine returnsInHanded_of_change (C := Tryz.checked) own_knob started (by kernel_rfl) Tryz.func4
    (ChangeSpec.witness6 (enc := enc) (C := Tryz.checked) false ⟨#[], #[.agg #[.int .i64 0, .int .i64 0, .int .i64 0, .int .i64 0, .int .i64 0, .int .i64 0, .int .i64 0, .int .i64 0, .int .i64 0, .int .i64 0, .bool false, .slice none 0 0, .slice none 0 0, .slice none 0 0, .slice none 0 0, .slice none 0 0, .slice none 0 0, .slice none 0 0]], []⟩ 8 (by kernel_rfl) (by kernel_rfl) (by kernel_rfl) (by kernel_rfl)) ?_
  intro W base args ds gs before hval0 hW hcnd _
  have hval : ∀ (j : Nat) t v, Tryz.f4.params[j]? = some t → args[j]? = some v → Value.okWide Tryz.prog W .any base t v := hval0
  have hW' := hW
  obtain ⟨p, q, hA0, hV, rfl, hfz, hnd⟩ := hW
  have hA : DataW.TrodAll enc Tryz.prog W 0 (fun _ => true) true Tryz.f4.params.toList args.toList ds p := hA0
  rw [Tryz.params4] at hA hval
  obtain ⟨v0, vs0, d0, ds0, p0, q0, hargs, rfl, rfl, h0, r0⟩ := trodAll_cons hA
  obtain ⟨rfl, rfl, rfl⟩ := trodAll_nil r0
  obtain rfl : args = #[v0] := by cases args; simp_all
  obtain ⟨rfl, rfl⟩ := trodVars_none hV
  obtain ⟨cs0, rfl, _⟩ := okWide_struct Tryz.underlying32 (hval 0 32 v0 rfl rfl)
  have h0k := h0
  obtain ⟨f0, hf0⟩ := h0
  obtain ⟨a, ha⟩ := rd_edit hf0
  clear hA0 hval0
  simp only [List.append_nil] at hW'
  have hlt0 : ∀ x ∈ p0, x.block < W.heap.size := fun x hx => by
    have := hW'.lt x
    exact this (by simp [hx])
  refine (iso_below (W := W) (editIds_iso known17_iso a) (vals := #[.agg cs0]) ⟨rfl, fun j c hj => ?_⟩).mono fun e W' ⟨he, hb⟩ => ?_
  · match j with
    | 0 => simp at hj; subst hj; exact CR_agg ha
    | j + 1 => simp at hj
  subst he
  exact ⟨_, rfl, post_of_below (pa := p0) (pv := []) hW' (fun _ _ _ => (trodAll_cons_mk (shut_bool Tryz.underlying4 _) trodAll_mk0))
    (fun sp hsp => by
      have t0 := WideElems.Trod_stays (sp' := sp) laid_out (by kernel_rfl) (of_decide_eq_true (by kernel_rfl)) h0k (fun x hx => hb.same (hlt0 x hx)) (fun x hx => hsp x (by simp [hx]))
      have t2 := trodAll_cons_mk t0 trodAll_mk0
      simp only [List.append_nil] at t2
      exact t2)
    (fun _ _ => rfl) (by simp) hb (ok_one (by kernel_rfl) rfl (okWide_bool_mk Tryz.underlying4 _))⟩

theorem editIds_over : Rows.editIdsRow.holds Tryz.pinned (OpenSpec.ofChange Rows.editIdsSpec) :=
  OpenClaim.holds_of_wide 4 Tryz.f4 rfl rfl rfl rfl rfl rfl rfl ⟨rfl, rfl, rfl, rfl, rfl⟩ rfl rfl rfl rfl rfl namedF Tryz.func4 facts instF wrapF
    (fun os started H enc _ => editIds_lifted os started H enc)

theorem editIds : Rows.EditIdsSaid := editIds_over
end Go.Proofs.YtpmfnjkcoogicaaGreat
