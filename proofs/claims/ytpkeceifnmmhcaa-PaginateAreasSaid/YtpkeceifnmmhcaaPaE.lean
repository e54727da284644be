/- PaginateAreas answers true at every argument. -/
import Derived.Test.YtpkeceifnmmhcaaChecked
import Derived.Test.YtpkeceifnmmhcaaPgR
import Derived.Test.YtpkeceifnmmhcaaPaD
namespace Go.Proofs.Ytpkeceifnmmhcaa
open Go.ChangeShapes Go.WideShapes Go.ChangeAt Go.RowKit Go.Th
set_option linter.unusedVariables false

set_option maxRecDepth 100000 in
theorem paginateAreas_lifted (os : Os) (started : os.Started) (H : Type) (enc : TypeId × Value → H) :
    ReturnsInHanded {} Try.checked os 12 .any (Rows.paginateAreasSpec.pre6 enc Try.prog Try.f12 Rows.paginateAreasRow.domain false) (Rows.paginateAreasSpec.post enc Try.prog Try.f12 false true false false) := by
  refine returnsInHanded_of_change (C := Try.checked) own_knob started (by kernel_rfl) Try.func12
    (ChangeSpec.witness6 (enc := enc) (C := Try.checked) false ⟨#[], #[.slice none 0 0], []⟩ 8 (by kernel_rfl) (by kernel_rfl) (by kernel_rfl) (by kernel_rfl)) ?_
  intro W base args ds gs before hval0 hW hcnd _
  have hval : ∀ (j : Nat) t v, Try.f12.params[j]? = some t → args[j]? = some v → Value.okWide Try.prog W .any base t v := hval0
  have hW' := hW
  obtain ⟨p, q, hA0, hV, rfl, hfz, hnd⟩ := hW
  have hA : DataW.TrodAll enc Try.prog W 0 (fun _ => true) true Try.f12.params.toList args.toList ds p := hA0
  rw [Try.params12] at hA hval
  obtain ⟨v0, vs0, d0, ds0, p0, q0, hargs, rfl, rfl, h0, r0⟩ := trodAll_cons hA
  obtain ⟨rfl, rfl, rfl⟩ := trodAll_nil r0
  obtain rfl : args = #[v0] := by cases args; simp_all
  obtain ⟨rfl, rfl⟩ := trodVars_none hV
  obtain ⟨sa0, len0, cap0, rfl⟩ := okWide_slice Try.underlying64 (hval 0 64 v0 rfl rfl)
  have h0k := h0
  obtain ⟨fuel0, hf0⟩ := h0
  obtain ⟨l0, hlm0, hrep0⟩ := read_props (by simpa [Value.cells] using hf0)
  clear hA0 hval0
  simp only [List.append_nil] at hW'
  have hlt : ∀ x ∈ p0, x.block < W.heap.size := fun x hx => by
    have := hW'.lt x
    try simp only [List.append_nil] at this
    try simp only [List.mem_append] at this
    try simp only [List.append_nil] at hx
    try simp only [List.mem_append] at hx
    exact this (by simp_all)
  refine (iso_below (W := W) (areas_iso l0 (by simp only [maxLen] at hlm0; omega) ) (vals := #[.slice sa0 len0 cap0]) ⟨rfl, fun j c hj => ?_⟩).mono fun e W' ⟨he, hb⟩ => ?_
  · match j with
    | 0 => simp at hj; subst hj; exact hrep0
    | j + 1 => simp at hj
  subst he
  exact ⟨_, rfl, post_of_below (pa := p0) (pv := []) hW' (fun _ _ _ => (trodAll_cons_mk (shut_bool Try.underlying4 _) trodAll_mk0))
    (fun sp hsp => by
      have t0 := WideElems.Trod_stays (sp' := sp) laid_out (by kernel_rfl) (of_decide_eq_true (by kernel_rfl)) h0k (fun x hx => hb.same (hlt x (by simp [hx]))) (fun x hx => hsp x (by simp [hx]))
      have t := trodAll_cons_mk t0 trodAll_mk0
      simp only [List.append_nil] at t
      exact t)
    (fun _ _ => rfl) (by simp) hb (ok_one (by kernel_rfl) rfl (okWide_bool_mk Try.underlying4 _))⟩

theorem paginateAreas_over : Rows.paginateAreasRow.holds Try.pinned (OpenSpec.ofChange Rows.paginateAreasSpec) :=
  OpenClaim.holds_of_wide 12 Try.f12 rfl rfl rfl rfl rfl rfl rfl ⟨rfl, rfl, rfl, rfl, rfl⟩ rfl rfl rfl rfl rfl (by kernel_rfl) Try.func12 (by kernel_rfl)
    (of_decide_eq_true (by kernel_rfl)) (by unfold Func.isWrapper; first | (rw [if_pos (by decide +kernel)]; kernel_rfl) | (rw [if_neg (by decide +kernel)]; exact ⟨rfl, rfl⟩))
    (fun os started H enc _ => paginateAreas_lifted os started H enc)

theorem paginateAreas : Rows.PaginateAreasSaid := paginateAreas_over
end Go.Proofs.Ytpkeceifnmmhcaa
