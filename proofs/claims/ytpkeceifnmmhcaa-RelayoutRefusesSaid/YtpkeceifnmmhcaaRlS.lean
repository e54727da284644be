/- RelayoutRefuses answers true at every argument. -/
import Derived.Test.YtpkeceifnmmhcaaChecked
import Derived.Test.YtpkeceifnmmhcaaPgR
import Derived.Test.YtpkeceifnmmhcaaRlR
namespace Go.Proofs.Ytpkeceifnmmhcaa
open Go.ChangeShapes Go.WideShapes Go.ChangeAt Go.RowKit Go.Th
set_option linter.unusedVariables false

set_option maxRecDepth 100000 in
theorem relayoutRefuses_lifted (os : Os) (started : os.Started) (H : Type) (enc : TypeId × Value → H) :
    ReturnsInHanded {} Try.checked os 10 .any (Rows.relayoutRefusesSpec.pre6 enc Try.prog Try.f10 Rows.relayoutRefusesRow.domain false) (Rows.relayoutRefusesSpec.post enc Try.prog Try.f10 false true false false) := by
  refine returnsInHanded_of_change (C := Try.checked) own_knob started (by kernel_rfl) Try.func10
    (ChangeSpec.witness6 (enc := enc) (C := Try.checked) false ⟨#[], #[.slice none 0 0, .slice none 0 0, .slice none 0 0], []⟩ 8 (by kernel_rfl) (by kernel_rfl) (by kernel_rfl) (by kernel_rfl)) ?_
  intro W base args ds gs before hval0 hW hcnd _
  have hval : ∀ (j : Nat) t v, Try.f10.params[j]? = some t → args[j]? = some v → Value.okWide Try.prog W .any base t v := hval0
  have hW' := hW
  obtain ⟨p, q, hA0, hV, rfl, hfz, hnd⟩ := hW
  have hA : DataW.TrodAll enc Try.prog W 0 (fun _ => true) true Try.f10.params.toList args.toList ds p := hA0
  rw [Try.params10] at hA hval
  obtain ⟨v0, vs0, d0, ds0, p0, q0, hargs, rfl, rfl, h0, r0⟩ := trodAll_cons hA
  obtain ⟨v1, vs1, d1, ds1, p1, q1, rfl, rfl, rfl, h1, r1⟩ := trodAll_cons r0
  obtain ⟨v2, vs2, d2, ds2, p2, q2, rfl, rfl, rfl, h2, r2⟩ := trodAll_cons r1
  obtain ⟨rfl, rfl, rfl⟩ := trodAll_nil r2
  obtain rfl : args = #[v0, v1, v2] := by cases args; simp_all
  obtain ⟨rfl, rfl⟩ := trodVars_none hV
  obtain ⟨sa0, len0, cap0, rfl⟩ := okWide_slice Try.underlying22 (hval 0 22 v0 rfl rfl)
  have h0k := h0
  obtain ⟨fuel0, hf0⟩ := h0
  obtain ⟨l0, hlm0, hrep0⟩ := read_pieces (by simpa [Value.cells] using hf0)
  obtain ⟨sa1, len1, cap1, rfl⟩ := okWide_slice Try.underlying22 (hval 1 22 v1 rfl rfl)
  have h1k := h1
  obtain ⟨fuel1, hf1⟩ := h1
  obtain ⟨l1, hlm1, hrep1⟩ := read_pieces (by simpa [Value.cells] using hf1)
  obtain ⟨sa2, len2, cap2, rfl⟩ := okWide_slice Try.underlying25 (hval 2 25 v2 rfl rfl)
  have h2k := h2
  obtain ⟨fuel2, hf2⟩ := h2
  obtain ⟨l2, hlm2, hrep2⟩ := read_ints (by simpa [Value.cells] using hf2)
  clear hA0 hval0
  simp only [List.append_nil] at hW'
  have hlt : ∀ x ∈ p0 ++ (p1 ++ p2), x.block < W.heap.size := fun x hx => by
    have := hW'.lt x
    try simp only [List.append_nil] at this
    try simp only [List.mem_append] at this
    try simp only [List.append_nil] at hx
    try simp only [List.mem_append] at hx
    exact this (by simp_all)
  refine (iso_below (W := W) (refuses_iso l0 l1 l2 (by simp only [maxLen] at hlm0; omega) (by simp only [maxLen] at hlm1; omega) (by simp only [maxLen] at hlm2; omega) ) (vals := #[.slice sa0 len0 cap0, .slice sa1 len1 cap1, .slice sa2 len2 cap2]) ⟨rfl, fun j c hj => ?_⟩).mono fun e W' ⟨he, hb⟩ => ?_
  · match j with
    | 0 => simp at hj; subst hj; exact hrep0
    | 1 => simp at hj; subst hj; exact hrep1
    | 2 => simp at hj; subst hj; exact hrep2
    | j + 3 => simp at hj
  subst he
  exact ⟨_, rfl, post_of_below (pa := p0 ++ (p1 ++ p2)) (pv := []) hW' (fun _ _ _ => (trodAll_cons_mk (shut_bool Try.underlying4 _) trodAll_mk0))
    (fun sp hsp => by
      have t0 := WideElems.Trod_stays (sp' := sp) laid_out (by kernel_rfl) (of_decide_eq_true (by kernel_rfl)) h0k (fun x hx => hb.same (hlt x (by simp [hx]))) (fun x hx => hsp x (by simp [hx]))
      have t1 := WideElems.Trod_stays (sp' := sp) laid_out (by kernel_rfl) (of_decide_eq_true (by kernel_rfl)) h1k (fun x hx => hb.same (hlt x (by simp [hx]))) (fun x hx => hsp x (by simp [hx]))
      have t2 := WideElems.Trod_stays (sp' := sp) laid_out (by kernel_rfl) (of_decide_eq_true (by kernel_rfl)) h2k (fun x hx => hb.same (hlt x (by simp [hx]))) (fun x hx => hsp x (by simp [hx]))
      have t := trodAll_cons_mk t0 (trodAll_cons_mk t1 (trodAll_cons_mk t2 trodAll_mk0))
      simp only [List.append_nil] at t
      exact t)
    (fun _ _ => rfl) (by simp) hb (ok_one (by kernel_rfl) rfl (okWide_bool_mk Try.underlying4 _))⟩

theorem relayoutRefuses_over : Rows.relayoutRefusesRow.holds Try.pinned (OpenSpec.ofChange Rows.relayoutRefusesSpec) :=
  OpenClaim.holds_of_wide 10 Try.f10 rfl rfl rfl rfl rfl rfl rfl ⟨rfl, rfl, rfl, rfl, rfl⟩ rfl rfl rfl rfl rfl (by kernel_rfl) Try.func10 (by kernel_rfl)
    (of_decide_eq_true (by kernel_rfl)) (by unfold Func.isWrapper; first | (rw [if_pos (by decide +kernel)]; kernel_rfl) | (rw [if_neg (by decide +kernel)]; exact ⟨rfl, rfl⟩))
    (fun os started H enc _ => relayoutRefuses_lifted os started H enc)

theorem relayoutRefuses : Rows.RelayoutRefusesSaid := relayoutRefuses_over
end Go.Proofs.Ytpkeceifnmmhcaa
