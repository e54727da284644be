/- RelayoutLocal answers true at every argument. -/
import Derived.Test.YtpkeceifnmmhcaaChecked
import Derived.Test.YtpkeceifnmmhcaaPgR
import Derived.WideKeyPair
import Derived.Test.YtpkeceifnmmhcaaRmB
namespace Go.Proofs.Ytpkeceifnmmhcaa
open Go.ChangeShapes Go.WideShapes Go.ChangeAt Go.RowKit Go.Th Go.WideMaps
set_option linter.unusedVariables false

theorem pair8_key : ArrKey Try.prog 62 5 2 := ⟨Try.underlying62, by kernel_rfl, by kernel_rfl, by kernel_rfl⟩
theorem rep_pair8 {m : Mp} {w : World} (a b : Int) : Rep m w (pair8 a b) (.agg #[.int .u8 a, .int .u8 b]) := .agg _ rfl fun j c hj => by
  match j with
  | 0 => simp at hj; subst hj; exact .v _ rfl
  | 1 => simp at hj; subst hj; exact .v _ rfl
  | j + 2 => simp at hj

set_option maxRecDepth 100000 in
theorem relayoutLocal_lifted (os : Os) (started : os.Started) (H : Type) (enc : TypeId × Value → H) :
    ReturnsInHanded {} Try.checked os 11 .any (Rows.relayoutLocalSpec.pre6 enc Try.prog Try.f11 Rows.relayoutLocalRow.domain false) (Rows.relayoutLocalSpec.post enc Try.prog Try.f11 false true false false) := by
  refine returnsInHanded_of_change (C := Try.checked) own_knob started (by kernel_rfl) Try.func11
    (ChangeSpec.witness6 (enc := enc) (C := Try.checked) false ⟨#[], #[.slice none 0 0, .agg #[.int .u8 0, .int .u8 0], .int .i64 0], []⟩ 8 (by kernel_rfl) (by kernel_rfl) (by kernel_rfl) (by kernel_rfl)) ?_
  intro W base args ds gs before hval0 hW hcnd _
  have hval : ∀ (j : Nat) t v, Try.f11.params[j]? = some t → args[j]? = some v → Value.okWide Try.prog W .any base t v := hval0
  have hW' := hW
  obtain ⟨p, q, hA0, hV, rfl, hfz, hnd⟩ := hW
  have hA : DataW.TrodAll enc Try.prog W 0 (fun _ => true) true Try.f11.params.toList args.toList ds p := hA0
  rw [Try.params11] at hA hval
  obtain ⟨v0, vs0, d0, ds0, p0, q0, hargs, rfl, rfl, h0, r0⟩ := trodAll_cons hA
  obtain ⟨v1, vs1, d1, ds1, p1, q1, rfl, rfl, rfl, h1, r1⟩ := trodAll_cons r0
  obtain ⟨v2, vs2, d2, ds2, p2, q2, rfl, rfl, rfl, h2, r2⟩ := trodAll_cons r1
  obtain ⟨rfl, rfl, rfl⟩ := trodAll_nil r2
  obtain rfl : args = #[v0, v1, v2] := by cases args; simp_all
  obtain ⟨rfl, rfl⟩ := trodVars_none hV
  obtain ⟨sa0, len0, cap0, rfl⟩ := okWide_slice Try.underlying22 (hval 0 22 v0 rfl rfl)
  have h0k := h0
  obtain ⟨fuel0, hf0⟩ := h0
  obtain ⟨l0, hlm0, hrep0⟩ := read_pieces (by simpa [Value.cells] using hf0)
  obtain ⟨a1, b1, rfl, rfl, rfl, w1, u1⟩ := open_pair pair8_key Try.underlying5 (hval 1 62 v1 rfl rfl) h1
  have hx1 : 0 ≤ a1 ∧ a1 ≤ 255 := by simpa [Lit.wf, IntKind.min, IntKind.max, IntKind.signed, IntKind.bits] using w1
  have hy1 : 0 ≤ b1 ∧ b1 ≤ 255 := by simpa [Lit.wf, IntKind.min, IntKind.max, IntKind.signed, IntKind.bits] using u1
  obtain ⟨a2, rfl, rfl, rfl, w2⟩ := open_int Try.underlying3 (hval 2 3 v2 rfl rfl) h2
  have hx2 : -9223372036854775808 ≤ a2 ∧ a2 ≤ 9223372036854775807 := by simpa [Lit.wf, IntKind.min, IntKind.max, IntKind.signed, IntKind.bits] using w2
  clear hA0 hval0
  simp only [List.append_nil] at hW'
  have hlt : ∀ x ∈ p0, x.block < W.heap.size := fun x hx => by
    have := hW'.lt x
    try simp only [List.append_nil] at this
    try simp only [List.mem_append] at this
    try simp only [List.append_nil] at hx
    try simp only [List.mem_append] at hx
    exact this (by simp_all)
  refine (iso_below (W := W) (local_iso l0 a1 b1 a2 (by simp only [maxLen] at hlm0; omega) hx1 hy1) (vals := #[.slice sa0 len0 cap0, .agg #[.int .u8 a1, .int .u8 b1], .int .i64 a2]) ⟨rfl, fun j c hj => ?_⟩).mono fun e W' ⟨he, hb⟩ => ?_
  · match j with
    | 0 => simp at hj; subst hj; exact hrep0
    | 1 => simp at hj; subst hj; exact rep_pair8 _ _
    | 2 => simp at hj; subst hj; exact .v _ rfl
    | j + 3 => simp at hj
  subst he
  exact ⟨_, rfl, post_of_below (pa := p0) (pv := []) hW' (fun _ _ _ => (trodAll_cons_mk (shut_bool Try.underlying4 _) trodAll_mk0))
    (fun sp hsp => by
      have t0 := WideElems.Trod_stays (sp' := sp) laid_out (by kernel_rfl) (of_decide_eq_true (by kernel_rfl)) h0k (fun x hx => hb.same (hlt x (by simp [hx]))) (fun x hx => hsp x (by simp [hx]))
      have t := trodAll_cons_mk t0 (trodAll_cons_mk (shut_pair pair8_key Try.underlying5 w1 u1) (trodAll_cons_mk (shut_int Try.underlying3 w2) trodAll_mk0))
      simp only [List.append_nil] at t
      exact t)
    (fun _ _ => rfl) (by simp) hb (ok_one (by kernel_rfl) rfl (okWide_bool_mk Try.underlying4 _))⟩

theorem relayoutLocal_over : Rows.relayoutLocalRow.holds Try.pinned (OpenSpec.ofChange Rows.relayoutLocalSpec) :=
  OpenClaim.holds_of_wide 11 Try.f11 rfl rfl rfl rfl rfl rfl rfl ⟨rfl, rfl, rfl, rfl, rfl⟩ rfl rfl rfl rfl rfl (by kernel_rfl) Try.func11 (by kernel_rfl)
    (of_decide_eq_true (by kernel_rfl)) (by unfold Func.isWrapper; first | (rw [if_pos (by decide +kernel)]; kernel_rfl) | (rw [if_neg (by decide +kernel)]; exact ⟨rfl, rfl⟩))
    (fun os started H enc _ => relayoutLocal_lifted os started H enc)

theorem relayoutLocal : Rows.RelayoutLocalSaid := relayoutLocal_over
end Go.Proofs.Ytpkeceifnmmhcaa
