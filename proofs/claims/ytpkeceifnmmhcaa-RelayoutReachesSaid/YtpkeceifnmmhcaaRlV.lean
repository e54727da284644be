/- RelayoutReaches answers true at every argument. -/
import Derived.Test.YtpkeceifnmmhcaaChecked
import Derived.Test.YtpkeceifnmmhcaaPgR
import Derived.WideKeyPair
import Derived.Test.YtpkeceifnmmhcaaRlU
namespace Go.Proofs.Ytpkeceifnmmhcaa
open Go.ChangeShapes Go.WideShapes Go.ChangeAt Go.RowKit Go.Th Go.WideMaps
set_option linter.unusedVariables false

theorem pair_key : ArrKey Try.prog 35 3 2 := ⟨Try.underlying35, by kernel_rfl, by kernel_rfl, by kernel_rfl⟩
theorem rep_pair {m : Mp} {w : World} (a b : Int) : Rep m w (pair a b) (.agg #[.int .i64 a, .int .i64 b]) := .agg _ rfl fun j c hj => by
  match j with
  | 0 => simp at hj; subst hj; exact .v _ rfl
  | 1 => simp at hj; subst hj; exact .v _ rfl
  | j + 2 => simp at hj

set_option maxRecDepth 100000 in
theorem relayoutReaches_lifted (os : Os) (started : os.Started) (H : Type) (enc : TypeId × Value → H) :
    ReturnsInHanded {} Try.checked os 8 .any (Rows.relayoutReachesSpec.pre6 enc Try.prog Try.f8 Rows.relayoutReachesRow.domain false) (Rows.relayoutReachesSpec.post enc Try.prog Try.f8 false true false false) := by
  refine returnsInHanded_of_change (C := Try.checked) own_knob started (by kernel_rfl) Try.func8
    (ChangeSpec.witness6 (enc := enc) (C := Try.checked) false ⟨#[], #[.slice none 0 0, .agg #[.int .i64 0, .int .i64 0], .slice none 0 0], []⟩ 8 (by kernel_rfl) (by kernel_rfl) (by kernel_rfl) (by kernel_rfl)) ?_
  intro W base args ds gs before hval0 hW hcnd _
  have hval : ∀ (j : Nat) t v, Try.f8.params[j]? = some t → args[j]? = some v → Value.okWide Try.prog W .any base t v := hval0
  have hW' := hW
  obtain ⟨p, q, hA0, hV, rfl, hfz, hnd⟩ := hW
  have hA : DataW.TrodAll enc Try.prog W 0 (fun _ => true) true Try.f8.params.toList args.toList ds p := hA0
  rw [Try.params8] at hA hval
  obtain ⟨v0, vs0, d0, ds0, p0, q0, hargs, rfl, rfl, h0, r0⟩ := trodAll_cons hA
  obtain ⟨v1, vs1, d1, ds1, p1, q1, rfl, rfl, rfl, h1, r1⟩ := trodAll_cons r0
  obtain ⟨v2, vs2, d2, ds2, p2, q2, rfl, rfl, rfl, h2, r2⟩ := trodAll_cons r1
  obtain ⟨rfl, rfl, rfl⟩ := trodAll_nil r2
  obtain rfl : args = #[v0, v1, v2] := by cases args; simp_all
  obtain ⟨rfl, rfl⟩ := trodVars_none hV
  obtain ⟨sa0, len0, cap0, rfl⟩ := okWide_slice Try.underlying22 (hval 0 22 v0 rfl rfl)
  have h0k := h0
  obtain ⟨fuel0, hf0⟩ := h0
  obtain ⟨l0, hlm0, hrep0⟩ := read_pieces (by simpa [Value.cells] using hf0)
  obtain ⟨a1, b1, rfl, rfl, rfl, w1, u1⟩ := open_pair pair_key Try.underlying3 (hval 1 35 v1 rfl rfl) h1
  obtain ⟨sa2, len2, cap2, rfl⟩ := okWide_slice Try.underlying22 (hval 2 22 v2 rfl rfl)
  have h2k := h2
  obtain ⟨fuel2, hf2⟩ := h2
  obtain ⟨l2, hlm2, hrep2⟩ := read_pieces (by simpa [Value.cells] using hf2)
  clear hA0 hval0
  simp only [List.append_nil] at hW'
  have hlt : ∀ x ∈ p0 ++ (p2), x.block < W.heap.size := fun x hx => by
    have := hW'.lt x
    try simp only [List.append_nil] at this
    try simp only [List.mem_append] at this
    try simp only [List.append_nil] at hx
    try simp only [List.mem_append] at hx
    exact this (by simp_all)
  refine (iso_below (W := W) (reaches_iso l0 a1 b1 l2 (by simp only [maxLen] at hlm0; omega) (by simp only [maxLen] at hlm2; omega) ) (vals := #[.slice sa0 len0 cap0, .agg #[.int .i64 a1, .int .i64 b1], .slice sa2 len2 cap2]) ⟨rfl, fun j c hj => ?_⟩).mono fun e W' ⟨he, hb⟩ => ?_
  · match j with
    | 0 => simp at hj; subst hj; exact hrep0
    | 1 => simp at hj; subst hj; exact rep_pair _ _
    | 2 => simp at hj; subst hj; exact hrep2
    | j + 3 => simp at hj
  subst he
  exact ⟨_, rfl, post_of_below (pa := p0 ++ (p2)) (pv := []) hW' (fun _ _ _ => (trodAll_cons_mk (shut_bool Try.underlying4 _) trodAll_mk0))
    (fun sp hsp => by
      have t0 := WideElems.Trod_stays (sp' := sp) laid_out (by kernel_rfl) (of_decide_eq_true (by kernel_rfl)) h0k (fun x hx => hb.same (hlt x (by simp [hx]))) (fun x hx => hsp x (by simp [hx]))
      have t2 := WideElems.Trod_stays (sp' := sp) laid_out (by kernel_rfl) (of_decide_eq_true (by kernel_rfl)) h2k (fun x hx => hb.same (hlt x (by simp [hx]))) (fun x hx => hsp x (by simp [hx]))
      have t := trodAll_cons_mk t0 (trodAll_cons_mk (shut_pair pair_key Try.underlying3 w1 u1) (trodAll_cons_mk t2 trodAll_mk0))
      simp only [List.append_nil] at t
      exact t)
    (fun _ _ => rfl) (by simp) hb (ok_one (by kernel_rfl) rfl (okWide_bool_mk Try.underlying4 _))⟩

theorem relayoutReaches_over : Rows.relayoutReachesRow.holds Try.pinned (OpenSpec.ofChange Rows.relayoutReachesSpec) :=
  OpenClaim.holds_of_wide 8 Try.f8 rfl rfl rfl rfl rfl rfl rfl ⟨rfl, rfl, rfl, rfl, rfl⟩ rfl rfl rfl rfl rfl (by kernel_rfl) Try.func8 (by kernel_rfl)
    (of_decide_eq_true (by kernel_rfl)) (by unfold Func.isWrapper; first | (rw [if_pos (by decide +kernel)]; kernel_rfl) | (rw [if_neg (by decide +kernel)]; exact ⟨rfl, rfl⟩))
    (fun os started H enc _ => relayoutReaches_lifted os started H enc)

theorem relayoutReaches : Rows.RelayoutReachesSaid := relayoutReaches_over
end Go.Proofs.Ytpkeceifnmmhcaa
