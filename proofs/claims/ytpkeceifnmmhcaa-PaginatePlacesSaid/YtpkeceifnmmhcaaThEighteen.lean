/- Functions of trees that are called with slices of the caller's own and hand back a plain value. -/
import Derived.Test.YtpkeceifnmmhcaaThSeventeen
namespace Go.Th
open Go.RowKit

section
variable {P : Program} {n : Nat} {Q : QA} {E : Env} {H : Heap} {ops : Array Oper} {rest : List Oper} {o : Oper}

theorem Iso_ACv {f : FuncId} {args args' : List PV} {Q : PV → Prop} (h : Iso P f args' Q) (hc : ConvL H args args') (ht : ∀ c ∈ args', Tree c) (hp : ∀ p, Q p → ∃ x, p = .v x) : AC P f args H (fun p H' => Q p ∧ H' = H) := by
  refine ⟨h.1, fun m w vals hR hv => ?_⟩
  obtain ⟨hl, hcc⟩ := hc.all
  have hlt : ∀ b, (closed m H).ro b → b < w.heap.size := fun b hb => by
    rcases hb with hb | ⟨id, B, d, lim, hB, hm⟩
    · exact hR.kl b (hR.rk b hb)
    · exact hR.lt hB hm
  have hv' : RepL { blk := fun _ => none, ro := (closed m H).ro, keep := fun b => b < w.heap.size } w args' vals := ⟨by rw [hl]; exact hv.1, fun j c hj => by
    obtain ⟨c0, h0⟩ : ∃ c0, args[j]? = some c0 := ⟨_, List.getElem?_eq_getElem (by rw [← hl]; exact (List.getElem?_eq_some_iff.1 hj).1)⟩
    have h1 := ht c (List.mem_of_getElem? hj) _ w _ ((hcc j c0 c h0 hj).rep hR ((hv.2 j c0 h0).mono hR.rk (closed_le hR)))
    exact Rep.mono' (m := { closed m H with blk := fun _ => none }) (m' := { blk := fun _ => none, ro := (closed m H).ro, keep := fun b => b < w.heap.size }) (w' := w) (fun _ _ h => h) (fun _ h => h) (fun _ _ _ => rfl) h1⟩
  refine (h.2 { blk := fun _ => none, ro := (closed m H).ro, keep := fun b => b < w.heap.size } w vals hlt (fun b hb => hb) (fun _ => rfl) hv').mono ?_
  rintro e w' ⟨v, p, m', rfl, hq, hr, hn, hle, hk1, hk2⟩
  obtain ⟨x, rfl⟩ := hp p hq
  have hx : v = x := rep_v hr
  have hsame : ∀ b, b < w.heap.size → w'.heap[b]? = w.heap[b]? := fun b hb => hle.same b hb
  obtain ⟨hR', hle'⟩ := hR.world hle.size hle.os hle.tape hle.output (fun b hb => hsame b (hR.kl b hb)) (fun id B b d lim hB hm => hsame b (hR.lt hB hm))
  refine ⟨v, .v x, H, m, rfl, ⟨hq, rfl⟩, ?_, hR', hle'⟩
  cases hr with
  | v _ hna => exact .v _ hna

theorem Iso_Kv {c : Call} {x : Operand} {g : FuncId} {cap args args' : List PV} {u : Value} (ho : o.op = .call c) (hc : c.callee = .value x) (hx : E.ev x = some (.fn (.func g) cap))
    (ha : evs E c.args.toList = some args) (h : Iso P g args' (fun q => q = .v u)) (hcv : ConvL H (args ++ cap) args') (ht : ∀ c ∈ args', Tree c) : OpK P o E H (.v u) H :=
  AC.K ho hc hx ha (Iso_ACv h hcv ht (fun p hp => ⟨u, hp⟩))

theorem wpL_isv {c : Call} {x : Operand} {g : FuncId} {cap args args' : List PV} {QC : PV → Prop} {d : Nat} (hg : o.guard = none) (ho : o.op = .call c) (hc : c.callee = .value x) (hx : E.ev x = some (.fn (.func g) cap))
    (ha : evs E c.args.toList = some args) (hdd : o.dst = some d) (hd : d < n) (h : Iso P g args' QC) (hcv : ConvL H (args ++ cap) args') (ht : ∀ c ∈ args', Tree c) (hp : ∀ p, QC p → ∃ x, p = .v x)
    (k : ∀ p, QC p → wpL P n ops rest Q ((d, p) :: E) H) : wpL P n ops (o :: rest) Q E H :=
  wpL_ac hg ho hc hx ha hdd hd (Iso_ACv h hcv ht hp) (fun p H' ⟨hq, e⟩ => e ▸ k p hq)

/-- Arguments that stand for more. -/
theorem Iso_wk {f : FuncId} {args args' : List PV} {Q : PV → Prop} (h : Iso P f args' Q) (hw : WkL args args') : Iso P f args Q := by
  obtain ⟨hl, hc⟩ := hw.all
  refine ⟨h.1, fun m w vals h1 h2 h3 h4 => h.2 m w vals h1 h2 h3 ⟨by rw [hl]; exact h4.1, fun j c hj => ?_⟩⟩
  obtain ⟨c0, a, b⟩ := hc j c hj
  exact b m w _ (h4.2 j c0 a)
end

section
variable {P : Program} {n : Nat} {l : List Oper} {acc : List PV} {Hs : Nat → Heap} {i : Nat} {o : Oper} {os : List Oper} {p : PV} {E : Env} {d : Nat} {K : Env → Prop}
/-- A quiet call that looks at the heap, behind c writing operations in every order. -/
theorem Y_rk {H : Heap} (c : Nat) (h1 : loCount l i = c) (h2 : hiCount l i = c) (hH : Hs c = H) (hg : o.guard = none) (hl : loudOp o = false) (hd : o.dst = some d) (hn : d < n) (h : OpK P o (opEnv o E) H p H) (k : DY P n l Hs (i + 1) os (p :: acc) ((d, p) :: E) K) : DY P n l Hs i (o :: os) acc E K := by
  refine ⟨p, ⟨fun d' hd' => by rw [hd] at hd'; cases hd'; exact hn, ?_⟩, by rw [hd]; exact k⟩
  rw [hg, hl]
  intro c' hc1 hc2
  have : c' = c := by omega
  subst this
  rw [hH]
  exact h
end
end Go.Th
