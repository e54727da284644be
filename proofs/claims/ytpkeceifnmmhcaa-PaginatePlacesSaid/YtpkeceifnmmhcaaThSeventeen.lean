/- Regions that draw their order, with the values found on the way told backwards: the guards are looked up fast. -/
import Derived.Test.YtpkeceifnmmhcaaThSixteen
namespace Go.Th
open Go.RowKit

def DY (P : Program) (n : Nat) (l : List Oper) (Hs : Nat → Heap) : Nat → List Oper → List PV → Env → (Env → Prop) → Prop
  | _, [], _, E, K => K E
  | i, o :: os, acc, E, K => ∃ p, ((∀ d, o.dst = some d → d < n) ∧
      match o.guard with
      | none => match loudOp o with
        | true => OpK P o (opEnv o E) (Hs (nLoud l i)) p (Hs (nLoud l i + 1))
        | false => ∀ k, loCount l i ≤ k → k ≤ hiCount l i → OpK P o (opEnv o E) (Hs k) p (Hs k)
      | some (j, want) => ∃ b oj, j < i ∧ acc[i - 1 - j]? = some (.v (.bool b)) ∧ l[j]? = some oj ∧ oj.dst.isSome = true ∧
          (b = want → ∀ k, loCount l i ≤ k → k ≤ hiCount l i → OpK P o (opEnv o E) (Hs k) p (Hs k)) ∧ (b ≠ want → p = .v undef)) ∧
    DY P n l Hs (i + 1) os (p :: acc) (match o.dst with | some d => (d, p) :: E | none => E) K

theorem DY.dx {P : Program} {n : Nat} {l : List Oper} {Hs : Nat → Heap} {K : Env → Prop} : ∀ (os : List Oper) (i : Nat) (acc : List PV) (E : Env), acc.length = i → DY P n l Hs i os acc E K → DX P n l Hs i os acc.reverse E K
  | [], i, acc, E, _, h => h
  | o :: os, i, acc, E, hl, ⟨p, ⟨h1, h2⟩, h3⟩ => by
    have h4 := DY.dx os (i + 1) (p :: acc) _ (by simp [hl]) h3
    rw [List.reverse_cons] at h4
    refine ⟨p, ⟨h1, ?_⟩, h4⟩
    cases hg : o.guard with
    | none => rw [hg] at h2; exact h2
    | some jw =>
      rw [hg] at h2
      obtain ⟨b, oj, e0, e1, e2⟩ := h2
      refine ⟨b, oj, ?_, e2⟩
      rw [List.getElem?_reverse (by omega), hl]
      exact e1

theorem wpA_yL {P : Program} {n : Nat} {l : List Oper} {E0 : Env} {Q : QA} {id : Nat} {G : Heap} (L : List Heap) (G' : Heap) {N : Nat} (hm : P.follows .mixedOrders = true) (hB : drawB l = true) (hN : nLoud l l.length = N) (hG : hsL (G :: L) N = G')
    (h : DY P n l (hsL (G :: L)) 0 l [] E0 (fun E => Q .normal E G')) : wpA P n (.region id l.toArray true) Q E0 G :=
  wpA_dL L G' hm hB hN hG (DY.dx l 0 [] E0 rfl h)

theorem wpA_yq {P : Program} {n : Nat} {l : List Oper} {H : Heap} {E0 : Env} {Q : QA} {id : Nat} (hm : P.follows .mixedOrders = true) (hB : drawB l = true)
    (h : DY P n l (fun _ => H) 0 l [] E0 (fun E => Q .normal E H)) : wpA P n (.region id l.toArray true) Q E0 H :=
  wpA_dq hm hB (DY.dx l 0 [] E0 rfl h)

section
variable {P : Program} {n : Nat} {l : List Oper} {acc : List PV} {Hs : Nat → Heap} {i : Nat} {o : Oper} {os : List Oper} {p : PV} {E : Env} {d : Nat} {K : Env → Prop}

theorem Y_end {K : Env → Heap → Prop} {Q : QA} {H : Heap} (h : K E H) : DY P n l Hs i [] acc E (fun E => thenA K Q .normal E H) := h

theorem Y_k (hg : o.guard = none) (hl : loudOp o = false) (hd : o.dst = some d) (hn : d < n) (h : ∀ G, OpK P o (opEnv o E) G p G) (k : DY P n l Hs (i + 1) os (p :: acc) ((d, p) :: E) K) : DY P n l Hs i (o :: os) acc E K := by
  refine ⟨p, ⟨fun d' hd' => by rw [hd] at hd'; cases hd'; exact hn, ?_⟩, by rw [hd]; exact k⟩
  rw [hg, hl]
  exact fun c _ _ => h (Hs c)

theorem Y_v (hg : o.guard = none) (hl : loudOp o = false) (hd : o.dst = some d) (hn : d < n) (h : ∀ G, OpV P o (opEnv o E) G p) (k : DY P n l Hs (i + 1) os (p :: acc) ((d, p) :: E) K) : DY P n l Hs i (o :: os) acc E K :=
  Y_k hg hl hd hn (fun G => (h G).K) k

theorem Y_r {H : Heap} (c : Nat) (h1 : loCount l i = c) (h2 : hiCount l i = c) (hH : Hs c = H) (hg : o.guard = none) (hl : loudOp o = false) (hd : o.dst = some d) (hn : d < n) (h : OpV P o (opEnv o E) H p) (k : DY P n l Hs (i + 1) os (p :: acc) ((d, p) :: E) K) : DY P n l Hs i (o :: os) acc E K := by
  refine ⟨p, ⟨fun d' hd' => by rw [hd] at hd'; cases hd'; exact hn, ?_⟩, by rw [hd]; exact k⟩
  rw [hg, hl]
  intro c' hc1 hc2
  have : c' = c := by omega
  subst this
  rw [hH]
  exact h.K

theorem Y_r2 {H H2 : Heap} (c : Nat) (h1 : loCount l i = c) (h2 : hiCount l i = c + 1) (hH : Hs c = H) (hH2 : Hs (c + 1) = H2) (hg : o.guard = none) (hl : loudOp o = false) (hd : o.dst = some d) (hn : d < n)
    (h : OpV P o (opEnv o E) H p) (h' : OpV P o (opEnv o E) H2 p) (k : DY P n l Hs (i + 1) os (p :: acc) ((d, p) :: E) K) : DY P n l Hs i (o :: os) acc E K := by
  refine ⟨p, ⟨fun d' hd' => by rw [hd] at hd'; cases hd'; exact hn, ?_⟩, by rw [hd]; exact k⟩
  rw [hg, hl]
  intro c' hc1 hc2
  rcases Nat.lt_or_ge c c' with hlt | hge
  · have : c' = c + 1 := by omega
    subst this
    rw [hH2]; exact h'.K
  · have : c' = c := by omega
    subst this
    rw [hH]; exact h.K

theorem Y_q {H : Heap} (hg : o.guard = none) (hl : loudOp o = false) (hd : o.dst = some d) (hn : d < n) (h : OpV P o (opEnv o E) H p) (k : DY P n l (fun _ => H) (i + 1) os (p :: acc) ((d, p) :: E) K) : DY P n l (fun _ => H) i (o :: os) acc E K := by
  refine ⟨p, ⟨fun d' hd' => by rw [hd] at hd'; cases hd'; exact hn, ?_⟩, by rw [hd]; exact k⟩
  rw [hg, hl]
  exact fun _ _ _ => h.K

/-- A quiet call of a function of trees, where nothing is written. -/
theorem Y_kq {H : Heap} (hg : o.guard = none) (hl : loudOp o = false) (hd : o.dst = some d) (hn : d < n) (h : OpK P o (opEnv o E) H p H) (k : DY P n l (fun _ => H) (i + 1) os (p :: acc) ((d, p) :: E) K) : DY P n l (fun _ => H) i (o :: os) acc E K := by
  refine ⟨p, ⟨fun d' hd' => by rw [hd] at hd'; cases hd'; exact hn, ?_⟩, by rw [hd]; exact k⟩
  rw [hg, hl]
  exact fun _ _ _ => h

theorem Y_w {H H' : Heap} (c : Nat) (hc : nLoud l i = c) (h1 : Hs c = H) (hg : o.guard = none) (hl : loudOp o = true) (hd : o.dst = some d) (hn : d < n) (h : OpW P o (opEnv o E) H p H') (h2 : Hs (c + 1) = H') (k : DY P n l Hs (i + 1) os (p :: acc) ((d, p) :: E) K) : DY P n l Hs i (o :: os) acc E K := by
  refine ⟨p, ⟨fun d' hd' => by rw [hd] at hd'; cases hd'; exact hn, ?_⟩, by rw [hd]; exact k⟩
  rw [hg, hl, hc, h1, h2]
  exact h.K

theorem Y_s {H H' : Heap} (c : Nat) (hc : nLoud l i = c) (h1 : Hs c = H) (hg : o.guard = none) (hl : loudOp o = true) (hd : o.dst = none) (h : OpS P o (opEnv o E) H H') (h2 : Hs (c + 1) = H') (k : DY P n l Hs (i + 1) os (.v undef :: acc) E K) : DY P n l Hs i (o :: os) acc E K := by
  refine ⟨.v undef, ⟨(fun d' hd' => by rw [hd] at hd'; cases hd'), ?_⟩, by rw [hd]; exact k⟩
  rw [hg, hl, hc, h1, h2]
  exact h.K

theorem Y_c {H H' : Heap} (c : Nat) (hc : nLoud l i = c) (h1 : Hs c = H) (hg : o.guard = none) (hl : loudOp o = true) (hd : o.dst = some d) (hn : d < n) (h : OpK P o (opEnv o E) H p H') (h2 : Hs (c + 1) = H') (k : DY P n l Hs (i + 1) os (p :: acc) ((d, p) :: E) K) : DY P n l Hs i (o :: os) acc E K := by
  refine ⟨p, ⟨fun d' hd' => by rw [hd] at hd'; cases hd'; exact hn, ?_⟩, by rw [hd]; exact k⟩
  rw [hg, hl, hc, h1, h2]
  exact h

/-- Under a guard that says yes: the operation ahead of the guard's facts. -/
theorem Y_gk {j : Nat} {want : Bool} {oj : Oper} (h : ∀ G, OpK P o (opEnv o E) G p G) (hg : o.guard = some (j, want)) (hji : j < i) (hv : acc[i - 1 - j]? = some (.v (.bool want))) (hj : l[j]? = some oj) (hjd : oj.dst.isSome = true) (hd : o.dst = some d) (hn : d < n)
    (k : DY P n l Hs (i + 1) os (p :: acc) ((d, p) :: E) K) : DY P n l Hs i (o :: os) acc E K := by
  refine ⟨p, ⟨fun d' hd' => by rw [hd] at hd'; cases hd'; exact hn, ?_⟩, by rw [hd]; exact k⟩
  rw [hg]
  exact ⟨want, oj, hji, hv, hj, hjd, fun _ c _ _ => h (Hs c), fun e => absurd rfl e⟩

theorem Y_gv {j : Nat} {want : Bool} {oj : Oper} (h : ∀ G, OpV P o (opEnv o E) G p) (hg : o.guard = some (j, want)) (hji : j < i) (hv : acc[i - 1 - j]? = some (.v (.bool want))) (hj : l[j]? = some oj) (hjd : oj.dst.isSome = true) (hd : o.dst = some d) (hn : d < n)
    (k : DY P n l Hs (i + 1) os (p :: acc) ((d, p) :: E) K) : DY P n l Hs i (o :: os) acc E K :=
  Y_gk (fun G => (h G).K) hg hji hv hj hjd hd hn k

theorem Y_gq {H : Heap} {j : Nat} {want : Bool} {oj : Oper} (h : OpV P o (opEnv o E) H p) (hg : o.guard = some (j, want)) (hji : j < i) (hv : acc[i - 1 - j]? = some (.v (.bool want))) (hj : l[j]? = some oj) (hjd : oj.dst.isSome = true) (hd : o.dst = some d) (hn : d < n)
    (k : DY P n l (fun _ => H) (i + 1) os (p :: acc) ((d, p) :: E) K) : DY P n l (fun _ => H) i (o :: os) acc E K := by
  refine ⟨p, ⟨fun d' hd' => by rw [hd] at hd'; cases hd'; exact hn, ?_⟩, by rw [hd]; exact k⟩
  rw [hg]
  exact ⟨want, oj, hji, hv, hj, hjd, fun _ _ _ _ => h.K, fun e => absurd rfl e⟩

theorem Y_gn {j : Nat} {want b : Bool} {oj : Oper} (hg : o.guard = some (j, want)) (hji : j < i) (hv : acc[i - 1 - j]? = some (.v (.bool b))) (hb : b = !want) (hj : l[j]? = some oj) (hjd : oj.dst.isSome = true) (hd : o.dst = some d) (hn : d < n)
    (k : DY P n l Hs (i + 1) os (.v undef :: acc) ((d, .v undef) :: E) K) : DY P n l Hs i (o :: os) acc E K := by
  refine ⟨.v undef, ⟨fun d' hd' => by rw [hd] at hd'; cases hd'; exact hn, ?_⟩, by rw [hd]; exact k⟩
  rw [hg]
  refine ⟨b, oj, hji, hv, hj, hjd, fun e => ?_, fun _ => rfl⟩
  subst e; cases b <;> simp at hb
end
end Go.Th
