/- A block that is closed drops out of the list; results, cell by cell. -/
import Derived.Test.YtpmfnjkcoogicaaGreatThB
namespace Go.Th
open Go.RowKit

theorem Has.forget {H : Heap} {L : List (Nat × Blk)} {id : Nat} {B : Blk} (h : Has H ((id, B) :: L)) : Has (H.set id none) L :=
  ⟨fun k i C hk => get_set_ne (h.get (k + 1) i C (by simpa using hk)) (h.ne 0 (k + 1) (id, B) (i, C) (by omega) rfl (by simpa using hk)), h.tail.ne⟩

theorem takeN_all {l : List PV} {n : Nat} (h : l.length = n) : takeN n (l.drop 0) = some l := by
  rw [takeN_eq]; subst h; simp

inductive ConvL (H : Heap) : List PV → List PV → Prop
  | nil : ConvL H [] []
  | cons {c d : PV} {cs ds : List PV} (h : Conv H c d) (k : ConvL H cs ds) : ConvL H (c :: cs) (d :: ds)
theorem ConvL.refl (H : Heap) : ∀ l, ConvL H l l
  | [] => .nil
  | a :: l => .cons (.refl a) (ConvL.refl H l)
theorem ConvL.all {H : Heap} {cs ds : List PV} (h : ConvL H cs ds) : ds.length = cs.length ∧ ∀ (j : Nat) (c d : PV), cs[j]? = some c → ds[j]? = some d → Conv H c d := by
  induction h with
  | nil => exact ⟨rfl, fun j c d h => by simp at h⟩
  | cons h k ih =>
    refine ⟨by simp [ih.1], fun j c d hc hd => ?_⟩
    cases j with
    | zero => simp at hc hd; subst hc; subst hd; exact h
    | succ j => exact ih.2 j c d (by simpa using hc) (by simpa using hd)
theorem ConvL.agg {H : Heap} {cs ds : List PV} (h : ConvL H cs ds) : Conv H (.agg cs) (.agg ds) := .agg h.all.1 h.all.2
/-- A slice of ours that holds trees. -/
theorem Conv.own {H : Heap} {L : List (Nat × Blk)} {k id len sz : Nat} {B : Blk} (hG : Has H L) (hk : L[k]? = some (id, B)) (hl : B.cells.length = len * sz) : Conv H (.sl id 0 len sz) (.tr B.cells len sz) :=
  .sl (hG.get k id B hk) (takeN_all hl) rfl (fun j c d hc hd => by rw [hc] at hd; cases hd; exact .refl _)
theorem loadA_at {H : Heap} {d : TypeDesc} {size id off : Nat} {B : Blk} (hB : H[id]? = some (some B)) : loadA d size H (.ptr id off) = loadC d size B.cells off := by
  simp only [loadA, readA, hB]; rfl
end Go.Th

/- A slice in a cell is closed. -/
namespace Go.Th
open Go.RowKit

theorem R.freeze {m : Mp} {H : Heap} {w : World} {id off len sz : Nat} {B : Blk} {cs : List PV} {v : Value} (h : R m H w) (hB : H[id]? = some (some B)) (hc : takeN (len * sz) (B.cells.drop off) = some cs) (hv : Rep m w (.sl id off len sz) v) :
    ∃ m', Le m w m' w ∧ R m' (H.set id none) w ∧ Rep m' w (.tr cs len sz) v := by
  have hat : At m w 1 [(0, .sl id off len sz)] H ⟨#[v], []⟩ w := ⟨rfl, rfl, m, Le.refl m w, h, fun t p ht => by
    rw [Env.get_cons] at ht
    by_cases e : 0 = t
    · subst e; rw [if_pos rfl] at ht; cases ht; exact hv
    · rw [if_neg e] at ht; simp [Env.get] at ht⟩
  obtain ⟨_, _, m', h3, h4, h5⟩ := hat.freeze (t := 0) rfl hB hc
  exact ⟨m', h3, h4, h5 0 _ rfl⟩

theorem R.altv {m : Mp} {H : Heap} {w : World} {id : Nat} {B : Blk} (h : R m H w) (hB : H[id]? = some (some B)) (B' : Blk) (ho : B'.own = B.own) (he : B'.elem = B.elem) (hl : B'.cells.length = B.cells.length)
    (hc : ∀ (b d lim : Nat) (cur : Array Value), m.blk id = some (b, d, lim) → w.heap[b]? = some (.cells cur B.elem (0, 0)) → ∀ (j : Nat) (c' : PV), B'.cells[j]? = some c' → ∃ c, B.cells[j]? = some c ∧ ∀ v, cur[d + j]? = some v → Rep m w c v → Rep m w c' v) : R m (H.set id (some B')) w := by
  have back : ∀ i C, (H.set id (some B'))[i]? = some (some C) → ∃ D, H[i]? = some (some D) ∧ D.own = C.own ∧ (i = id ∧ C = B' ∨ i ≠ id ∧ D = C) := fun i C hi => by
    rcases set_get hi with ⟨rfl, e⟩ | ⟨hne, hi⟩
    · cases e; exact ⟨B, hB, ho.symm, .inl ⟨rfl, rfl⟩⟩
    · exact ⟨C, hi, rfl, .inr ⟨hne, rfl⟩⟩
  refine ⟨h.rk, h.kl, fun i x hx => by simpa using h.dom i x hx, fun i C b d lim hi hm => ?_, fun i j C D bi di li bj dj lj hne hi hj h1 h2 hmi hmj => ?_, by simpa using h.top⟩
  · obtain ⟨D, hD, hDo, hcase⟩ := back i C hi
    obtain ⟨q1, ⟨cur, c1, c2, c3, c4⟩, q3, q4⟩ := h.blk i D b d lim hD hm
    rcases hcase with ⟨rfl, rfl⟩ | ⟨_, rfl⟩
    · rw [hB] at hD; cases hD
      refine ⟨q1, ⟨cur, by rw [he]; exact c1, c2, by rw [hl]; exact c3, fun j c' hj => ?_⟩, by rw [ho]; exact q3, by rw [ho]; exact q4⟩
      obtain ⟨c, hcj, hcv⟩ := hc b d lim cur hm c1 j c' hj
      obtain ⟨v, hv, hr, h1⟩ := c4 j c hcj
      exact ⟨v, hv, hcv v hv hr, h1⟩
    · exact ⟨q1, ⟨cur, c1, c2, c3, c4⟩, q3, q4⟩
  · obtain ⟨C', hC', hCo, _⟩ := back i C hi
    obtain ⟨D', hD', hDo, _⟩ := back j D hj
    exact h.inj i j C' D' _ _ _ _ _ _ hne hC' hD' (by rw [hCo]; exact h1) (by rw [hDo]; exact h2) hmi hmj

theorem wpA_freezeC {P : Program} {n : Nat} {Q : QA} {E : Env} {H : Heap} {L : List (Nat × Blk)} {id pg len sz : Nat} {B C : Blk} {c : Code} (k j : Nat) (hG : Has H ((id, C) :: L)) (hk : L[k]? = some (pg, B)) (hc : B.cells[j]? = some (.sl id 0 len sz)) (hl : C.cells.length = len * sz)
    (h : ∀ G, Has G (L.set k (pg, { B with cells := B.cells.set j (.tr C.cells len sz) })) → wpA P n c Q E G) : wpA P n c Q E H := by
  rintro m0 w0 a w ⟨h1, h2, m, h3, h4, h5⟩
  have hB := hG.get (k + 1) pg B (by simpa using hk)
  have hC := hG.get 0 id C rfl
  have hB2 : (H.set id none)[pg]? = some (some B) := hG.forget.get k pg B hk
  have hH : Has ((H.set id none).set pg (some { B with cells := B.cells.set j (.tr C.cells len sz) })) (L.set k (pg, { B with cells := B.cells.set j (.tr C.cells len sz) })) := hG.forget.set hk _
  have hjl : j < B.cells.length := (List.getElem?_eq_some_iff.1 hc).1
  cases hm : m.blk pg with
  | none =>
    have hR : R m ((H.set id none).set pg (some { B with cells := B.cells.set j (.tr C.cells len sz) })) w :=
      (h4.kill id).altv hB2 _ rfl rfl (by simp) (fun b d lim cur e _ => by rw [hm] at e; cases e)
    exact h _ hH m0 w0 a w ⟨h1, h2, m, h3, hR, h5⟩
  | some x =>
    obtain ⟨b, d, lim⟩ := x
    obtain ⟨rfl, ⟨cur, c1, c2, c3, c4⟩, _, _⟩ := h4.blk pg B b d lim hB hm
    obtain ⟨v, hv, hr, _⟩ := c4 j _ hc
    obtain ⟨m', hle, hR', hr'⟩ := h4.freeze hC (takeN_all hl) hr
    have hR : R m' ((H.set id none).set pg (some { B with cells := B.cells.set j (.tr C.cells len sz) })) w := by
      refine hR'.altv hB2 _ rfl rfl (by simp) (fun b' d' lim' cur' e e' j' c' hj' => ?_)
      have e2 := hle.blk pg _ hm
      rw [e2] at e; cases e
      rw [c1] at e'; cases e'
      rcases listset hj' with ⟨rfl, rfl⟩ | ⟨_, hj'⟩
      · exact ⟨_, hc, fun u hu _ => by rw [hv] at hu; cases hu; exact hr'⟩
      · exact ⟨c', hj', fun u _ hu => hu⟩
    exact h _ hH m0 w0 a w ⟨h1, h2, m', h3.trans hle, hR, h5.mono h4.rk hle⟩

/-- An operation that looks at the heap, with or without one writing operation ahead of it. -/
theorem D_r2 {P : Program} {n : Nat} {l : List Oper} {acc : List PV} {Hs : Nat → Heap} {i : Nat} {o : Oper} {os : List Oper} {p : PV} {E : Env} {d : Nat} {K : Env → Prop} {H H2 : Heap} (c : Nat) (h1 : loCount l i = c) (h2 : hiCount l i = c + 1) (hH : Hs c = H) (hH2 : Hs (c + 1) = H2) (hg : o.guard = none) (hl : loudOp o = false) (hd : o.dst = some d) (hn : d < n)
    (h : OpV P o (opEnv o E) H p) (h' : OpV P o (opEnv o E) H2 p) (k : DX P n l Hs (i + 1) os (acc ++ [p]) ((d, p) :: E) K) : DX P n l Hs i (o :: os) acc E K := by
  refine ⟨p, ⟨fun d' hd' => by rw [hd] at hd'; cases hd'; exact hn, ?_⟩, by rw [hd]; exact k⟩
  rw [hg, hl]
  intro c' hc1 hc2
  rcases Nat.lt_or_ge c c' with hlt | hge
  · have : c' = c + 1 := by omega
    subst this
    rw [hH2]; exact h'.K
  · have : c' = c := by omega
    subst this
    rw [hH]; exact h.K
end Go.Th

/- Cells that stand for less: a nil slice as a slice of no cells. -/
namespace Go.Th
open Go.RowKit

def Wk (c c' : PV) : Prop := ∀ m w v, Rep m w c v → Rep m w c' v
theorem Wk.refl (c : PV) : Wk c c := fun _ _ _ h => h
theorem Wk.nil (sz : Nat) : Wk (.v (.slice none 0 0)) (.tr [] 0 sz) := fun m w v h => by rw [rep_v h]; exact .trn

inductive WkL : List PV → List PV → Prop
  | nil : WkL [] []
  | cons {c d : PV} {cs ds : List PV} (h : Wk c d) (k : WkL cs ds) : WkL (c :: cs) (d :: ds)
theorem WkL.refl : ∀ l, WkL l l
  | [] => .nil
  | a :: l => .cons (.refl a) (WkL.refl l)
theorem WkL.app {a b c d : List PV} (h : WkL a b) (k : WkL c d) : WkL (a ++ c) (b ++ d) := by
  induction h with
  | nil => exact k
  | cons h _ ih => exact .cons h ih
theorem WkL.all {cs ds : List PV} (h : WkL cs ds) : ds.length = cs.length ∧ ∀ (j : Nat) (d : PV), ds[j]? = some d → ∃ c, cs[j]? = some c ∧ Wk c d := by
  induction h with
  | nil => exact ⟨rfl, fun j d h => by simp at h⟩
  | cons h k ih =>
    refine ⟨by simp [ih.1], fun j d hd => ?_⟩
    cases j with
    | zero => simp at hd; subst hd; exact ⟨_, rfl, h⟩
    | succ j => exact ih.2 j d (by simpa using hd)

theorem Wk.agg {cs ds : List PV} (h : WkL cs ds) : Wk (.agg cs) (.agg ds) := fun m w v hr => by
  obtain ⟨hl, hc⟩ := h.all
  cases hr with
  | agg vs a b =>
    refine .agg vs (by rw [a, hl]) fun j d hd => ?_
    obtain ⟨c, hc1, hc2⟩ := hc j d hd
    exact hc2 m w _ (b j c hc1)

theorem Wk.tr {cs ds : List PV} {len sz : Nat} (h : WkL cs ds) : Wk (.tr cs len sz) (.tr ds len sz) := fun m w v hr => by
  obtain ⟨hl, hc⟩ := h.all
  cases hr with
  | tr f a b c d e g =>
    refine .tr f a (by rw [hl, b]) c d (fun j q hq => ?_) (fun j q hq => ?_)
    · obtain ⟨c', hc1, hc2⟩ := hc j q hq
      exact e j c' hc1
    · obtain ⟨c', hc1, hc2⟩ := hc j q hq
      exact hc2 m w _ (g j c' hc1)
  | tr0 a b =>
    have : ds = [] := List.length_eq_zero_iff.1 (by rw [hl]; rfl)
    subst this; exact .tr0 a b
  | trn =>
    have : ds = [] := List.length_eq_zero_iff.1 (by rw [hl]; rfl)
    subst this; exact .trn

theorem wpA_wk {P : Program} {n : Nat} {Q : QA} {E : Env} {H : Heap} {c : Code} (t : Nat) {p p' : PV} (ht : E.get t = some p) (hw : Wk p p') (h : wpA P n c Q ((t, p') :: E) H) : wpA P n c Q E H := by
  rintro m0 w0 a w ⟨h1, h2, m, h3, h4, h5⟩
  refine h m0 w0 a w ⟨h1, h2, m, h3, h4, fun t' q hq => ?_⟩
  rw [Env.get_cons] at hq
  by_cases e : t = t'
  · subst e
    rw [if_pos rfl] at hq; cases hq
    exact hw m w _ (h5 t p ht)
  · rw [if_neg e] at hq
    exact h5 t' q hq

theorem wpA_altC {P : Program} {n : Nat} {Q : QA} {E : Env} {H : Heap} {L : List (Nat × Blk)} {pg : Nat} {B : Blk} {cs : List PV} {c : Code} (k : Nat) (hG : Has H L) (hk : L[k]? = some (pg, B)) (hw : WkL B.cells cs)
    (h : ∀ G, Has G (L.set k (pg, { B with cells := cs })) → wpA P n c Q E G) : wpA P n c Q E H := by
  rintro m0 w0 a w ⟨h1, h2, m, h3, h4, h5⟩
  obtain ⟨hl, hc⟩ := hw.all
  have hR := h4.alt (hG.get k pg B hk) { B with cells := cs } rfl rfl hl (fun j d hd => let ⟨c, c1, c2⟩ := hc j d hd; ⟨c, c1, fun v hv => c2 m w v hv⟩)
  exact h _ (hG.set hk _) m0 w0 a w ⟨h1, h2, m, h3, hR, h5⟩

theorem wpL_altC {P : Program} {n : Nat} {Q : QA} {E : Env} {H : Heap} {ops : Array Oper} {rest : List Oper} {L : List (Nat × Blk)} {pg : Nat} {B : Blk} {cs : List PV} (k : Nat) (hG : Has H L) (hk : L[k]? = some (pg, B)) (hw : WkL B.cells cs)
    (h : ∀ G, Has G (L.set k (pg, { B with cells := cs })) → wpL P n ops rest Q E G) : wpL P n ops rest Q E H := by
  rintro m0 w0 a w ⟨h1, h2, m, h3, h4, h5⟩
  obtain ⟨hl, hc⟩ := hw.all
  have hR := h4.alt (hG.get k pg B hk) { B with cells := cs } rfl rfl hl (fun j d hd => let ⟨c, c1, c2⟩ := hc j d hd; ⟨c, c1, fun v hv => c2 m w v hv⟩)
  exact h _ (hG.set hk _) m0 w0 a w ⟨h1, h2, m, h3, hR, h5⟩

theorem wpL_freeze {P : Program} {n : Nat} {Q : QA} {E : Env} {H : Heap} {ops : Array Oper} {rest : List Oper} (t : Nat) {id off len sz : Nat} {B : Blk} {cs : List PV} (ht : E.get t = some (.sl id off len sz)) (hB : H[id]? = some (some B)) (hc : takeN (len * sz) (B.cells.drop off) = some cs)
    (h : wpL P n ops rest Q ((t, .tr cs len sz) :: E) (H.set id none)) : wpL P n ops rest Q E H := fun m0 w0 a w hat => h m0 w0 a w (hat.freeze ht hB hc)
theorem ndec_t {p : Prop} [Decidable p] (h : ¬ p) : (!decide p) = true := by simp [h]
theorem ndec_f {p : Prop} [Decidable p] (h : p) : (!decide p) = false := by simp [h]
end Go.Th

/- Regions that draw their order, with the values found on the way told backwards: the guards are looked up fast. -/
namespace Go.Th
open Go.RowKit

def DY (P : Program) (n : Nat) (l : List Oper) (Hs : Nat → Heap) : Nat → List Oper → List PV → Env → (Env → Prop) → Prop
  | _, [], _, E, K => K E
  | i, o :: os, acc, E, K => ∃ p, ((∀ d, o.dst = some d → d < n) ∧
      match o.guard with
      | none => match loudOp o with
        | true => OpK P o (opEnv o E) (Hs (nLoud l i)) p (Hs (nLoud l i + 1))
        | false => ∀ k, loCount l i ≤ k → k ≤ hiCount l i → OpK P o (opEnv o E) (Hs k) p (Hs k)
      | some (j, want) => ∃ b oj, j < i ∧ acc[i - 1 - j]? = some (.v (.bool b)) ∧ l[j]? = some oj ∧ oj.dst.isSome = true ∧
          (b = want → ∀ k, loCount l i ≤ k → k ≤ hiCount l i → OpK P o (opEnv o E) (Hs k) p (Hs k)) ∧ (b ≠ want → p = .v undef)) ∧
    DY P n l Hs (i + 1) os (p :: acc) (match o.dst with | some d => (d, p) :: E | none => E) K

theorem DY.dx {P : Program} {n : Nat} {l : List Oper} {Hs : Nat → Heap} {K : Env → Prop} : ∀ (os : List Oper) (i : Nat) (acc : List PV) (E : Env), acc.length = i → DY P n l Hs i os acc E K → DX P n l Hs i os acc.reverse E K
  | [], i, acc, E, _, h => h
  | o :: os, i, acc, E, hl, ⟨p, ⟨h1, h2⟩, h3⟩ => by
    have h4 := DY.dx os (i + 1) (p :: acc) _ (by simp [hl]) h3
    rw [List.reverse_cons] at h4
    refine ⟨p, ⟨h1, ?_⟩, h4⟩
    cases hg : o.guard with
    | none => rw [hg] at h2; exact h2
    | some jw =>
      rw [hg] at h2
      obtain ⟨b, oj, e0, e1, e2⟩ := h2
      refine ⟨b, oj, ?_, e2⟩
      rw [List.getElem?_reverse (by omega), hl]
      exact e1

theorem wpA_yL {P : Program} {n : Nat} {l : List Oper} {E0 : Env} {Q : QA} {id : Nat} {G : Heap} (L : List Heap) (G' : Heap) {N : Nat} (hm : P.follows .mixedOrders = true) (hB : drawB l = true) (hN : nLoud l l.length = N) (hG : hsL (G :: L) N = G')
    (h : DY P n l (hsL (G :: L)) 0 l [] E0 (fun E => Q .normal E G')) : wpA P n (.region id l.toArray true) Q E0 G :=
  wpA_dL L G' hm hB hN hG (DY.dx l 0 [] E0 rfl h)

theorem wpA_yq {P : Program} {n : Nat} {l : List Oper} {H : Heap} {E0 : Env} {Q : QA} {id : Nat} (hm : P.follows .mixedOrders = true) (hB : drawB l = true)
    (h : DY P n l (fun _ => H) 0 l [] E0 (fun E => Q .normal E H)) : wpA P n (.region id l.toArray true) Q E0 H :=
  wpA_dq hm hB (DY.dx l 0 [] E0 rfl h)

section
variable {P : Program} {n : Nat} {l : List Oper} {acc : List PV} {Hs : Nat → Heap} {i : Nat} {o : Oper} {os : List Oper} {p : PV} {E : Env} {d : Nat} {K : Env → Prop}

theorem Y_end {K : Env → Heap → Prop} {Q : QA} {H : Heap} (h : K E H) : DY P n l Hs i [] acc E (fun E => thenA K Q .normal E H) := h

theorem Y_k (hg : o.guard = none) (hl : loudOp o = false) (hd : o.dst = some d) (hn : d < n) (h : ∀ G, OpK P o (opEnv o E) G p G) (k : DY P n l Hs (i + 1) os (p :: acc) ((d, p) :: E) K) : DY P n l Hs i (o :: os) acc E K := by
  refine ⟨p, ⟨fun d' hd' => by rw [hd] at hd'; cases hd'; exact hn, ?_⟩, by rw [hd]; exact k⟩
  rw [hg, hl]
  exact fun c _ _ => h (Hs c)

theorem Y_v (hg : o.guard = none) (hl : loudOp o = false) (hd : o.dst = some d) (hn : d < n) (h : ∀ G, OpV P o (opEnv o E) G p) (k : DY P n l Hs (i + 1) os (p :: acc) ((d, p) :: E) K) : DY P n l Hs i (o :: os) acc E K :=
  Y_k hg hl hd hn (fun G => (h G).K) k

theorem Y_r {H : Heap} (c : Nat) (h1 : loCount l i = c) (h2 : hiCount l i = c) (hH : Hs c = H) (hg : o.guard = none) (hl : loudOp o = false) (hd : o.dst = some d) (hn : d < n) (h : OpV P o (opEnv o E) H p) (k : DY P n l Hs (i + 1) os (p :: acc) ((d, p) :: E) K) : DY P n l Hs i (o :: os) acc E K := by
  refine ⟨p, ⟨fun d' hd' => by rw [hd] at hd'; cases hd'; exact hn, ?_⟩, by rw [hd]; exact k⟩
  rw [hg, hl]
  intro c' hc1 hc2
  have : c' = c := by omega
  subst this
  rw [hH]
  exact h.K

theorem Y_r2 {H H2 : Heap} (c : Nat) (h1 : loCount l i = c) (h2 : hiCount l i = c + 1) (hH : Hs c = H) (hH2 : Hs (c + 1) = H2) (hg : o.guard = none) (hl : loudOp o = false) (hd : o.dst = some d) (hn : d < n)
    (h : OpV P o (opEnv o E) H p) (h' : OpV P o (opEnv o E) H2 p) (k : DY P n l Hs (i + 1) os (p :: acc) ((d, p) :: E) K) : DY P n l Hs i (o :: os) acc E K := by
  refine ⟨p, ⟨fun d' hd' => by rw [hd] at hd'; cases hd'; exact hn, ?_⟩, by rw [hd]; exact k⟩
  rw [hg, hl]
  intro c' hc1 hc2
  rcases Nat.lt_or_ge c c' with hlt | hge
  · have : c' = c + 1 := by omega
    subst this
    rw [hH2]; exact h'.K
  · have : c' = c := by omega
    subst this
    rw [hH]; exact h.K

theorem Y_q {H : Heap} (hg : o.guard = none) (hl : loudOp o = false) (hd : o.dst = some d) (hn : d < n) (h : OpV P o (opEnv o E) H p) (k : DY P n l (fun _ => H) (i + 1) os (p :: acc) ((d, p) :: E) K) : DY P n l (fun _ => H) i (o :: os) acc E K := by
  refine ⟨p, ⟨fun d' hd' => by rw [hd] at hd'; cases hd'; exact hn, ?_⟩, by rw [hd]; exact k⟩
  rw [hg, hl]
  exact fun _ _ _ => h.K

/-- A quiet call of a function of trees, where nothing is written. -/
theorem Y_kq {H : Heap} (hg : o.guard = none) (hl : loudOp o = false) (hd : o.dst = some d) (hn : d < n) (h : OpK P o (opEnv o E) H p H) (k : DY P n l (fun _ => H) (i + 1) os (p :: acc) ((d, p) :: E) K) : DY P n l (fun _ => H) i (o :: os) acc E K := by
  refine ⟨p, ⟨fun d' hd' => by rw [hd] at hd'; cases hd'; exact hn, ?_⟩, by rw [hd]; exact k⟩
  rw [hg, hl]
  exact fun _ _ _ => h

theorem Y_w {H H' : Heap} (c : Nat) (hc : nLoud l i = c) (h1 : Hs c = H) (hg : o.guard = none) (hl : loudOp o = true) (hd : o.dst = some d) (hn : d < n) (h : OpW P o (opEnv o E) H p H') (h2 : Hs (c + 1) = H') (k : DY P n l Hs (i + 1) os (p :: acc) ((d, p) :: E) K) : DY P n l Hs i (o :: os) acc E K := by
  refine ⟨p, ⟨fun d' hd' => by rw [hd] at hd'; cases hd'; exact hn, ?_⟩, by rw [hd]; exact k⟩
  rw [hg, hl, hc, h1, h2]
  exact h.K

theorem Y_s {H H' : Heap} (c : Nat) (hc : nLoud l i = c) (h1 : Hs c = H) (hg : o.guard = none) (hl : loudOp o = true) (hd : o.dst = none) (h : OpS P o (opEnv o E) H H') (h2 : Hs (c + 1) = H') (k : DY P n l Hs (i + 1) os (.v undef :: acc) E K) : DY P n l Hs i (o :: os) acc E K := by
  refine ⟨.v undef, ⟨(fun d' hd' => by rw [hd] at hd'; cases hd'), ?_⟩, by rw [hd]; exact k⟩
  rw [hg, hl, hc, h1, h2]
  exact h.K

theorem Y_c {H H' : Heap} (c : Nat) (hc : nLoud l i = c) (h1 : Hs c = H) (hg : o.guard = none) (hl : loudOp o = true) (hd : o.dst = some d) (hn : d < n) (h : OpK P o (opEnv o E) H p H') (h2 : Hs (c + 1) = H') (k : DY P n l Hs (i + 1) os (p :: acc) ((d, p) :: E) K) : DY P n l Hs i (o :: os) acc E K := by
  refine ⟨p, ⟨fun d' hd' => by rw [hd] at hd'; cases hd'; exact hn, ?_⟩, by rw [hd]; exact k⟩
  rw [hg, hl, hc, h1, h2]
  exact h

/-- Under a guard that says yes: the operation ahead of the guard's facts. -/
theorem Y_gk {j : Nat} {want : Bool} {oj : Oper} (h : ∀ G, OpK P o (opEnv o E) G p G) (hg : o.guard = some (j, want)) (hji : j < i) (hv : acc[i - 1 - j]? = some (.v (.bool want))) (hj : l[j]? = some oj) (hjd : oj.dst.isSome = true) (hd : o.dst = some d) (hn : d < n)
    (k : DY P n l Hs (i + 1) os (p :: acc) ((d, p) :: E) K) : DY P n l Hs i (o :: os) acc E K := by
  refine ⟨p, ⟨fun d' hd' => by rw [hd] at hd'; cases hd'; exact hn, ?_⟩, by rw [hd]; exact k⟩
  rw [hg]
  exact ⟨want, oj, hji, hv, hj, hjd, fun _ c _ _ => h (Hs c), fun e => absurd rfl e⟩

theorem Y_gv {j : Nat} {want : Bool} {oj : Oper} (h : ∀ G, OpV P o (opEnv o E) G p) (hg : o.guard = some (j, want)) (hji : j < i) (hv : acc[i - 1 - j]? = some (.v (.bool want))) (hj : l[j]? = some oj) (hjd : oj.dst.isSome = true) (hd : o.dst = some d) (hn : d < n)
    (k : DY P n l Hs (i + 1) os (p :: acc) ((d, p) :: E) K) : DY P n l Hs i (o :: os) acc E K :=
  Y_gk (fun G => (h G).K) hg hji hv hj hjd hd hn k

theorem Y_gq {H : Heap} {j : Nat} {want : Bool} {oj : Oper} (h : OpV P o (opEnv o E) H p) (hg : o.guard = some (j, want)) (hji : j < i) (hv : acc[i - 1 - j]? = some (.v (.bool want))) (hj : l[j]? = some oj) (hjd : oj.dst.isSome = true) (hd : o.dst = some d) (hn : d < n)
    (k : DY P n l (fun _ => H) (i + 1) os (p :: acc) ((d, p) :: E) K) : DY P n l (fun _ => H) i (o :: os) acc E K := by
  refine ⟨p, ⟨fun d' hd' => by rw [hd] at hd'; cases hd'; exact hn, ?_⟩, by rw [hd]; exact k⟩
  rw [hg]
  exact ⟨want, oj, hji, hv, hj, hjd, fun _ _ _ _ => h.K, fun e => absurd rfl e⟩

theorem Y_gn {j : Nat} {want b : Bool} {oj : Oper} (hg : o.guard = some (j, want)) (hji : j < i) (hv : acc[i - 1 - j]? = some (.v (.bool b))) (hb : b = !want) (hj : l[j]? = some oj) (hjd : oj.dst.isSome = true) (hd : o.dst = some d) (hn : d < n)
    (k : DY P n l Hs (i + 1) os (.v undef :: acc) ((d, .v undef) :: E) K) : DY P n l Hs i (o :: os) acc E K := by
  refine ⟨.v undef, ⟨fun d' hd' => by rw [hd] at hd'; cases hd'; exact hn, ?_⟩, by rw [hd]; exact k⟩
  rw [hg]
  refine ⟨b, oj, hji, hv, hj, hjd, fun e => ?_, fun _ => rfl⟩
  subst e; cases b <;> simp at hb
end
end Go.Th

/- Functions of trees that are called with slices of the caller's own and hand back a plain value. -/
namespace Go.Th
open Go.RowKit
set_option linter.unusedVariables false

section
variable {P : Program} {n : Nat} {Q : QA} {E : Env} {H : Heap} {ops : Array Oper} {rest : List Oper} {o : Oper}

theorem Iso_ACv {f : FuncId} {args args' : List PV} {Q : PV → Prop} (h : Iso P f args' Q) (hc : ConvL H args args') (ht : ∀ c ∈ args', Tree c) (hp : ∀ p, Q p → ∃ x, p = .v x) : AC P f args H (fun p H' => Q p ∧ H' = H) := by
  refine ⟨h.1, fun m w vals hR hv => ?_⟩
  obtain ⟨hl, hcc⟩ := hc.all
  have hlt : ∀ b, (closed m H).ro b → b < w.heap.size := fun b hb => by
    rcases hb with hb | ⟨id, B, d, lim, hB, hm⟩
    · exact hR.kl b (hR.rk b hb)
    · exact hR.lt hB hm
  have hv' : RepL { blk := fun _ => none, ro := (closed m H).ro, keep := fun b => b < w.heap.size } w args' vals := ⟨by rw [hl]; exact hv.1, fun j c hj => by
    obtain ⟨c0, h0⟩ : ∃ c0, args[j]? = some c0 := ⟨_, List.getElem?_eq_getElem (by rw [← hl]; exact (List.getElem?_eq_some_iff.1 hj).1)⟩
    have h1 := ht c (List.mem_of_getElem? hj) _ w _ ((hcc j c0 c h0 hj).rep hR ((hv.2 j c0 h0).mono hR.rk (closed_le hR)))
    exact Rep.mono' (m := { closed m H with blk := fun _ => none }) (m' := { blk := fun _ => none, ro := (closed m H).ro, keep := fun b => b < w.heap.size }) (w' := w) (fun _ _ h => h) (fun _ h => h) (fun _ _ _ => rfl) h1⟩
  refine (h.2 { blk := fun _ => none, ro := (closed m H).ro, keep := fun b => b < w.heap.size } w vals hlt (fun b hb => hb) (fun _ => rfl) hv').mono ?_
  rintro e w' ⟨v, p, m', rfl, hq, hr, hn, hle, hk1, hk2⟩
  obtain ⟨x, rfl⟩ := hp p hq
  have hx : v = x := rep_v hr
  have hsame : ∀ b, b < w.heap.size → w'.heap[b]? = w.heap[b]? := fun b hb => hle.same b hb
  obtain ⟨hR', hle'⟩ := hR.world hle.size hle.os hle.tape hle.output (fun b hb => hsame b (hR.kl b hb)) (fun id B b d lim hB hm => hsame b (hR.lt hB hm))
  refine ⟨v, .v x, H, m, rfl, ⟨hq, rfl⟩, ?_, hR', hle'⟩
  cases hr with
  | v _ hna => exact .v _ hna

theorem Iso_Kv {c : Call} {x : Operand} {g : FuncId} {cap args args' : List PV} {u : Value} (ho : o.op = .call c) (hc : c.callee = .value x) (hx : E.ev x = some (.fn (.func g) cap))
    (ha : evs E c.args.toList = some args) (h : Iso P g args' (fun q => q = .v u)) (hcv : ConvL H (args ++ cap) args') (ht : ∀ c ∈ args', Tree c) : OpK P o E H (.v u) H :=
  AC.K ho hc hx ha (Iso_ACv h hcv ht (fun p hp => ⟨u, hp⟩))

theorem wpL_isv {c : Call} {x : Operand} {g : FuncId} {cap args args' : List PV} {QC : PV → Prop} {d : Nat} (hg : o.guard = none) (ho : o.op = .call c) (hc : c.callee = .value x) (hx : E.ev x = some (.fn (.func g) cap))
    (ha : evs E c.args.toList = some args) (hdd : o.dst = some d) (hd : d < n) (h : Iso P g args' QC) (hcv : ConvL H (args ++ cap) args') (ht : ∀ c ∈ args', Tree c) (hp : ∀ p, QC p → ∃ x, p = .v x)
    (k : ∀ p, QC p → wpL P n ops rest Q ((d, p) :: E) H) : wpL P n ops (o :: rest) Q E H :=
  wpL_ac hg ho hc hx ha hdd hd (Iso_ACv h hcv ht hp) (fun p H' ⟨hq, e⟩ => e ▸ k p hq)

/-- Arguments that stand for more. -/
theorem Iso_wk {f : FuncId} {args args' : List PV} {Q : PV → Prop} (h : Iso P f args' Q) (hw : WkL args args') : Iso P f args Q := by
  obtain ⟨hl, hc⟩ := hw.all
  refine ⟨h.1, fun m w vals h1 h2 h3 h4 => h.2 m w vals h1 h2 h3 ⟨by rw [hl]; exact h4.1, fun j c hj => ?_⟩⟩
  obtain ⟨c0, a, b⟩ := hc j c hj
  exact b m w _ (h4.2 j c0 a)
end

section
variable {P : Program} {n : Nat} {l : List Oper} {acc : List PV} {Hs : Nat → Heap} {i : Nat} {o : Oper} {os : List Oper} {p : PV} {E : Env} {d : Nat} {K : Env → Prop}
/-- A quiet call that looks at the heap, behind c writing operations in every order. -/
theorem Y_rk {H : Heap} (c : Nat) (h1 : loCount l i = c) (h2 : hiCount l i = c) (hH : Hs c = H) (hg : o.guard = none) (hl : loudOp o = false) (hd : o.dst = some d) (hn : d < n) (h : OpK P o (opEnv o E) H p H) (k : DY P n l Hs (i + 1) os (p :: acc) ((d, p) :: E) K) : DY P n l Hs i (o :: os) acc E K := by
  refine ⟨p, ⟨fun d' hd' => by rw [hd] at hd'; cases hd'; exact hn, ?_⟩, by rw [hd]; exact k⟩
  rw [hg, hl]
  intro c' hc1 hc2
  have : c' = c := by omega
  subst this
  rw [hH]
  exact h
end
end Go.Th

/- Operations under a guard of which nothing is known: the value stands under the same question. -/
namespace Go.Th
open Go.RowKit
set_option linter.unusedVariables false

/-- p, if the guard says what is wanted. -/
def gv (b want : Bool) (p : PV) : PV := match b == want with
  | true => p
  | false => .v undef
theorem gv_same (b : Bool) (p : PV) : gv b b p = p := by cases b <;> rfl
theorem gv_not {b want : Bool} (h : b ≠ want) (p : PV) : gv b want p = .v undef := by cases b <;> cases want <;> first | rfl | exact absurd rfl h

section
variable {P : Program} {n : Nat} {Q : QA} {E : Env} {H : Heap} {ops : Array Oper} {rest : List Oper} {o : Oper} {p : PV} {d : Nat}

theorem wpL_kk {H' : Heap} (hg : o.guard = none) (hd : o.dst = some d) (hn : d < n) (h : OpK P o E H p H') (k : wpL P n ops rest Q ((d, p) :: E) H') : wpL P n ops (o :: rest) Q E H := by
  rintro m0 w0 a w ⟨h1, h2, m, h3, h4, h5⟩
  refine wpList_plain hg fun K hK => ?_
  refine h m w a _ _ h4 (fun x q hx => h5.ev hx) fun v m' w' hle hR hr => ?_
  rw [hd]
  exact hK _ _ (k m0 w0 (a.put (some d) v) w' ⟨by simp [Act.put, h1], h2, m', h3.trans hle, hR, (h5.mono h4.rk hle).put (by omega) hr⟩)

theorem wpL_gk {og : Oper} {j dj : Nat} {want b : Bool} (h : b = want → OpK P { o with guard := none } E H p H) (hg : o.guard = some (j, want)) (hj : ops[j]? = some og) (hdj : og.dst = some dj) (hb : E.get dj = some (.v (.bool b))) (hd : o.dst = some d) (hn : d < n)
    (k : wpL P n ops rest Q ((d, gv b want p) :: E) H) : wpL P n ops (o :: rest) Q E H :=
  wpL_g hg hj hdj hb hd hn (fun e => wpL_kk rfl hd hn (h e) (by subst e; rw [gv_same] at k; exact k)) (fun e => by rw [gv_not e] at k; exact k)
theorem wpL_gv {og : Oper} {j dj : Nat} {want b : Bool} (h : b = want → OpV P { o with guard := none } E H p) (hg : o.guard = some (j, want)) (hj : ops[j]? = some og) (hdj : og.dst = some dj) (hb : E.get dj = some (.v (.bool b))) (hd : o.dst = some d) (hn : d < n)
    (k : wpL P n ops rest Q ((d, gv b want p) :: E) H) : wpL P n ops (o :: rest) Q E H :=
  wpL_gk (fun e => (h e).K) hg hj hdj hb hd hn k

theorem OpV_and {c a z : Operand} {b x : Bool} (ho : o.op = .pick c a z) (hc : E.ev c = some (.v (.bool b))) (ha : b = true → E.ev a = some (.v (.bool x))) (hz : E.ev z = some (.v (.bool false))) : OpV P o E H (.v (.bool (b && x))) := by
  cases b with
  | true => exact OpV_pick_t ho hc rfl (ha rfl)
  | false => exact OpV_pick_f ho hc rfl hz
theorem OpV_or {c a z : Operand} {b x : Bool} (ho : o.op = .pick c a z) (hc : E.ev c = some (.v (.bool b))) (ha : E.ev a = some (.v (.bool true))) (hz : b = false → E.ev z = some (.v (.bool x))) : OpV P o E H (.v (.bool (b || x))) := by
  cases b with
  | true => exact OpV_pick_t ho hc rfl ha
  | false => exact OpV_pick_f ho hc rfl (hz rfl)
theorem wpL_vb {b : Bool} (hg : o.guard = none) (hd : o.dst = some d) (hn : d < n) (h : OpV P o E H (.v (.bool b))) (k : ∀ b', b' = b → wpL P n ops rest Q ((d, .v (.bool b')) :: E) H) : wpL P n ops (o :: rest) Q E H :=
  wpL_v hg hd hn h (k b rfl)
end

section
variable {P : Program} {n : Nat} {l : List Oper} {acc : List PV} {Hs : Nat → Heap} {i : Nat} {o : Oper} {os : List Oper} {p : PV} {E : Env} {d : Nat} {K : Env → Prop}

theorem Y_ggk {j : Nat} {want b : Bool} {oj : Oper} (h : b = want → ∀ G, OpK P o (opEnv o E) G p G) (hg : o.guard = some (j, want)) (hji : j < i) (hv : acc[i - 1 - j]? = some (.v (.bool b))) (hj : l[j]? = some oj) (hjd : oj.dst.isSome = true) (hd : o.dst = some d) (hn : d < n)
    (k : DY P n l Hs (i + 1) os (gv b want p :: acc) ((d, gv b want p) :: E) K) : DY P n l Hs i (o :: os) acc E K := by
  refine ⟨gv b want p, ⟨fun d' hd' => by rw [hd] at hd'; cases hd'; exact hn, ?_⟩, by rw [hd]; exact k⟩
  rw [hg]
  exact ⟨b, oj, hji, hv, hj, hjd, fun e c _ _ => by subst e; rw [gv_same]; exact h rfl (Hs c), fun e => gv_not e p⟩
theorem Y_ggv {j : Nat} {want b : Bool} {oj : Oper} (h : b = want → ∀ G, OpV P o (opEnv o E) G p) (hg : o.guard = some (j, want)) (hji : j < i) (hv : acc[i - 1 - j]? = some (.v (.bool b))) (hj : l[j]? = some oj) (hjd : oj.dst.isSome = true) (hd : o.dst = some d) (hn : d < n)
    (k : DY P n l Hs (i + 1) os (gv b want p :: acc) ((d, gv b want p) :: E) K) : DY P n l Hs i (o :: os) acc E K :=
  Y_ggk (fun e G => (h e G).K) hg hji hv hj hjd hd hn k
theorem Y_ggq {H : Heap} {j : Nat} {want b : Bool} {oj : Oper} (h : b = want → OpV P o (opEnv o E) H p) (hg : o.guard = some (j, want)) (hji : j < i) (hv : acc[i - 1 - j]? = some (.v (.bool b))) (hj : l[j]? = some oj) (hjd : oj.dst.isSome = true) (hd : o.dst = some d) (hn : d < n)
    (k : DY P n l (fun _ => H) (i + 1) os (gv b want p :: acc) ((d, gv b want p) :: E) K) : DY P n l (fun _ => H) i (o :: os) acc E K := by
  refine ⟨gv b want p, ⟨fun d' hd' => by rw [hd] at hd'; cases hd'; exact hn, ?_⟩, by rw [hd]; exact k⟩
  rw [hg]
  exact ⟨b, oj, hji, hv, hj, hjd, fun e c _ _ => by subst e; rw [gv_same]; exact (h rfl).K, fun e => gv_not e p⟩
theorem Y_vb {b : Bool} (hg : o.guard = none) (hl : loudOp o = false) (hd : o.dst = some d) (hn : d < n) (h : ∀ G, OpV P o (opEnv o E) G (.v (.bool b))) (k : ∀ b', b' = b → DY P n l Hs (i + 1) os (.v (.bool b') :: acc) ((d, .v (.bool b')) :: E) K) : DY P n l Hs i (o :: os) acc E K :=
  Y_v hg hl hd hn h (k b rfl)
end
end Go.Th

/- A guard that stands under a guard itself. -/
namespace Go.Th
open Go.RowKit
set_option linter.unusedVariables false
section
variable {P : Program} {n : Nat} {Q : QA} {E : Env} {H : Heap} {ops : Array Oper} {rest : List Oper}
theorem wpL_gu {o og : Oper} {j dj d : Nat} {want : Bool} (hg : o.guard = some (j, want)) (hj : ops[j]? = some og) (hdj : og.dst = some dj) (hb : E.get dj = some (.v undef)) (hd : o.dst = some d) (hn : d < n)
    (h2 : wpL P n ops rest Q ((d, .v undef) :: E) H) : wpL P n ops (o :: rest) Q E H := by
  intro m0 w0 a w hat
  obtain ⟨a1, a2, m, a3, a4, a5⟩ := hat
  have hr := a5 dj _ hb
  have he : a.tmps.getD dj undef = undef := rep_v hr
  have hy : yielded ops a.tmps j = none := by
    simp only [yielded, hj, hdj, Option.bind_some]
    rw [Array.getD_eq_getD_getElem?] at he
    cases h : a.tmps[dj]? with
    | none => rfl
    | some v =>
      rw [h] at he
      simp at he
      subst he
      rfl
  have hw : Region.wanted o (yielded ops a.tmps) = false := by simp [Region.wanted, hg, hy]
  unfold wpList
  rw [hw, if_neg (by simp), hd]
  exact h2 m0 w0 _ w ⟨by simp [Act.put, a1], a2, m, a3, a4, a5.put (by omega) (.v _ rfl)⟩
end
end Go.Th

/- Regions that draw their order, in which new blocks may come up at any time. -/
namespace Go.Th
open Go.RowKit

def hardA (fx : List Nat × List Nat) (l : List Oper) (i : Nat) : Bool := (loudAt l i || fx.2.contains i) && !fx.1.contains i
def cntF (fx : List Nat × List Nat) (l : List Oper) (listed : Array Bool) : Nat := (List.range l.length).countP fun i => hardA fx l i && listed.getD i false
def loF (fx : List Nat × List Nat) (l : List Oper) (i : Nat) : Nat := (List.range l.length).countP fun j => hardA fx l j && befB (bef l []) j i
def hiF (fx : List Nat × List Nat) (l : List Oper) (i : Nat) : Nat := (List.range l.length).countP fun j => hardA fx l j && !befB (bef l []) i j
def nF (fx : List Nat × List Nat) (l : List Oper) (i : Nat) : Nat := (List.range l.length).countP fun j => hardA fx l j && decide (j < i)

/-- The order's own conditions. -/
def drawBF (fx : List Nat × List Nat) (l : List Oper) : Bool :=
  let bs := bef l []
  downB l &&
  (l.zipIdx.all fun (oi, i) => l.zipIdx.all fun (oj, j) => Nat.beq i j ||
    ((oi.dst.all fun d => !(opSlots oj).contains d || (if i < j then befB bs i j else befB bs j i)) &&
     (oi.dst.all fun d => oj.dst.all fun d' => !Nat.beq d d') &&
     (!(((loudOp oi || fx.2.contains i) && !fx.1.contains i) && ((loudOp oj || fx.2.contains j) && !fx.1.contains j)) || (if i < j then befB bs i j else befB bs j i)))) &&
  (l.zipIdx.all fun (o, i) => match o.guard with
    | none => true
    | some (j, _) => befB bs j i && Nat.blt j i && !(loudOp o || fx.2.contains i))

structure DrawOkF (fx : List Nat × List Nat) (l : List Oper) : Prop where
  down : ∀ (i : Nat) (o : Oper), l[i]? = some o → ∀ e ∈ o.after, Region.binds .any e = true → e.on < i
  slot : ∀ (i j : Nat) (oi oj : Oper) (d : Nat), i ≠ j → l[i]? = some oi → l[j]? = some oj → oi.dst = some d → d ∈ opSlots oj → (i < j → befB (bef l []) i j = true) ∧ (j < i → befB (bef l []) j i = true)
  dst : ∀ (i j : Nat) (oi oj : Oper) (d : Nat), i ≠ j → l[i]? = some oi → l[j]? = some oj → oi.dst = some d → oj.dst ≠ some d
  loud : ∀ (i j : Nat) (oi oj : Oper), i < j → l[i]? = some oi → l[j]? = some oj → ((loudOp oi || fx.2.contains i) && !fx.1.contains i) = true → ((loudOp oj || fx.2.contains j) && !fx.1.contains j) = true → befB (bef l []) i j = true
  guard : ∀ (i j : Nat) (o : Oper) (w : Bool), l[i]? = some o → o.guard = some (j, w) → befB (bef l []) j i = true ∧ j < i ∧ (loudOp o || fx.2.contains i) = false

theorem drawOkF {fx : List Nat × List Nat} {l : List Oper} (h : drawBF fx l = true) : DrawOkF fx l := by
  unfold drawBF at h
  simp only [Bool.and_eq_true] at h
  obtain ⟨⟨h1, h2⟩, h3⟩ := h
  have pair : ∀ (i j : Nat) (oi oj : Oper), i ≠ j → l[i]? = some oi → l[j]? = some oj →
      ((oi.dst.all fun d => !(opSlots oj).contains d || (if i < j then befB (bef l []) i j else befB (bef l []) j i)) = true ∧ (oi.dst.all fun d => oj.dst.all fun d' => !Nat.beq d d') = true ∧
       (!(((loudOp oi || fx.2.contains i) && !fx.1.contains i) && ((loudOp oj || fx.2.contains j) && !fx.1.contains j)) || (if i < j then befB (bef l []) i j else befB (bef l []) j i)) = true) := fun i j oi oj hne hi hj => by
    have := zip_all (zip_all h2 hi) hj
    rw [Bool.or_eq_true] at this
    rcases this with this | this
    · exact absurd (Nat.eq_of_beq_eq_true this) hne
    · rw [Bool.and_eq_true, Bool.and_eq_true] at this
      exact ⟨this.1.1, this.1.2, this.2⟩
  refine ⟨fun i o hi e he hb => ?_, fun i j oi oj d hne hi hj hd hm => ?_, fun i j oi oj d hne hi hj hd hd' => ?_, fun i j oi oj hlt hi hj h1 h2 => ?_, fun i j o w hi hg => ?_⟩
  · have := zip_all h1 hi
    have := List.all_eq_true.1 this e (by simpa using he)
    simp only [hb, Bool.not_true, Bool.false_or] at this
    exact Nat.lt_of_lt_of_le (Nat.lt_succ_self _) (Nat.le_of_ble_eq_true this)
  · have := (pair i j oi oj hne hi hj).1
    rw [hd] at this
    simp only [Option.all_some, Bool.or_eq_true, Bool.not_eq_true'] at this
    rcases this with this | this
    · have hc : (opSlots oj).contains d = true := by simpa using hm
      rw [hc] at this; cases this
    · exact ⟨fun h => by rw [if_pos h] at this; exact this, fun h => by rw [if_neg (by omega)] at this; exact this⟩
  · have := (pair i j oi oj hne hi hj).2.1
    rw [hd, hd'] at this
    simp at this
  · have := (pair i j oi oj (by omega) hi hj).2.2
    rw [h1, h2] at this
    simpa [hlt] using this
  · have := zip_all h3 hi
    rw [hg] at this
    simp only [Bool.and_eq_true, Bool.not_eq_true'] at this
    exact ⟨this.1.1, Nat.lt_of_lt_of_le (Nat.lt_succ_self _) (Nat.le_of_ble_eq_true this.1.2), this.2⟩

theorem DrawOkF.irr {fx : List Nat × List Nat} {l : List Oper} (ho : DrawOkF fx l) (i j : Nat) (h : befB (bef l []) j i = true) : j < i :=
  bef_lt l [] (fun k o hk e he hb => by have := ho.down k o hk e he hb; simpa using this) (fun i j hi => by simp at hi) i j h

theorem all_listedF {fx : List Nat × List Nat} {l : List Oper} (ho : DrawOkF fx l) {listed : Array Bool} (hs : listed.size = l.length) (h : Region.ready .any l.toArray listed = []) : ∀ i, i < l.length → listed.getD i false = true := by
  intro i
  induction i using Nat.strongRecOn with
  | _ i ih =>
    intro hi
    cases hf : listed.getD i false with
    | true => rfl
    | false =>
      exfalso
      have hmem : i ∈ Region.ready .any l.toArray listed := by
        rw [mem_ready]
        refine ⟨?_, l[i], by simp [hi], fun e he hb => ?_⟩
        · rw [Array.getD_eq_getD_getElem?, Array.getElem?_eq_getElem (by omega)] at hf ⊢
          simpa using hf
        · have := ho.down i l[i] (by simp [hi]) e he hb
          exact ih e.on this (by omega)
      rw [h] at hmem; cases hmem

theorem cntF_set {fx : List Nat × List Nat} {l : List Oper} {listed : Array Bool} {i : Nat} (hi : i < l.length) (hs : listed.size = l.length) (hf : listed.getD i false = false) :
    cntF fx l (listed.setIfInBounds i true) = cntF fx l listed + if hardA fx l i then 1 else 0 := by
  unfold cntF
  have hget : ∀ j, (listed.setIfInBounds i true).getD j false = (listed.getD j false || decide (j = i)) := fun j => by
    by_cases e : i = j
    · subst e; simp [Array.getD_eq_getD_getElem?, hs, hi]
    · rw [getD_set_ne false e]; simp [Ne.symm e]
  have h : ∀ (r : List Nat), r.Nodup → i ∈ r → (r.countP fun j => hardA fx l j && (listed.setIfInBounds i true).getD j false) = (r.countP fun j => hardA fx l j && listed.getD j false) + if hardA fx l i then 1 else 0 := by
    intro r
    induction r with
    | nil => intro _ h; cases h
    | cons x r ih =>
      intro hnd hmem
      rw [List.nodup_cons] at hnd
      rw [List.countP_cons, List.countP_cons]
      by_cases e : x = i
      · subst e
        have hrest : (r.countP fun j => hardA fx l j && (listed.setIfInBounds x true).getD j false) = r.countP fun j => hardA fx l j && listed.getD j false := by
          apply List.countP_congr
          intro j hj
          have : j ≠ x := fun e => hnd.1 (e ▸ hj)
          rw [hget]; simp [this]
        rw [hrest, hget, hf]
        cases hardA fx l x <;> simp
      · have hm : i ∈ r := by
          rcases List.mem_cons.1 hmem with h | h
          · exact absurd h.symm e
          · exact h
        rw [ih hnd.2 hm, hget]
        simp [e]
        omega
  exact h _ List.nodup_range (List.mem_range.2 hi)

theorem Rep.retop {m : Mp} {w : World} {c : PV} {v : Value} (t : Nat) (hr : Rep m w c v) : Rep { m with top := t } w c v :=
  Rep.mono' (m := m) (w := w) (m' := { m with top := t }) (w' := w) (fun _ _ h => h) (fun _ h => h) (fun _ _ _ => rfl) hr
theorem R.retop {m : Mp} {H : Heap} {w : World} (h : R m H w) {t : Nat} (ht : t ≤ H.length) : R { m with top := t } H w := by
  refine ⟨h.rk, h.kl, h.dom, fun id B b d lim hi hm => ?_, h.inj, ht⟩
  obtain ⟨h0, ⟨cur, h1, h2, h3, h4⟩, h5⟩ := h.blk id B b d lim hi hm
  exact ⟨h0, ⟨cur, h1, h2, h3, fun j c hj => let ⟨v, hv, hr, h1v⟩ := h4 j c hj; ⟨v, hv, hr.retop t, h1v⟩⟩, h5⟩
theorem Le.retop {m m' : Mp} {w w' : World} (h : Le m w m' w') {t : Nat} (ht : t ≤ m.top) : Le { m with top := t } w { m' with top := t } w' :=
  ⟨h.blk, h.ro, h.keep, h.same, h.size, h.os, h.tape, h.output, h.fresh, rfl, fun id hid => h.old id (Nat.lt_of_lt_of_le hid ht)⟩

/-- A block of the mind gets a block of the world. -/
theorem R.bind {m : Mp} {H : Heap} {w : World} (h : R m H w) {gid : Nat} {B : Blk} {vs : Array Value} (hB : H[gid]? = some (some B)) (hown : B.own = true) (hn : m.blk gid = none) (hc : CR m w B.cells vs.toList) (h1 : B.cells.all pvOne = true) :
    R { m with blk := fun i => if i = gid then some (w.heap.size, 0, vs.size) else m.blk i } H (w.alloc (.cells vs B.elem)) := by
  obtain ⟨hR1, hle1⟩ := h.alloc_any (.cells vs B.elem)
  have hmono : ∀ id x, m.blk id = some x → (if id = gid then some (w.heap.size, 0, vs.size) else m.blk id) = some x := fun id x hx => by
    by_cases e : id = gid
    · subst e; rw [hn] at hx; cases hx
    · rw [if_neg e]; exact hx
  have hsz : vs.size = B.cells.length := by simpa using hc.1
  have rep : ∀ c v, Rep m (w.alloc (.cells vs B.elem)) c v → Rep { m with blk := fun i => if i = gid then some (w.heap.size, 0, vs.size) else m.blk i } (w.alloc (.cells vs B.elem)) c v := fun c v hr =>
    Rep.mono' (m := m) (w := w.alloc (.cells vs B.elem)) (m' := { m with blk := fun i => if i = gid then some (w.heap.size, 0, vs.size) else m.blk i }) (w' := w.alloc (.cells vs B.elem)) hmono (fun _ h => h) (fun _ _ _ => rfl) hr
  refine ⟨h.rk, hR1.kl, fun id x hx => ?_, fun id C b d lim hi hm => ?_, fun i j C D bi di li bj dj lj hne hi hj ho1 ho2 hmi hmj => ?_, h.top⟩
  · by_cases e : id = gid
    · subst e; exact (List.getElem?_eq_some_iff.1 hB).1
    · exact h.dom id x (by simpa [e] using hx)
  · by_cases e : id = gid
    · subst e
      rw [hB] at hi; cases hi
      simp only [if_true, Option.some.injEq, Prod.mk.injEq] at hm
      obtain ⟨rfl, rfl, rfl⟩ := hm
      refine ⟨rfl, ⟨vs, heap_alloc_new w _, rfl, by omega, fun j c hj => ?_⟩, fun _ hk => ?_, fun e => by rw [hown] at e; cases e⟩
      · obtain ⟨v, hv, hr, h1v⟩ := CR_one hc h1 j c hj
        exact ⟨v, by simpa using hv, rep c v (hr.mono h.rk hle1), h1v⟩
      · have := h.kl _ hk; omega
    · have hm' : m.blk id = some (b, d, lim) := by simpa [e] using hm
      obtain ⟨h0, ⟨cur, g1, g2, g3, g4⟩, h5, h6⟩ := hR1.blk id C b d lim hi hm'
      refine ⟨h0, ⟨cur, g1, g2, g3, fun j c hj => ?_⟩, h5, h6⟩
      obtain ⟨v, hv, hr, h1v⟩ := g4 j c hj
      exact ⟨v, hv, rep c v hr, h1v⟩
  · have old : ∀ (i : Nat) (C : Blk) (b d li : Nat), H[i]? = some (some C) → i ≠ gid → (if i = gid then some (w.heap.size, 0, vs.size) else m.blk i) = some (b, d, li) → m.blk i = some (b, d, li) ∧ b < w.heap.size := fun i C b d li hi e hm => by
      rw [if_neg e] at hm
      exact ⟨hm, h.lt hi hm⟩
    by_cases ei : i = gid
    · have ej : j ≠ gid := fun e => hne (by rw [ei, e])
      obtain ⟨_, hlt⟩ := old j D bj dj lj hj ej hmj
      have hmi' : (if i = gid then some (w.heap.size, 0, vs.size) else m.blk i) = some (bi, di, li) := hmi
      rw [if_pos ei] at hmi'
      simp only [Option.some.injEq, Prod.mk.injEq] at hmi'
      omega
    · obtain ⟨hmi', hlt⟩ := old i C bi di li hi ei hmi
      by_cases ej : j = gid
      · have hmj' : (if j = gid then some (w.heap.size, 0, vs.size) else m.blk j) = some (bj, dj, lj) := hmj
        rw [if_pos ej] at hmj'
        simp only [Option.some.injEq, Prod.mk.injEq] at hmj'
        omega
      · obtain ⟨hmj', _⟩ := old j D bj dj lj hj ej hmj
        exact h.inj i j C D bi di li bj dj lj hne hi hj ho1 ho2 hmi' hmj'

/-- An operation that makes block B, to be known as gid. -/
def OpF (P : Program) (o : Oper) (E : Env) (gid : Nat) (B : Blk) (p : PV) : Prop :=
  B.own = true ∧ B.cells.all pvOne = true ∧ ∀ m w (ρ : Operand → Value), (∀ x q, E.ev x = some q → Rep m w q (ρ x)) →
    ∃ vs v, (execOp ρ o).run P w = .ok (.value v) (w.alloc (.cells vs B.elem)) ∧ CR m w B.cells vs.toList ∧ ∀ m', m'.blk gid = some (w.heap.size, 0, vs.size) → Rep m' (w.alloc (.cells vs B.elem)) p v

theorem OpF_alloc {P : Program} {o : Oper} {E : Env} {t : TypeId} {size bytes : Nat} {z : List Value} [hi : HasI P t size bytes z] {gid : Nat} (ho : o.op = .alloc t) (hz : z.all (fun x => x.oneCell') = true) :
    OpF P o E gid ⟨z.map PV.v, t, true⟩ (.ptr gid 0) := by
  refine ⟨rfl, by simpa [pvOne] using hz, fun m w ρ hρ => ?_⟩
  obtain ⟨i, zv, h3, _, _, h4, h5⟩ := hi.i
  refine ⟨zv.cells, _, ?_, by rw [h5]; exact CR_v hz, fun m' hm => .ptr (off := 0) (d := 0) hm⟩
  simp [execOp, ho, Instr.alloc, zeroValue, typeInfo, h3, h4, newVar, newRow]

theorem OpF_box {P : Program} {o : Oper} {E : Env} {t : TypeId} {x : Operand} {p : PV} {gid : Nat} (ho : o.op = .box t x) (hx : E.ev x = some p) (h1 : (cellsOf p).all pvOne = true) : OpF P o E gid ⟨cellsOf p, t, true⟩ (.ptr gid 0) := by
  refine ⟨rfl, h1, fun m w ρ hρ => ?_⟩
  refine ⟨(ρ x).cells, _, ?_, cellsOf_rep (hρ x p hx), fun m' hm => .ptr (off := 0) (d := 0) hm⟩
  simp [execOp, ho, Instr.box, newVar, newRow]

section
variable {P : Program} {n : Nat} {fx : List Nat × List Nat} {gid : Nat → Nat} {mt : Nat} {l : List Oper} {vals : List PV} {Hs : Nat → Heap} {E0 : Env} {m0 : Mp} {w0 : World}

/-- What is owed of operation i. -/
def DFF (P : Program) (n : Nat) (fx : List Nat × List Nat) (gid : Nat → Nat) (l : List Oper) (vals : List PV) (Hs : Nat → Heap) (E0 : Env) (i : Nat) (o : Oper) (p : PV) : Prop :=
  (∀ d, o.dst = some d → d < n) ∧
  match fx.1.contains i with
  | true => o.guard = none ∧ o.dst.isSome = true ∧ ∃ B, OpF P o (opEnv o (envOf (l.take i) (vals.take i) E0)) (gid i) B p ∧ ∀ k, loF fx l i ≤ k → k ≤ hiF fx l i → (Hs k)[gid i]? = some (some B)
  | false => match o.guard with
    | none => match (loudOp o || fx.2.contains i) with
      | true => OpK P o (opEnv o (envOf (l.take i) (vals.take i) E0)) (Hs (nF fx l i)) p (Hs (nF fx l i + 1))
      | false => ∀ k, loF fx l i ≤ k → k ≤ hiF fx l i → OpK P o (opEnv o (envOf (l.take i) (vals.take i) E0)) (Hs k) p (Hs k)
    | some (j, want) => ∃ b oj, vals[j]? = some (.v (.bool b)) ∧ l[j]? = some oj ∧ oj.dst.isSome = true ∧
        (b = want → ∀ k, loF fx l i ≤ k → k ≤ hiF fx l i → OpK P o (opEnv o (envOf (l.take i) (vals.take i) E0)) (Hs k) p (Hs k)) ∧ (b ≠ want → p = .v undef)

structure InvF (n : Nat) (fx : List Nat × List Nat) (gid : Nat → Nat) (mt : Nat) (l : List Oper) (vals : List PV) (Hs : Nat → Heap) (E0 : Env) (m0 : Mp) (w0 : World) (listed : Array Bool) (a : Act) (w : World) : Prop where
  size : listed.size = l.length
  closed : Closed l.toArray listed
  tmps : a.tmps.size = n
  defers : a.defers = []
  rel : ∃ m, m.top = mt ∧ Le m0 w0 { m with top := m0.top } w ∧ R m (Hs (cntF fx l listed)) w ∧ (∀ (j : Nat) (o : Oper) (d : Nat) (p : PV), listed.getD j false = true → l[j]? = some o → o.dst = some d → vals[j]? = some p → Rep m w p (a.tmps.getD d undef)) ∧
    (∀ t p, E0.get t = some p → (∀ (j : Nat) (o : Oper), listed.getD j false = true → l[j]? = some o → o.dst ≠ some t) → Rep m w p (a.tmps.getD t undef)) ∧
    (∀ j, fx.1.contains j = true → listed.getD j false = false → m.blk (gid j) = none)

theorem inv_stepF (ho : DrawOkF fx l) (hgid : ∀ j, fx.1.contains j = true → m0.top ≤ gid j ∧ gid j < mt) (hinj : ∀ i j, fx.1.contains i = true → fx.1.contains j = true → gid i = gid j → i = j) (hmt : m0.top ≤ mt)
    (hv : vals.length = l.length) (hf : ∀ (i : Nat) (o : Oper) (p : PV), l[i]? = some o → vals[i]? = some p → DFF P n fx gid l vals Hs E0 i o p) {Q : Exit → Act → World → Prop} {K : Act → World → Prop}
    {listed : Array Bool} {a : Act} {w : World} (hI : InvF n fx gid mt l vals Hs E0 m0 w0 listed a w) {i : Nat} (hi : i ∈ Region.ready .any l.toArray listed)
    (hK : ∀ a' w', InvF n fx gid mt l vals Hs E0 m0 w0 (listed.setIfInBounds i true) a' w' → K a' w') : wpOp P l.toArray Q i K a w := by
  obtain ⟨hiu, o, hio, hdeps⟩ := mem_ready.1 hi
  have hil : l[i]? = some o := by simpa using hio
  have hlt : i < l.length := (List.getElem?_eq_some_iff.1 hil).1
  obtain ⟨p, hp⟩ : ∃ p, vals[i]? = some p := ⟨_, List.getElem?_eq_getElem (by omega)⟩
  have hif : listed.getD i false = false := getD_both' hiu
  obtain ⟨m, htop, hle, hR, hr1, hr2, hun⟩ := hI.rel
  have hlen := hI.size
  have hL' : ∀ j, (listed.setIfInBounds i true).getD j false = true ↔ (listed.getD j false = true ∨ j = i) := fun j => by
    by_cases e : i = j
    · subst e; simp [Array.getD_eq_getD_getElem?, hlen, hlt]
    · rw [getD_set_ne false e]; simp [Ne.symm e]
  have hclosed' : Closed l.toArray (listed.setIfInBounds i true) := fun k ok hk hkl e he hb => by
    rw [hL'] at hkl ⊢
    rcases hkl with hkl | rfl
    · exact .inl (hI.closed k ok hk hkl e he hb)
    · rw [hio] at hk; cases hk
      exact .inl (hdeps e he hb)
  have hbefi : ∀ j, befB (bef l []) j i = true → j ≠ i → listed.getD j false = true := fun j hb hne => by
    have := bef_spec hclosed' l [] (fun k => by simp) (fun i j hi => by simp at hi) i j hb ((hL' i).2 (.inr rfl))
    rcases (hL' j).1 this with h | h
    · exact h
    · exact absurd h hne
  have hbefo : ∀ j, befB (bef l []) i j = true → listed.getD j false = false := fun j hb => by
    cases hj : listed.getD j false with
    | false => rfl
    | true =>
      have := bef_spec hI.closed l [] (fun k => by simp) (fun i j hi => by simp at hi) j i hb hj
      rw [hif] at this; cases this
  have hEi : ∀ t q, (opEnv o (envOf (l.take i) (vals.take i) E0)).get t = some q → Rep m w q (a.tmps.getD t undef) := fun t q ht => by
    have hts : t ∈ opSlots o := Env.only_self _ _ t q ht
    have ht' := Env.only_get _ _ t q ht
    rcases envOf_get _ _ _ t q ht' with ⟨j, oj, h1, h2, h3, h4⟩ | ⟨h1, h2⟩
    · have hji : j < i := by simp at h1; omega
      rw [List.getElem?_take, if_pos hji] at h2 h4
      have := (ho.slot j i oj o t (by omega) h2 hil h3 hts).1 hji
      exact hr1 j oj t q (hbefi j this (by omega)) h2 h3 h4
    · refine hr2 t q h1 fun j oj hj hjl hd => ?_
      rcases Nat.lt_or_ge j i with hlt2 | hge
      · exact h2 j oj (by simp; omega) (by rw [List.getElem?_take, if_pos hlt2]; exact hjl) hd
      · have hne : j ≠ i := fun e => by rw [e] at hj; rw [hif] at hj; cases hj
        have := (ho.slot j i oj o t hne hjl hil hd hts).2 (by omega)
        rw [hbefo j this] at hj; cases hj
  have hev : ∀ x q, (opEnv o (envOf (l.take i) (vals.take i) E0)).ev x = some q → Rep m w q (a.eval x) := fun x q hx => FR.ev (a := a) hEi hx
  have hdf := hf i o p hil hp
  -- the step's end
  have fin0 : ∀ (v : Value) (m' : Mp) (w' : World), m'.top = mt → Le m0 w0 { m' with top := m0.top } w' → (∀ c x, Rep m w c x → Rep m' w' c x) → R m' (Hs (cntF fx l (listed.setIfInBounds i true))) w' → Rep m' w' p v →
      (∀ j, fx.1.contains j = true → (listed.setIfInBounds i true).getD j false = false → m'.blk (gid j) = none) → K (a.put o.dst v) w' := fun v m' w' htop' hle' hmono hR' hrep hun' => by
    refine hK _ _ ⟨by simp [hlen], hclosed', by cases o.dst <;> simp [Act.put, hI.tmps], by cases o.dst <;> simp [Act.put, hI.defers], m', htop', hle', hR', fun j oj d q hj hjl hd hq => ?_, fun t q ht hno => ?_, hun'⟩
    · rcases (hL' j).1 hj with hj | rfl
      · have hne : i ≠ j := fun e => by rw [← e, hif] at hj; cases hj
        have hrj := hmono _ _ (hr1 j oj d q hj hjl hd hq)
        cases hdo : o.dst with
        | none => simpa [Act.put, hdo] using hrj
        | some d' =>
          have hdd : d' ≠ d := fun e => ho.dst i j o oj d hne hil hjl (by rw [hdo, e]) hd
          simpa [Act.put, hdo, Array.getD_eq_getD_getElem?, Array.getElem?_setIfInBounds_ne hdd] using hrj
      · rw [hil] at hjl; cases hjl
        rw [hp] at hq; cases hq
        have hdn : d < a.tmps.size := by rw [hI.tmps]; exact hdf.1 d hd
        simpa [Act.put, hd, Array.getD_eq_getD_getElem?, hdn] using hrep
    · have hdt : o.dst ≠ some t := hno i o ((hL' i).2 (.inr rfl)) hil
      have hrt := hmono _ _ (hr2 t q ht (fun j oj hj hjl => hno j oj ((hL' j).2 (.inl hj)) hjl))
      cases hdo : o.dst with
      | none => simpa [Act.put, hdo] using hrt
      | some d' =>
        have hdd : d' ≠ t := fun e => hdt (by rw [hdo, e])
        simpa [Act.put, hdo, Array.getD_eq_getD_getElem?, Array.getElem?_setIfInBounds_ne hdd] using hrt
  have hunl : ∀ j, (listed.setIfInBounds i true).getD j false = false → listed.getD j false = false ∧ j ≠ i := fun j hj => by
    refine ⟨?_, fun e => ?_⟩
    · cases h : listed.getD j false with
      | false => rfl
      | true => rw [(hL' j).2 (.inl h)] at hj; cases hj
    · rw [(hL' j).2 (.inr e)] at hj; cases hj
  have fin : ∀ (v : Value) (m' : Mp) (w' : World), Le m w m' w' → R m' (Hs (cntF fx l (listed.setIfInBounds i true))) w' → Rep m' w' p v → K (a.put o.dst v) w' := fun v m' w' hle' hR' hrep => by
    have h3 := hle'.retop (t := m0.top) (by rw [htop]; exact hmt)
    refine fin0 v m' w' (hle'.top.trans htop) (hle.trans h3) (fun c x hr => hr.mono hR.rk hle') hR' hrep fun j hj hjl => ?_
    rw [hle'.old _ (by rw [htop]; exact (hgid j hj).2)]
    exact hun j hj (hunl j hjl).1
  have hla : hardA fx l i = ((loudOp o || fx.2.contains i) && !fx.1.contains i) := by simp [hardA, loudAt, hil]
  have hcnt := cntF_set (fx := fx) (l := l) hlt hlen hif
  rw [hla] at hcnt
  have hlo : loF fx l i ≤ cntF fx l listed := by
    refine countP_le _ _ _ fun j hj hb => ?_
    simp only [Bool.and_eq_true] at hb ⊢
    exact ⟨hb.1, hbefi j hb.2 (Nat.ne_of_lt (ho.irr i j hb.2))⟩
  have hhi : cntF fx l listed ≤ hiF fx l i := by
    refine countP_le _ _ _ fun j hj hb => ?_
    simp only [Bool.and_eq_true, Bool.not_eq_true'] at hb ⊢
    refine ⟨hb.1, ?_⟩
    cases hbb : befB (bef l []) i j with
    | false => rfl
    | true => rw [hbefo j hbb] at hb; cases hb.2
  have h2 := hdf.2
  unfold wpOp
  simp only [hio]
  cases hfi : fx.1.contains i with
  | true =>
    rw [hfi] at h2 hcnt
    simp only at h2
    obtain ⟨hg, hds, B, ⟨hown, h1, hF⟩, hB⟩ := h2
    have hw : Region.wanted o (yielded l.toArray a.tmps) = true := by simp [Region.wanted, hg]
    rw [if_pos hw]
    refine .inl ?_
    obtain ⟨vs, v, hrun, hc, hrep⟩ := hF m w a.eval hev
    have hn := hun i hfi hif
    have hbind := R.bind hR (hB _ hlo hhi) hown hn hc h1
    have hmono : ∀ id x, m.blk id = some x → (if id = gid i then some (w.heap.size, 0, vs.size) else m.blk id) = some x := fun id x hx => by
      by_cases e : id = gid i
      · subst e; rw [hn] at hx; cases hx
      · rw [if_neg e]; exact hx
    unfold Oper.wp
    rw [hrun, Oper.upon_value]
    refine fin0 v { m with blk := fun k => if k = gid i then some (w.heap.size, 0, vs.size) else m.blk k } _ htop ?_ (fun c x hr => ?_) ?_ (hrep _ (by simp)) fun j hj hjl => ?_
    · refine hle.trans ⟨hmono, fun _ h => h, fun _ h => h, fun b hb => Below.heap_alloc w _ b (hR.kl b hb), by simp, rfl, rfl, rfl, fun _ h => .inl h, rfl, fun id hid => ?_⟩
      have hid' : id < m0.top := hid
      have := (hgid i hfi).1
      show (if id = gid i then some (w.heap.size, 0, vs.size) else m.blk id) = m.blk id
      rw [if_neg (by omega)]
    · exact Rep.mono' (m := m) (w := w) (m' := { m with blk := fun k => if k = gid i then some (w.heap.size, 0, vs.size) else m.blk k }) (w' := w.alloc (.cells vs B.elem)) hmono (fun _ h => h)
        (fun b x hb => World.cell?_of_block (Below.heap_alloc w _ b (hR.kl b (hR.rk b hb)))) hr
    · rw [hcnt]; simpa using hbind
    · obtain ⟨h5, h6⟩ := hunl j hjl
      show (if gid j = gid i then some (w.heap.size, 0, vs.size) else m.blk (gid j)) = none
      rw [if_neg (fun e => h6 (hinj j i hj hfi e))]
      exact hun j hj h5
  | false =>
    rw [hfi] at h2 hcnt
    simp only [Bool.not_false, Bool.and_true] at h2 hcnt
    cases hg : o.guard with
    | none =>
      have hw : Region.wanted o (yielded l.toArray a.tmps) = true := by simp [Region.wanted, hg]
      rw [if_pos hw]
      refine .inl ?_
      rw [hg] at h2
      simp only at h2
      cases hlo' : (loudOp o || fx.2.contains i) with
      | true =>
        rw [hlo'] at h2 hcnt
        simp only at h2
        have hn : cntF fx l listed = nF fx l i := by
          apply List.countP_congr
          intro j hj
          have hjl : j < l.length := List.mem_range.1 hj
          have hjo : l[j]? = some l[j] := List.getElem?_eq_getElem hjl
          cases hla2 : hardA fx l j with
          | false => simp
          | true =>
            have hlj : ((loudOp l[j] || fx.2.contains j) && !fx.1.contains j) = true := by simpa [hardA, loudAt, hjo] using hla2
            have hli : ((loudOp o || fx.2.contains i) && !fx.1.contains i) = true := by rw [hlo', hfi]; rfl
            simp only [Bool.true_and, decide_eq_true_eq]
            constructor
            · intro hlj2
              rcases Nat.lt_trichotomy j i with h | h | h
              · exact h
              · rw [h, hif] at hlj2; cases hlj2
              · have := hbefo j (ho.loud i j o l[j] h hil hjo hli hlj)
                rw [this] at hlj2; cases hlj2
            · intro h
              exact hbefi j (ho.loud j i l[j] o h hjo hil hlj hli) (by omega)
        refine h2 m w a _ _ (by rw [← hn]; exact hR) hev fun v m' w' h3 h4 h5 => fin v m' w' h3 ?_ h5
        rw [hcnt, hn]; simpa using h4
      | false =>
        rw [hlo'] at h2 hcnt
        simp only at h2
        refine h2 _ hlo hhi m w a _ _ hR hev fun v m' w' h3 h4 h5 => fin v m' w' h3 ?_ h5
        rw [hcnt]; simpa using h4
    | some jw =>
      obtain ⟨j, want⟩ := jw
      rw [hg] at h2
      simp only at h2
      obtain ⟨b, oj, hvj, hjl, hjd, h3, h4⟩ := h2
      obtain ⟨g1, g2, g3⟩ := ho.guard i j o want hil hg
      have hlj := hbefi j g1 (by omega)
      obtain ⟨dj, hdj⟩ := Option.isSome_iff_exists.1 hjd
      have hrj := hr1 j oj dj _ hlj hjl hdj hvj
      have he : a.tmps.getD dj undef = .bool b := rep_v hrj
      have hdn : dj < a.tmps.size := by
        rcases Nat.lt_or_ge dj a.tmps.size with h | h
        · exact h
        · rw [Array.getD_eq_getD_getElem?, Array.getElem?_eq_none h] at he; simp [undef] at he
      have hy : yielded l.toArray a.tmps j = some b := by
        have : a.tmps[dj]? = some (.bool b) := by
          rw [Array.getD_eq_getD_getElem?, Array.getElem?_eq_getElem hdn] at he
          rw [Array.getElem?_eq_getElem hdn]
          simpa using he
        simp [yielded, hjl, hdj, this]
      rw [g3] at hcnt
      by_cases e : b = want
      · have hw : Region.wanted o (yielded l.toArray a.tmps) = true := by simp [Region.wanted, hg, hy, e]
        rw [if_pos hw]
        refine .inl (h3 e _ hlo hhi m w a _ _ hR hev fun v m' w' h5 h6 h7 => fin v m' w' h5 ?_ h7)
        rw [hcnt]; simpa using h6
      · have hw : Region.wanted o (yielded l.toArray a.tmps) = false := by simp [Region.wanted, hg, hy, e]
        rw [hw, if_neg (by simp)]
        have hpu := h4 e
        subst hpu
        refine fin undef m w (Le.refl m w) ?_ (.v _ rfl)
        rw [hcnt]; simpa using hR

theorem inv_allF (ho : DrawOkF fx l) (hgid : ∀ j, fx.1.contains j = true → m0.top ≤ gid j ∧ gid j < mt) (hinj : ∀ i j, fx.1.contains i = true → fx.1.contains j = true → gid i = gid j → i = j) (hmt : m0.top ≤ mt)
    (hv : vals.length = l.length) (hf : ∀ (i : Nat) (o : Oper) (p : PV), l[i]? = some o → vals[i]? = some p → DFF P n fx gid l vals Hs E0 i o p) {Q : Exit → Act → World → Prop}
    (hQ : ∀ listed a w, InvF n fx gid mt l vals Hs E0 m0 w0 listed a w → (∀ i, i < l.length → listed.getD i false = true) → Q .normal a w) :
    ∀ (fuel : Nat) (listed : Array Bool) (a : Act) (w : World), InvF n fx gid mt l vals Hs E0 m0 w0 listed a w → ((List.range l.length).countP fun i => !listed.getD i false) ≤ fuel → wpAny P .any l.toArray Q fuel listed a w
  | 0, listed, a, w, hI, hc => by
    have hall : ∀ i, i < l.length → listed.getD i false = true := fun i hi => by
      have := List.countP_eq_zero.1 (Nat.le_zero.1 hc) i (List.mem_range.2 hi)
      simpa using this
    refine ⟨?_, hQ listed a w hI hall⟩
    cases hr : Region.ready .any l.toArray listed with
    | nil => rfl
    | cons i r =>
      have hm : i ∈ Region.ready .any l.toArray listed := by rw [hr]; simp
      obtain ⟨h1, o, h2, _⟩ := mem_ready.1 hm
      have hlt : i < l.length := by simpa using (Array.getElem?_eq_some_iff.1 h2).1
      have := hall i hlt
      rw [getD_both' h1] at this; cases this
  | fuel + 1, listed, a, w, hI, hc => by
    refine ⟨fun hr => hQ listed a w hI (all_listedF ho hI.size hr), fun i hi => ?_⟩
    refine inv_stepF ho hgid hinj hmt hv hf hI hi fun a' w' hI' => inv_allF ho hgid hinj hmt hv hf hQ fuel _ a' w' hI' ?_
    obtain ⟨h1, o, h2, _⟩ := mem_ready.1 hi
    have hlt : i < l.length := by simpa using (Array.getElem?_eq_some_iff.1 h2).1
    have hif := getD_both' h1
    have hlen := hI.size
    have hget : ∀ j, (listed.setIfInBounds i true).getD j false = (listed.getD j false || decide (j = i)) := fun j => by
      by_cases e : i = j
      · subst e; simp [Array.getD_eq_getD_getElem?, hlen, hlt]
      · rw [getD_set_ne false e]; simp [Ne.symm e]
    have key : ∀ (r : List Nat), r.Nodup → i ∈ r → (r.countP fun j => !(listed.setIfInBounds i true).getD j false) + 1 = r.countP fun j => !listed.getD j false := by
      intro r
      induction r with
      | nil => intro _ h; cases h
      | cons x r ih =>
        intro hnd hmem
        rw [List.nodup_cons] at hnd
        rw [List.countP_cons, List.countP_cons]
        by_cases e : x = i
        · subst e
          have hrest : (r.countP fun j => !(listed.setIfInBounds x true).getD j false) = r.countP fun j => !listed.getD j false := by
            apply List.countP_congr
            intro j hj
            have : j ≠ x := fun e => hnd.1 (e ▸ hj)
            rw [hget]; simp [this]
          rw [hrest, hget, hif]
          simp
        · have hm : i ∈ r := by
            rcases List.mem_cons.1 hmem with h | h
            · exact absurd h.symm e
            · exact h
          have := ih hnd.2 hm
          have e2 : (!(listed.getD x false || decide (x = i))) = !listed.getD x false := by simp [e]
          rw [hget, e2]
          omega
    have := key _ List.nodup_range (List.mem_range.2 hlt)
    omega

theorem ghosts {m : Mp} {w : World} : ∀ (bs : List Blk) (H : Heap), R m H w → R m (H ++ bs.map some) w
  | [], H, h => by simpa using h
  | b :: bs, H, h => by
    have := ghosts bs (H ++ [some b]) (h.ghost b)
    simpa using this

/-- THE LAW: a region that draws its order; the blocks bs come up in it at any time, the operation i's as gid i. -/
theorem wpA_drawF {Q : QA} {id : Nat} {H0 : Heap} (bs : List Blk) (hm : P.follows .mixedOrders = true) (hB : drawBF fx l = true) (hgid : ∀ j, fx.1.contains j = true → H0.length ≤ gid j ∧ gid j < H0.length + bs.length)
    (hinj : ∀ i j, fx.1.contains i = true → fx.1.contains j = true → gid i = gid j → i = j) (h0 : Hs 0 = H0 ++ bs.map some) (hv : vals.length = l.length)
    (hf : ∀ (i : Nat) (o : Oper) (p : PV), l[i]? = some o → vals[i]? = some p → DFF P n fx gid l vals Hs E0 i o p)
    (k : Q .normal (envOf l vals E0) (Hs (nF fx l l.length))) : wpA P n (.region id l.toArray true) Q E0 H0 := by
  rintro m1 w1 a w ⟨h1, h2, m, h3, h4, h5⟩
  have ho := drawOkF hB
  have h4' := h4.drew
  refine wp_region_any hm ?_
  have hcnt0 : cntF fx l (Array.replicate l.length false) = 0 := by
    unfold cntF
    rw [List.countP_eq_zero]
    intro i _
    rw [rep_getD]
    simp
  have htop : m1.top = m.top := h3.top.symm
  have hle0 : m.top ≤ H0.length := h4.top
  have hlenH : (Hs 0).length = H0.length + bs.length := by rw [h0]; simp
  have hR0 : R { m with top := H0.length + bs.length } (Hs 0) w.drew := by
    have := ghosts bs H0 h4'.1
    rw [← h0] at this
    exact this.retop (by omega)
  refine inv_allF (Hs := Hs) (E0 := E0) (m0 := m1) (w0 := w1) (mt := H0.length + bs.length) ho (fun j hj => ⟨by have := (hgid j hj).1; omega, (hgid j hj).2⟩) hinj (by omega) hv hf (fun listed a' w' hI hall => ?_) _ _ a w.drew
    ⟨by simp, fun i o hi hl => ?_, h1, h2, { m with top := H0.length + bs.length }, rfl, ?_, by simpa [hcnt0] using hR0, fun j o d p hl => ?_, fun t p ht _ => ((h5 t p ht).mono h4.rk h4'.2).retop _, fun j hj _ => ?_⟩ ?_
  · obtain ⟨m', g0, g1, g2, g3, g4, _⟩ := hI.rel
    have hlast : cntF fx l listed = nF fx l l.length := by
      apply List.countP_congr
      intro j hj
      have hjl := List.mem_range.1 hj
      simp [hall j hjl, hjl]
    refine ⟨_, _, k, hI.tmps, hI.defers, { m' with top := m1.top }, g1, ?_, fun t p ht => ?_⟩
    · rw [← hlast]
      refine g2.retop ?_
      have := g2.top
      omega
    · refine Rep.retop _ ?_
      rcases envOf_get l vals E0 t p ht with ⟨j, oj, e1, e2, e3, e4⟩ | ⟨e1, e2⟩
      · exact g3 j oj t p (hall j (by omega)) e2 e3 e4
      · exact g4 t p e1 fun j oj _ hjl => e2 j oj (by have := (List.getElem?_eq_some_iff.1 hjl).1; omega) hjl
  · rw [rep_getD] at hl; cases hl
  · have h6 := h3.trans h4'.2
    have e : ({ m with top := m1.top } : Mp) = m := by rw [htop]
    show Le m1 w1 { m with top := m1.top } w.drew
    rw [e]; exact h6
  · rw [rep_getD] at hl; cases hl
  · have hge := (hgid j hj).1
    cases hmb : m.blk (gid j) with
    | none => rfl
    | some x => have := h4.dom _ x hmb; omega
  · simp only [List.size_toArray]
    refine Nat.le_trans List.countP_le_length ?_
    simp

end

/-! ### In the order of the text, with the values found on the way told backwards -/

def DAF (P : Program) (n : Nat) (fx : List Nat × List Nat) (gid : Nat → Nat) (l : List Oper) (vals : List PV) (Hs : Nat → Heap) : Nat → List Oper → List PV → Env → Prop
  | i, o :: os, p :: ps, E =>
    ((∀ d, o.dst = some d → d < n) ∧
      match fx.1.contains i with
      | true => o.guard = none ∧ o.dst.isSome = true ∧ ∃ B, OpF P o (opEnv o E) (gid i) B p ∧ ∀ k, loF fx l i ≤ k → k ≤ hiF fx l i → (Hs k)[gid i]? = some (some B)
      | false => match o.guard with
        | none => match (loudOp o || fx.2.contains i) with
          | true => OpK P o (opEnv o E) (Hs (nF fx l i)) p (Hs (nF fx l i + 1))
          | false => ∀ k, loF fx l i ≤ k → k ≤ hiF fx l i → OpK P o (opEnv o E) (Hs k) p (Hs k)
        | some (j, want) => ∃ b oj, vals[j]? = some (.v (.bool b)) ∧ l[j]? = some oj ∧ oj.dst.isSome = true ∧
          (b = want → ∀ k, loF fx l i ≤ k → k ≤ hiF fx l i → OpK P o (opEnv o E) (Hs k) p (Hs k)) ∧ (b ≠ want → p = .v undef)) ∧
    DAF P n fx gid l vals Hs (i + 1) os ps (match o.dst with | some d => (d, p) :: E | none => E)
  | _, [], [], _ => True
  | _, _, _, _ => False

theorem DAF.facts {P : Program} {n : Nat} {fx : List Nat × List Nat} {gid : Nat → Nat} {l : List Oper} {vals : List PV} {Hs : Nat → Heap} {E0 : Env} (hl : vals.length = l.length) : ∀ (i : Nat) (os : List Oper) (ps : List PV), l.drop i = os → vals.drop i = ps →
    DAF P n fx gid l vals Hs i os ps (envOf (l.take i) (vals.take i) E0) → ∀ (j : Nat) (o : Oper) (p : PV), i ≤ j → l[j]? = some o → vals[j]? = some p → DFF P n fx gid l vals Hs E0 j o p
  | i, [], ps, h1, _, _, j, o, p, hij, hj, _ => by
    have h2 := congrArg List.length h1
    simp at h2
    have := (List.getElem?_eq_some_iff.1 hj).1
    omega
  | i, o' :: os, [], h1, h2, h, j, o, p, hij, hj, hp => by simp [DAF] at h
  | i, o' :: os, p' :: ps, h1, h2, h, j, o, p, hij, hj, hp => by
    obtain ⟨ha, hb⟩ := h
    have e1 : l[i]? = some o' := by have := congrArg (·[0]?) h1; simpa using this
    have e2 : vals[i]? = some p' := by have := congrArg (·[0]?) h2; simpa using this
    by_cases e : i = j
    · subst e
      rw [e1] at hj; cases hj
      rw [e2] at hp; cases hp
      exact ha
    · have hi : i < l.length := (List.getElem?_eq_some_iff.1 e1).1
      have t1 : l.take (i + 1) = l.take i ++ [o'] := by
        rw [List.take_add_one, e1]; rfl
      have t2 : vals.take (i + 1) = vals.take i ++ [p'] := by
        rw [List.take_add_one, e2]; rfl
      refine DAF.facts hl (i + 1) os ps ?_ ?_ ?_ j o p (by omega) hj hp
      · have := congrArg List.tail h1; simpa using this
      · have := congrArg List.tail h2; simpa using this
      · rw [t1, t2, envOf_snoc _ _ _ _ _ (by simp; omega)]
        exact hb

def DYF (P : Program) (n : Nat) (fx : List Nat × List Nat) (gid : Nat → Nat) (l : List Oper) (Hs : Nat → Heap) : Nat → List Oper → List PV → Env → (Env → Prop) → Prop
  | _, [], _, E, K => K E
  | i, o :: os, acc, E, K => ∃ p, ((∀ d, o.dst = some d → d < n) ∧
      match fx.1.contains i with
      | true => o.guard = none ∧ o.dst.isSome = true ∧ ∃ B, OpF P o (opEnv o E) (gid i) B p ∧ ∀ k, loF fx l i ≤ k → k ≤ hiF fx l i → (Hs k)[gid i]? = some (some B)
      | false => match o.guard with
        | none => match (loudOp o || fx.2.contains i) with
          | true => OpK P o (opEnv o E) (Hs (nF fx l i)) p (Hs (nF fx l i + 1))
          | false => ∀ k, loF fx l i ≤ k → k ≤ hiF fx l i → OpK P o (opEnv o E) (Hs k) p (Hs k)
        | some (j, want) => ∃ b oj, j < i ∧ acc[i - 1 - j]? = some (.v (.bool b)) ∧ l[j]? = some oj ∧ oj.dst.isSome = true ∧
            (b = want → ∀ k, loF fx l i ≤ k → k ≤ hiF fx l i → OpK P o (opEnv o E) (Hs k) p (Hs k)) ∧ (b ≠ want → p = .v undef)) ∧
    DYF P n fx gid l Hs (i + 1) os (p :: acc) (match o.dst with | some d => (d, p) :: E | none => E) K

theorem DYF.all {P : Program} {n : Nat} {fx : List Nat × List Nat} {gid : Nat → Nat} {l : List Oper} {Hs : Nat → Heap} {K : Env → Prop} : ∀ (os : List Oper) (i : Nat) (acc : List PV) (E : Env), acc.length = i → DYF P n fx gid l Hs i os acc E K →
    ∃ ps, ps.length = os.length ∧ DAF P n fx gid l (acc.reverse ++ ps) Hs i os ps E ∧ K (envOf os ps E)
  | [], i, acc, E, _, h => ⟨[], rfl, trivial, h⟩
  | o :: os, i, acc, E, hl, ⟨p, ⟨h1, h2⟩, h3⟩ => by
    obtain ⟨ps, hps, hd, hk⟩ := DYF.all os (i + 1) (p :: acc) _ (by simp [hl]) h3
    refine ⟨p :: ps, by simp [hps], ⟨⟨h1, ?_⟩, ?_⟩, hk⟩
    · cases hf : fx.1.contains i with
      | true => rw [hf] at h2; exact h2
      | false =>
        rw [hf] at h2
        simp only at h2 ⊢
        cases hg : o.guard with
        | none => rw [hg] at h2; exact h2
        | some jw =>
          rw [hg] at h2
          obtain ⟨b, oj, e0, e1, e2⟩ := h2
          refine ⟨b, oj, ?_, e2⟩
          rw [List.getElem?_append_left (by simp; omega), List.getElem?_reverse (by omega), hl]
          exact e1
    · rw [List.reverse_cons, List.append_assoc] at hd
      exact hd

theorem wpA_yF {P : Program} {n : Nat} {fx : List Nat × List Nat} {gid : Nat → Nat} {l : List Oper} {E0 : Env} {Q : QA} {id : Nat} {H0 : Heap} (bs : List Blk) (L : List Heap) (G' : Heap) {N : Nat} (hm : P.follows .mixedOrders = true) (hB : drawBF fx l = true)
    (hgid : ∀ j, fx.1.contains j = true → H0.length ≤ gid j ∧ gid j < H0.length + bs.length) (hinj : ∀ i j, fx.1.contains i = true → fx.1.contains j = true → gid i = gid j → i = j)
    (hN : nF fx l l.length = N) (hG : hsL ((H0 ++ bs.map some) :: L) N = G') (h : DYF P n fx gid l (hsL ((H0 ++ bs.map some) :: L)) 0 l [] E0 (fun E => Q .normal E G')) : wpA P n (.region id l.toArray true) Q E0 H0 := by
  subst hN
  subst hG
  obtain ⟨ps, hl, hd, hk⟩ := DYF.all l 0 [] E0 rfl h
  exact wpA_drawF (Hs := hsL ((H0 ++ bs.map some) :: L)) bs hm hB hgid hinj rfl hl (fun i o p hi hp => DAF.facts hl 0 l ps rfl rfl (by simpa [envOf] using hd) i o p (Nat.zero_le _) hi hp) hk

/-- One new block. -/
theorem wpA_yF1 {P : Program} {n : Nat} {l : List Oper} {E0 : Env} {Q : QA} {id : Nat} {H0 : Heap} {L0 : List (Nat × Blk)} (i1 : Nat) (B1 : Blk) {N : Nat} (hG0 : Has H0 L0) (hm : P.follows .mixedOrders = true) (hB : drawBF ([i1], []) l = true) (hN : nF ([i1], []) l l.length = N)
    (h : ∀ (g1 : Nat) (G : Heap), Has G ((g1, B1) :: L0) → ∃ (L : List Heap) (G' : Heap), hsL (G :: L) N = G' ∧ DYF P n ([i1], []) (fun _ => g1) l (hsL (G :: L)) 0 l [] E0 (fun E => Q .normal E G')) : wpA P n (.region id l.toArray true) Q E0 H0 := by
  obtain ⟨L, G', h1, h2⟩ := h H0.length (H0 ++ [some B1]) (hG0.new B1)
  exact wpA_yF (fx := ([i1], [])) (gid := fun _ => H0.length) [B1] L G' hm hB (fun j hj => by simp) (fun i j hi hj _ => by simp at hi hj; omega) hN h1 h2

/-- One new block, and calls (lx) that turn the heap. -/
theorem wpA_yF1c {P : Program} {n : Nat} {l : List Oper} {E0 : Env} {Q : QA} {id : Nat} {H0 : Heap} {L0 : List (Nat × Blk)} (i1 : Nat) (lx : List Nat) (B1 : Blk) {N : Nat} (hG0 : Has H0 L0) (hm : P.follows .mixedOrders = true) (hB : drawBF ([i1], lx) l = true) (hN : nF ([i1], lx) l l.length = N)
    (h : ∀ (g1 : Nat) (G : Heap), Has G ((g1, B1) :: L0) → ∃ (L : List Heap) (G' : Heap), hsL (G :: L) N = G' ∧ DYF P n ([i1], lx) (fun _ => g1) l (hsL (G :: L)) 0 l [] E0 (fun E => Q .normal E G')) : wpA P n (.region id l.toArray true) Q E0 H0 := by
  obtain ⟨L, G', h1, h2⟩ := h H0.length (H0 ++ [some B1]) (hG0.new B1)
  exact wpA_yF (fx := ([i1], lx)) (gid := fun _ => H0.length) [B1] L G' hm hB (fun j hj => by simp) (fun i j hi hj _ => by simp at hi hj; omega) hN h1 h2

/-- No new block, but calls (lx) that turn the heap. -/
theorem wpA_yC {P : Program} {n : Nat} {l : List Oper} {E0 : Env} {Q : QA} {id : Nat} {G : Heap} (lx : List Nat) (L : List Heap) (G' : Heap) {N : Nat} (hm : P.follows .mixedOrders = true) (hB : drawBF ([], lx) l = true) (hN : nF ([], lx) l l.length = N) (hG : hsL (G :: L) N = G')
    (h : DYF P n ([], lx) (fun _ => 0) l (hsL (G :: L)) 0 l [] E0 (fun E => Q .normal E G')) : wpA P n (.region id l.toArray true) Q E0 G := by
  have e : G ++ ([] : List Blk).map some = G := by simp
  refine wpA_yF (fx := ([], lx)) (gid := fun _ => 0) [] L G' hm hB (fun j hj => by simp at hj) (fun i j hi hj _ => by simp at hi) hN ?_ ?_
  · rw [e]; exact hG
  · rw [e]; exact h

/-- Two new blocks. -/
theorem wpA_yF2 {P : Program} {n : Nat} {l : List Oper} {E0 : Env} {Q : QA} {id : Nat} {H0 : Heap} {L0 : List (Nat × Blk)} (i1 i2 : Nat) (B1 B2 : Blk) {N : Nat} (hG0 : Has H0 L0) (hm : P.follows .mixedOrders = true) (hne : Nat.beq i1 i2 = false) (hB : drawBF ([i1, i2], []) l = true) (hN : nF ([i1, i2], []) l l.length = N)
    (h : ∀ (g1 g2 : Nat) (G : Heap), Has G ((g2, B2) :: (g1, B1) :: L0) → ∃ (L : List Heap) (G' : Heap), hsL (G :: L) N = G' ∧ DYF P n ([i1, i2], []) (fun i => match Nat.beq i i1 with | true => g1 | false => g2) l (hsL (G :: L)) 0 l [] E0 (fun E => Q .normal E G')) : wpA P n (.region id l.toArray true) Q E0 H0 := by
  obtain ⟨L, G', h1, h2⟩ := h H0.length (H0 ++ [some B1]).length (H0 ++ [some B1] ++ [some B2]) ((hG0.new B1).new B2)
  have hne : i1 ≠ i2 := fun e => by rw [e] at hne; simp at hne
  have eH : H0 ++ [some B1] ++ [some B2] = H0 ++ [B1, B2].map some := by simp
  rw [eH] at h1 h2
  refine wpA_yF (fx := ([i1, i2], [])) (gid := fun i => match Nat.beq i i1 with | true => H0.length | false => (H0 ++ [some B1]).length) [B1, B2] L G' hm hB (fun j hj => ?_) (fun i j hi hj e => ?_) hN h1 h2
  · simp only [List.length_append, List.length_cons, List.length_nil]
    cases Nat.beq j i1 <;> simp
  · simp only [List.contains_eq_mem, List.mem_cons, List.not_mem_nil, or_false, decide_eq_true_eq] at hi hj
    rcases hi with rfl | rfl <;> rcases hj with rfl | rfl
    · rfl
    · have : Nat.beq j i = false := by cases hb : Nat.beq j i with | false => rfl | true => exact absurd (Nat.eq_of_beq_eq_true hb).symm hne
      simp [this] at e
    · have : Nat.beq i j = false := by cases hb : Nat.beq i j with | false => rfl | true => exact absurd (Nat.eq_of_beq_eq_true hb).symm hne
      simp [this] at e
    · rfl

section
variable {P : Program} {n : Nat} {fx : List Nat × List Nat} {gid : Nat → Nat} {l : List Oper} {acc : List PV} {Hs : Nat → Heap} {i : Nat} {o : Oper} {os : List Oper} {p : PV} {E : Env} {d : Nat} {K : Env → Prop}

theorem F_end {K : Env → Heap → Prop} {Q : QA} {H : Heap} (h : K E H) : DYF P n fx gid l Hs i [] acc E (fun E => thenA K Q .normal E H) := h

theorem F_k (hf : fx.1.contains i = false) (hg : o.guard = none) (hl : (loudOp o || fx.2.contains i) = false) (hd : o.dst = some d) (hn : d < n) (h : ∀ G, OpK P o (opEnv o E) G p G) (k : DYF P n fx gid l Hs (i + 1) os (p :: acc) ((d, p) :: E) K) : DYF P n fx gid l Hs i (o :: os) acc E K := by
  refine ⟨p, ⟨fun d' hd' => by rw [hd] at hd'; cases hd'; exact hn, ?_⟩, by rw [hd]; exact k⟩
  rw [hf, hg, hl]
  exact fun c _ _ => h (Hs c)

theorem F_v (hf : fx.1.contains i = false) (hg : o.guard = none) (hl : (loudOp o || fx.2.contains i) = false) (hd : o.dst = some d) (hn : d < n) (h : ∀ G, OpV P o (opEnv o E) G p) (k : DYF P n fx gid l Hs (i + 1) os (p :: acc) ((d, p) :: E) K) : DYF P n fx gid l Hs i (o :: os) acc E K :=
  F_k hf hg hl hd hn (fun G => (h G).K) k

/-- An operation that looks at the heap, whichever it is. -/
theorem F_r (lo hi : Nat) (hf : fx.1.contains i = false) (h1 : loF fx l i = lo) (h2 : hiF fx l i = hi) (hg : o.guard = none) (hl : (loudOp o || fx.2.contains i) = false) (hd : o.dst = some d) (hn : d < n) (h : ∀ k, lo ≤ k → k ≤ hi → OpV P o (opEnv o E) (Hs k) p)
    (k : DYF P n fx gid l Hs (i + 1) os (p :: acc) ((d, p) :: E) K) : DYF P n fx gid l Hs i (o :: os) acc E K := by
  refine ⟨p, ⟨fun d' hd' => by rw [hd] at hd'; cases hd'; exact hn, ?_⟩, by rw [hd]; exact k⟩
  rw [hf, hg, hl]
  intro c hc1 hc2
  exact (h c (by omega) (by omega)).K

theorem F_w {H H' : Heap} (c : Nat) (hf : fx.1.contains i = false) (hc : nF fx l i = c) (h1 : Hs c = H) (hg : o.guard = none) (hl : (loudOp o || fx.2.contains i) = true) (hd : o.dst = some d) (hn : d < n) (h : OpW P o (opEnv o E) H p H') (h2 : Hs (c + 1) = H')
    (k : DYF P n fx gid l Hs (i + 1) os (p :: acc) ((d, p) :: E) K) : DYF P n fx gid l Hs i (o :: os) acc E K := by
  refine ⟨p, ⟨fun d' hd' => by rw [hd] at hd'; cases hd'; exact hn, ?_⟩, by rw [hd]; exact k⟩
  rw [hf, hg, hl, hc, h1, h2]
  exact h.K

theorem F_s {H H' : Heap} (c : Nat) (hf : fx.1.contains i = false) (hc : nF fx l i = c) (h1 : Hs c = H) (hg : o.guard = none) (hl : (loudOp o || fx.2.contains i) = true) (hd : o.dst = none) (h : OpS P o (opEnv o E) H H') (h2 : Hs (c + 1) = H')
    (k : DYF P n fx gid l Hs (i + 1) os (.v undef :: acc) E K) : DYF P n fx gid l Hs i (o :: os) acc E K := by
  refine ⟨.v undef, ⟨fun d' hd' => (by rw [hd] at hd'; cases hd'), ?_⟩, by rw [hd]; exact k⟩
  rw [hf, hg, hl, hc, h1, h2]
  exact h.K

theorem F_c {H H' : Heap} (c : Nat) (hf : fx.1.contains i = false) (hc : nF fx l i = c) (h1 : Hs c = H) (hg : o.guard = none) (hl : (loudOp o || fx.2.contains i) = true) (hd : o.dst = some d) (hn : d < n) (h : OpK P o (opEnv o E) H p H') (h2 : Hs (c + 1) = H')
    (k : DYF P n fx gid l Hs (i + 1) os (p :: acc) ((d, p) :: E) K) : DYF P n fx gid l Hs i (o :: os) acc E K := by
  refine ⟨p, ⟨fun d' hd' => by rw [hd] at hd'; cases hd'; exact hn, ?_⟩, by rw [hd]; exact k⟩
  rw [hf, hg, hl, hc, h1, h2]
  exact h

/-- A new block comes up. -/
theorem F_f {g : Nat} {B : Blk} (lo hi : Nat) (hf : fx.1.contains i = true) (hgi : gid i = g) (h1 : loF fx l i = lo) (h2 : hiF fx l i = hi) (hg : o.guard = none) (hd : o.dst = some d) (hn : d < n) (h : OpF P o (opEnv o E) g B p) (hB : ∀ k, lo ≤ k → k ≤ hi → (Hs k)[g]? = some (some B))
    (k : DYF P n fx gid l Hs (i + 1) os (p :: acc) ((d, p) :: E) K) : DYF P n fx gid l Hs i (o :: os) acc E K := by
  refine ⟨p, ⟨fun d' hd' => by rw [hd] at hd'; cases hd'; exact hn, ?_⟩, by rw [hd]; exact k⟩
  rw [hf, hgi]
  exact ⟨hg, by rw [hd]; rfl, B, h, fun c hc1 hc2 => hB c (by omega) (by omega)⟩

end
end Go.Th
