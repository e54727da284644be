/- A block that is closed drops out of the list; results, cell by cell. -/
import Derived.Test.YtpmfnjkcoogicaaGreatThB
namespace Go.Th
open Go.RowKit

theorem Has.forget {H : Heap} {L : List (Nat × Blk)} {id : Nat} {B : Blk} (h : Has H ((id, B) :: L)) : Has (H.set id none) L :=
  ⟨fun k i C hk => get_set_ne (h.get (k + 1) i C (by simpa using hk)) (h.ne 0 (k + 1) (id, B) (i, C) (by omega) rfl (by simpa using hk)), h.tail.ne⟩

theorem takeN_all {l : List PV} {n : Nat} (h : l.length = n) : takeN n (l.drop 0) = some l := by
  rw [takeN_eq]; subst h; simp

inductive ConvL (H : Heap) : List PV → List PV → Prop
  | nil : ConvL H [] []
  | cons {c d : PV} {cs ds : List PV} (h : Conv H c d) (k : ConvL H cs ds) : ConvL H (c :: cs) (d :: ds)
theorem ConvL.refl (H : Heap) : ∀ l, ConvL H l l
  | [] => .nil
  | a :: l => .cons (.refl a) (ConvL.refl H l)
theorem ConvL.all {H : Heap} {cs ds : List PV} (h : ConvL H cs ds) : ds.length = cs.length ∧ ∀ (j : Nat) (c d : PV), cs[j]? = some c → ds[j]? = some d → Conv H c d := by
  induction h with
  | nil => exact ⟨rfl, fun j c d h => by simp at h⟩
  | cons h k ih =>
    refine ⟨by simp [ih.1], fun j c d hc hd => ?_⟩
    cases j with
    | zero => simp at hc hd; subst hc; subst hd; exact h
    | succ j => exact ih.2 j c d (by simpa using hc) (by simpa using hd)
theorem ConvL.agg {H : Heap} {cs ds : List PV} (h : ConvL H cs ds) : Conv H (.agg cs) (.agg ds) := .agg h.all.1 h.all.2
/-- A slice of ours that holds trees. -/
theorem Conv.own {H : Heap} {L : List (Nat × Blk)} {k id len sz : Nat} {B : Blk} (hG : Has H L) (hk : L[k]? = some (id, B)) (hl : B.cells.length = len * sz) : Conv H (.sl id 0 len sz) (.tr B.cells len sz) :=
  .sl (hG.get k id B hk) (takeN_all hl) rfl (fun j c d hc hd => by rw [hc] at hd; cases hd; exact .refl _)
theorem loadA_at {H : Heap} {d : TypeDesc} {size id off : Nat} {B : Blk} (hB : H[id]? = some (some B)) : loadA d size H (.ptr id off) = loadC d size B.cells off := by
  simp only [loadA, readA, hB]; rfl
end Go.Th

/- A slice in a cell is closed. -/
namespace Go.Th
open Go.RowKit

theorem R.freeze {m : Mp} {H : Heap} {w : World} {id off len sz : Nat} {B : Blk} {cs : List PV} {v : Value} (h : R m H w) (hB : H[id]? = some (some B)) (hc : takeN (len * sz) (B.cells.drop off) = some cs) (hv : Rep m w (.sl id off len sz) v) :
    ∃ m', Le m w m' w ∧ R m' (H.set id none) w ∧ Rep m' w (.tr cs len sz) v := by
  have hat : At m w 1 [(0, .sl id off len sz)] H ⟨#[v], []⟩ w := ⟨rfl, rfl, m, Le.refl m w, h, fun t p ht => by
    rw [Env.get_cons] at ht
    by_cases e : 0 = t
    · subst e; rw [if_pos rfl] at ht; cases ht; exact hv
    · rw [if_neg e] at ht; simp [Env.get] at ht⟩
  obtain ⟨_, _, m', h3, h4, h5⟩ := hat.freeze (t := 0) rfl hB hc
  exact ⟨m', h3, h4, h5 0 _ rfl⟩

theorem R.altv {m : Mp} {H : Heap} {w : World} {id : Nat} {B : Blk} (h : R m H w) (hB : H[id]? = some (some B)) (B' : Blk) (ho : B'.own = B.own) (he : B'.elem = B.elem) (hl : B'.cells.length = B.cells.length)
    (hc : ∀ (b d lim : Nat) (cur : Array Value), m.blk id = some (b, d, lim) → w.heap[b]? = some (.cells cur B.elem (0, 0)) → ∀ (j : Nat) (c' : PV), B'.cells[j]? = some c' → ∃ c, B.cells[j]? = some c ∧ ∀ v, cur[d + j]? = some v → Rep m w c v → Rep m w c' v) : R m (H.set id (some B')) w := by
  have back : ∀ i C, (H.set id (some B'))[i]? = some (some C) → ∃ D, H[i]? = some (some D) ∧ D.own = C.own ∧ (i = id ∧ C = B' ∨ i ≠ id ∧ D = C) := fun i C hi => by
    rcases set_get hi with ⟨rfl, e⟩ | ⟨hne, hi⟩
    · cases e; exact ⟨B, hB, ho.symm, .inl ⟨rfl, rfl⟩⟩
    · exact ⟨C, hi, rfl, .inr ⟨hne, rfl⟩⟩
  refine ⟨h.rk, h.kl, fun i x hx => by simpa using h.dom i x hx, fun i C b d lim hi hm => ?_, fun i j C D bi di li bj dj lj hne hi hj h1 h2 hmi hmj => ?_⟩
  · obtain ⟨D, hD, hDo, hcase⟩ := back i C hi
    obtain ⟨q1, ⟨cur, c1, c2, c3, c4⟩, q3, q4⟩ := h.blk i D b d lim hD hm
    rcases hcase with ⟨rfl, rfl⟩ | ⟨_, rfl⟩
    · rw [hB] at hD; cases hD
      refine ⟨q1, ⟨cur, by rw [he]; exact c1, c2, by rw [hl]; exact c3, fun j c' hj => ?_⟩, by rw [ho]; exact q3, by rw [ho]; exact q4⟩
      obtain ⟨c, hcj, hcv⟩ := hc b d lim cur hm c1 j c' hj
      obtain ⟨v, hv, hr, h1⟩ := c4 j c hcj
      exact ⟨v, hv, hcv v hv hr, h1⟩
    · exact ⟨q1, ⟨cur, c1, c2, c3, c4⟩, q3, q4⟩
  · obtain ⟨C', hC', hCo, _⟩ := back i C hi
    obtain ⟨D', hD', hDo, _⟩ := back j D hj
    exact h.inj i j C' D' _ _ _ _ _ _ hne hC' hD' (by rw [hCo]; exact h1) (by rw [hDo]; exact h2) hmi hmj

theorem wpA_freezeC {P : Program} {n : Nat} {Q : QA} {E : Env} {H : Heap} {L : List (Nat × Blk)} {id pg len sz : Nat} {B C : Blk} {c : Code} (k j : Nat) (hG : Has H ((id, C) :: L)) (hk : L[k]? = some (pg, B)) (hc : B.cells[j]? = some (.sl id 0 len sz)) (hl : C.cells.length = len * sz)
    (h : ∀ G, Has G (L.set k (pg, { B with cells := B.cells.set j (.tr C.cells len sz) })) → wpA P n c Q E G) : wpA P n c Q E H := by
  rintro m0 w0 a w ⟨h1, h2, m, h3, h4, h5⟩
  have hB := hG.get (k + 1) pg B (by simpa using hk)
  have hC := hG.get 0 id C rfl
  have hB2 : (H.set id none)[pg]? = some (some B) := hG.forget.get k pg B hk
  have hH : Has ((H.set id none).set pg (some { B with cells := B.cells.set j (.tr C.cells len sz) })) (L.set k (pg, { B with cells := B.cells.set j (.tr C.cells len sz) })) := hG.forget.set hk _
  have hjl : j < B.cells.length := (List.getElem?_eq_some_iff.1 hc).1
  cases hm : m.blk pg with
  | none =>
    have hR : R m ((H.set id none).set pg (some { B with cells := B.cells.set j (.tr C.cells len sz) })) w :=
      (h4.kill id).altv hB2 _ rfl rfl (by simp) (fun b d lim cur e _ => by rw [hm] at e; cases e)
    exact h _ hH m0 w0 a w ⟨h1, h2, m, h3, hR, h5⟩
  | some x =>
    obtain ⟨b, d, lim⟩ := x
    obtain ⟨rfl, ⟨cur, c1, c2, c3, c4⟩, _, _⟩ := h4.blk pg B b d lim hB hm
    obtain ⟨v, hv, hr, _⟩ := c4 j _ hc
    obtain ⟨m', hle, hR', hr'⟩ := h4.freeze hC (takeN_all hl) hr
    have hR : R m' ((H.set id none).set pg (some { B with cells := B.cells.set j (.tr C.cells len sz) })) w := by
      refine hR'.altv hB2 _ rfl rfl (by simp) (fun b' d' lim' cur' e e' j' c' hj' => ?_)
      have e2 := hle.blk pg _ hm
      rw [e2] at e; cases e
      rw [c1] at e'; cases e'
      rcases listset hj' with ⟨rfl, rfl⟩ | ⟨_, hj'⟩
      · exact ⟨_, hc, fun u hu _ => by rw [hv] at hu; cases hu; exact hr'⟩
      · exact ⟨c', hj', fun u _ hu => hu⟩
    exact h _ hH m0 w0 a w ⟨h1, h2, m', h3.trans hle, hR, h5.mono h4.rk hle⟩

/-- An operation that looks at the heap, with or without one writing operation ahead of it. -/
theorem D_r2 {P : Program} {n : Nat} {l : List Oper} {acc : List PV} {Hs : Nat → Heap} {i : Nat} {o : Oper} {os : List Oper} {p : PV} {E : Env} {d : Nat} {K : Env → Prop} {H H2 : Heap} (c : Nat) (h1 : loCount l i = c) (h2 : hiCount l i = c + 1) (hH : Hs c = H) (hH2 : Hs (c + 1) = H2) (hg : o.guard = none) (hl : loudOp o = false) (hd : o.dst = some d) (hn : d < n)
    (h : OpV P o (opEnv o E) H p) (h' : OpV P o (opEnv o E) H2 p) (k : DX P n l Hs (i + 1) os (acc ++ [p]) ((d, p) :: E) K) : DX P n l Hs i (o :: os) acc E K := by
  refine ⟨p, ⟨fun d' hd' => by rw [hd] at hd'; cases hd'; exact hn, ?_⟩, by rw [hd]; exact k⟩
  rw [hg, hl]
  intro c' hc1 hc2
  rcases Nat.lt_or_ge c c' with hlt | hge
  · have : c' = c + 1 := by omega
    subst this
    rw [hH2]; exact h'.K
  · have : c' = c := by omega
    subst this
    rw [hH]; exact h.K
end Go.Th

/- Cells that stand for less: a nil slice as a slice of no cells. -/
namespace Go.Th
open Go.RowKit

def Wk (c c' : PV) : Prop := ∀ m w v, Rep m w c v → Rep m w c' v
theorem Wk.refl (c : PV) : Wk c c := fun _ _ _ h => h
theorem Wk.nil (sz : Nat) : Wk (.v (.slice none 0 0)) (.tr [] 0 sz) := fun m w v h => by rw [rep_v h]; exact .trn

inductive WkL : List PV → List PV → Prop
  | nil : WkL [] []
  | cons {c d : PV} {cs ds : List PV} (h : Wk c d) (k : WkL cs ds) : WkL (c :: cs) (d :: ds)
theorem WkL.refl : ∀ l, WkL l l
  | [] => .nil
  | a :: l => .cons (.refl a) (WkL.refl l)
theorem WkL.app {a b c d : List PV} (h : WkL a b) (k : WkL c d) : WkL (a ++ c) (b ++ d) := by
  induction h with
  | nil => exact k
  | cons h _ ih => exact .cons h ih
theorem WkL.all {cs ds : List PV} (h : WkL cs ds) : ds.length = cs.length ∧ ∀ (j : Nat) (d : PV), ds[j]? = some d → ∃ c, cs[j]? = some c ∧ Wk c d := by
  induction h with
  | nil => exact ⟨rfl, fun j d h => by simp at h⟩
  | cons h k ih =>
    refine ⟨by simp [ih.1], fun j d hd => ?_⟩
    cases j with
    | zero => simp at hd; subst hd; exact ⟨_, rfl, h⟩
    | succ j => exact ih.2 j d (by simpa using hd)

theorem Wk.agg {cs ds : List PV} (h : WkL cs ds) : Wk (.agg cs) (.agg ds) := fun m w v hr => by
  obtain ⟨hl, hc⟩ := h.all
  cases hr with
  | agg vs a b =>
    refine .agg vs (by rw [a, hl]) fun j d hd => ?_
    obtain ⟨c, hc1, hc2⟩ := hc j d hd
    exact hc2 m w _ (b j c hc1)

theorem Wk.tr {cs ds : List PV} {len sz : Nat} (h : WkL cs ds) : Wk (.tr cs len sz) (.tr ds len sz) := fun m w v hr => by
  obtain ⟨hl, hc⟩ := h.all
  cases hr with
  | tr f a b c d e g =>
    refine .tr f a (by rw [hl, b]) c d (fun j q hq => ?_) (fun j q hq => ?_)
    · obtain ⟨c', hc1, hc2⟩ := hc j q hq
      exact e j c' hc1
    · obtain ⟨c', hc1, hc2⟩ := hc j q hq
      exact hc2 m w _ (g j c' hc1)
  | tr0 a b =>
    have : ds = [] := List.length_eq_zero_iff.1 (by rw [hl]; rfl)
    subst this; exact .tr0 a b
  | trn =>
    have : ds = [] := List.length_eq_zero_iff.1 (by rw [hl]; rfl)
    subst this; exact .trn

theorem wpA_wk {P : Program} {n : Nat} {Q : QA} {E : Env} {H : Heap} {c : Code} (t : Nat) {p p' : PV} (ht : E.get t = some p) (hw : Wk p p') (h : wpA P n c Q ((t, p') :: E) H) : wpA P n c Q E H := by
  rintro m0 w0 a w ⟨h1, h2, m, h3, h4, h5⟩
  refine h m0 w0 a w ⟨h1, h2, m, h3, h4, fun t' q hq => ?_⟩
  rw [Env.get_cons] at hq
  by_cases e : t = t'
  · subst e
    rw [if_pos rfl] at hq; cases hq
    exact hw m w _ (h5 t p ht)
  · rw [if_neg e] at hq
    exact h5 t' q hq

theorem wpA_altC {P : Program} {n : Nat} {Q : QA} {E : Env} {H : Heap} {L : List (Nat × Blk)} {pg : Nat} {B : Blk} {cs : List PV} {c : Code} (k : Nat) (hG : Has H L) (hk : L[k]? = some (pg, B)) (hw : WkL B.cells cs)
    (h : ∀ G, Has G (L.set k (pg, { B with cells := cs })) → wpA P n c Q E G) : wpA P n c Q E H := by
  rintro m0 w0 a w ⟨h1, h2, m, h3, h4, h5⟩
  obtain ⟨hl, hc⟩ := hw.all
  have hR := h4.alt (hG.get k pg B hk) { B with cells := cs } rfl rfl hl (fun j d hd => let ⟨c, c1, c2⟩ := hc j d hd; ⟨c, c1, fun v hv => c2 m w v hv⟩)
  exact h _ (hG.set hk _) m0 w0 a w ⟨h1, h2, m, h3, hR, h5⟩

theorem wpL_altC {P : Program} {n : Nat} {Q : QA} {E : Env} {H : Heap} {ops : Array Oper} {rest : List Oper} {L : List (Nat × Blk)} {pg : Nat} {B : Blk} {cs : List PV} (k : Nat) (hG : Has H L) (hk : L[k]? = some (pg, B)) (hw : WkL B.cells cs)
    (h : ∀ G, Has G (L.set k (pg, { B with cells := cs })) → wpL P n ops rest Q E G) : wpL P n ops rest Q E H := by
  rintro m0 w0 a w ⟨h1, h2, m, h3, h4, h5⟩
  obtain ⟨hl, hc⟩ := hw.all
  have hR := h4.alt (hG.get k pg B hk) { B with cells := cs } rfl rfl hl (fun j d hd => let ⟨c, c1, c2⟩ := hc j d hd; ⟨c, c1, fun v hv => c2 m w v hv⟩)
  exact h _ (hG.set hk _) m0 w0 a w ⟨h1, h2, m, h3, hR, h5⟩

theorem wpL_freeze {P : Program} {n : Nat} {Q : QA} {E : Env} {H : Heap} {ops : Array Oper} {rest : List Oper} (t : Nat) {id off len sz : Nat} {B : Blk} {cs : List PV} (ht : E.get t = some (.sl id off len sz)) (hB : H[id]? = some (some B)) (hc : takeN (len * sz) (B.cells.drop off) = some cs)
    (h : wpL P n ops rest Q ((t, .tr cs len sz) :: E) (H.set id none)) : wpL P n ops rest Q E H := fun m0 w0 a w hat => h m0 w0 a w (hat.freeze ht hB hc)
theorem ndec_t {p : Prop} [Decidable p] (h : ¬ p) : (!decide p) = true := by simp [h]
theorem ndec_f {p : Prop} [Decidable p] (h : p) : (!decide p) = false := by simp [h]
end Go.Th

/- Regions that draw their order, with the values found on the way told backwards: the guards are looked up fast. -/
namespace Go.Th
open Go.RowKit

def DY (P : Program) (n : Nat) (l : List Oper) (Hs : Nat → Heap) : Nat → List Oper → List PV → Env → (Env → Prop) → Prop
  | _, [], _, E, K => K E
  | i, o :: os, acc, E, K => ∃ p, ((∀ d, o.dst = some d → d < n) ∧
      match o.guard with
      | none => match loudOp o with
        | true => OpK P o (opEnv o E) (Hs (nLoud l i)) p (Hs (nLoud l i + 1))
        | false => ∀ k, loCount l i ≤ k → k ≤ hiCount l i → OpK P o (opEnv o E) (Hs k) p (Hs k)
      | some (j, want) => ∃ b oj, j < i ∧ acc[i - 1 - j]? = some (.v (.bool b)) ∧ l[j]? = some oj ∧ oj.dst.isSome = true ∧
          (b = want → ∀ k, loCount l i ≤ k → k ≤ hiCount l i → OpK P o (opEnv o E) (Hs k) p (Hs k)) ∧ (b ≠ want → p = .v undef)) ∧
    DY P n l Hs (i + 1) os (p :: acc) (match o.dst with | some d => (d, p) :: E | none => E) K

theorem DY.dx {P : Program} {n : Nat} {l : List Oper} {Hs : Nat → Heap} {K : Env → Prop} : ∀ (os : List Oper) (i : Nat) (acc : List PV) (E : Env), acc.length = i → DY P n l Hs i os acc E K → DX P n l Hs i os acc.reverse E K
  | [], i, acc, E, _, h => h
  | o :: os, i, acc, E, hl, ⟨p, ⟨h1, h2⟩, h3⟩ => by
    have h4 := DY.dx os (i + 1) (p :: acc) _ (by simp [hl]) h3
    rw [List.reverse_cons] at h4
    refine ⟨p, ⟨h1, ?_⟩, h4⟩
    cases hg : o.guard with
    | none => rw [hg] at h2; exact h2
    | some jw =>
      rw [hg] at h2
      obtain ⟨b, oj, e0, e1, e2⟩ := h2
      refine ⟨b, oj, ?_, e2⟩
      rw [List.getElem?_reverse (by omega), hl]
      exact e1

theorem wpA_yL {P : Program} {n : Nat} {l : List Oper} {E0 : Env} {Q : QA} {id : Nat} {G : Heap} (L : List Heap) (G' : Heap) {N : Nat} (hm : P.follows .mixedOrders = true) (hB : drawB l = true) (hN : nLoud l l.length = N) (hG : hsL (G :: L) N = G')
    (h : DY P n l (hsL (G :: L)) 0 l [] E0 (fun E => Q .normal E G')) : wpA P n (.region id l.toArray true) Q E0 G :=
  wpA_dL L G' hm hB hN hG (DY.dx l 0 [] E0 rfl h)

theorem wpA_yq {P : Program} {n : Nat} {l : List Oper} {H : Heap} {E0 : Env} {Q : QA} {id : Nat} (hm : P.follows .mixedOrders = true) (hB : drawB l = true)
    (h : DY P n l (fun _ => H) 0 l [] E0 (fun E => Q .normal E H)) : wpA P n (.region id l.toArray true) Q E0 H :=
  wpA_dq hm hB (DY.dx l 0 [] E0 rfl h)

section
variable {P : Program} {n : Nat} {l : List Oper} {acc : List PV} {Hs : Nat → Heap} {i : Nat} {o : Oper} {os : List Oper} {p : PV} {E : Env} {d : Nat} {K : Env → Prop}

theorem Y_end {K : Env → Heap → Prop} {Q : QA} {H : Heap} (h : K E H) : DY P n l Hs i [] acc E (fun E => thenA K Q .normal E H) := h

theorem Y_k (hg : o.guard = none) (hl : loudOp o = false) (hd : o.dst = some d) (hn : d < n) (h : ∀ G, OpK P o (opEnv o E) G p G) (k : DY P n l Hs (i + 1) os (p :: acc) ((d, p) :: E) K) : DY P n l Hs i (o :: os) acc E K := by
  refine ⟨p, ⟨fun d' hd' => by rw [hd] at hd'; cases hd'; exact hn, ?_⟩, by rw [hd]; exact k⟩
  rw [hg, hl]
  exact fun c _ _ => h (Hs c)

theorem Y_v (hg : o.guard = none) (hl : loudOp o = false) (hd : o.dst = some d) (hn : d < n) (h : ∀ G, OpV P o (opEnv o E) G p) (k : DY P n l Hs (i + 1) os (p :: acc) ((d, p) :: E) K) : DY P n l Hs i (o :: os) acc E K :=
  Y_k hg hl hd hn (fun G => (h G).K) k

theorem Y_r {H : Heap} (c : Nat) (h1 : loCount l i = c) (h2 : hiCount l i = c) (hH : Hs c = H) (hg : o.guard = none) (hl : loudOp o = false) (hd : o.dst = some d) (hn : d < n) (h : OpV P o (opEnv o E) H p) (k : DY P n l Hs (i + 1) os (p :: acc) ((d, p) :: E) K) : DY P n l Hs i (o :: os) acc E K := by
  refine ⟨p, ⟨fun d' hd' => by rw [hd] at hd'; cases hd'; exact hn, ?_⟩, by rw [hd]; exact k⟩
  rw [hg, hl]
  intro c' hc1 hc2
  have : c' = c := by omega
  subst this
  rw [hH]
  exact h.K

theorem Y_r2 {H H2 : Heap} (c : Nat) (h1 : loCount l i = c) (h2 : hiCount l i = c + 1) (hH : Hs c = H) (hH2 : Hs (c + 1) = H2) (hg : o.guard = none) (hl : loudOp o = false) (hd : o.dst = some d) (hn : d < n)
    (h : OpV P o (opEnv o E) H p) (h' : OpV P o (opEnv o E) H2 p) (k : DY P n l Hs (i + 1) os (p :: acc) ((d, p) :: E) K) : DY P n l Hs i (o :: os) acc E K := by
  refine ⟨p, ⟨fun d' hd' => by rw [hd] at hd'; cases hd'; exact hn, ?_⟩, by rw [hd]; exact k⟩
  rw [hg, hl]
  intro c' hc1 hc2
  rcases Nat.lt_or_ge c c' with hlt | hge
  · have : c' = c + 1 := by omega
    subst this
    rw [hH2]; exact h'.K
  · have : c' = c := by omega
    subst this
    rw [hH]; exact h.K

theorem Y_q {H : Heap} (hg : o.guard = none) (hl : loudOp o = false) (hd : o.dst = some d) (hn : d < n) (h : OpV P o (opEnv o E) H p) (k : DY P n l (fun _ => H) (i + 1) os (p :: acc) ((d, p) :: E) K) : DY P n l (fun _ => H) i (o :: os) acc E K := by
  refine ⟨p, ⟨fun d' hd' => by rw [hd] at hd'; cases hd'; exact hn, ?_⟩, by rw [hd]; exact k⟩
  rw [hg, hl]
  exact fun _ _ _ => h.K

/-- A quiet call of a function of trees, where nothing is written. -/
theorem Y_kq {H : Heap} (hg : o.guard = none) (hl : loudOp o = false) (hd : o.dst = some d) (hn : d < n) (h : OpK P o (opEnv o E) H p H) (k : DY P n l (fun _ => H) (i + 1) os (p :: acc) ((d, p) :: E) K) : DY P n l (fun _ => H) i (o :: os) acc E K := by
  refine ⟨p, ⟨fun d' hd' => by rw [hd] at hd'; cases hd'; exact hn, ?_⟩, by rw [hd]; exact k⟩
  rw [hg, hl]
  exact fun _ _ _ => h

theorem Y_w {H H' : Heap} (c : Nat) (hc : nLoud l i = c) (h1 : Hs c = H) (hg : o.guard = none) (hl : loudOp o = true) (hd : o.dst = some d) (hn : d < n) (h : OpW P o (opEnv o E) H p H') (h2 : Hs (c + 1) = H') (k : DY P n l Hs (i + 1) os (p :: acc) ((d, p) :: E) K) : DY P n l Hs i (o :: os) acc E K := by
  refine ⟨p, ⟨fun d' hd' => by rw [hd] at hd'; cases hd'; exact hn, ?_⟩, by rw [hd]; exact k⟩
  rw [hg, hl, hc, h1, h2]
  exact h.K

theorem Y_s {H H' : Heap} (c : Nat) (hc : nLoud l i = c) (h1 : Hs c = H) (hg : o.guard = none) (hl : loudOp o = true) (hd : o.dst = none) (h : OpS P o (opEnv o E) H H') (h2 : Hs (c + 1) = H') (k : DY P n l Hs (i + 1) os (.v undef :: acc) E K) : DY P n l Hs i (o :: os) acc E K := by
  refine ⟨.v undef, ⟨(fun d' hd' => by rw [hd] at hd'; cases hd'), ?_⟩, by rw [hd]; exact k⟩
  rw [hg, hl, hc, h1, h2]
  exact h.K

theorem Y_c {H H' : Heap} (c : Nat) (hc : nLoud l i = c) (h1 : Hs c = H) (hg : o.guard = none) (hl : loudOp o = true) (hd : o.dst = some d) (hn : d < n) (h : OpK P o (opEnv o E) H p H') (h2 : Hs (c + 1) = H') (k : DY P n l Hs (i + 1) os (p :: acc) ((d, p) :: E) K) : DY P n l Hs i (o :: os) acc E K := by
  refine ⟨p, ⟨fun d' hd' => by rw [hd] at hd'; cases hd'; exact hn, ?_⟩, by rw [hd]; exact k⟩
  rw [hg, hl, hc, h1, h2]
  exact h

/-- Under a guard that says yes: the operation ahead of the guard's facts. -/
theorem Y_gk {j : Nat} {want : Bool} {oj : Oper} (h : ∀ G, OpK P o (opEnv o E) G p G) (hg : o.guard = some (j, want)) (hji : j < i) (hv : acc[i - 1 - j]? = some (.v (.bool want))) (hj : l[j]? = some oj) (hjd : oj.dst.isSome = true) (hd : o.dst = some d) (hn : d < n)
    (k : DY P n l Hs (i + 1) os (p :: acc) ((d, p) :: E) K) : DY P n l Hs i (o :: os) acc E K := by
  refine ⟨p, ⟨fun d' hd' => by rw [hd] at hd'; cases hd'; exact hn, ?_⟩, by rw [hd]; exact k⟩
  rw [hg]
  exact ⟨want, oj, hji, hv, hj, hjd, fun _ c _ _ => h (Hs c), fun e => absurd rfl e⟩

theorem Y_gv {j : Nat} {want : Bool} {oj : Oper} (h : ∀ G, OpV P o (opEnv o E) G p) (hg : o.guard = some (j, want)) (hji : j < i) (hv : acc[i - 1 - j]? = some (.v (.bool want))) (hj : l[j]? = some oj) (hjd : oj.dst.isSome = true) (hd : o.dst = some d) (hn : d < n)
    (k : DY P n l Hs (i + 1) os (p :: acc) ((d, p) :: E) K) : DY P n l Hs i (o :: os) acc E K :=
  Y_gk (fun G => (h G).K) hg hji hv hj hjd hd hn k

theorem Y_gq {H : Heap} {j : Nat} {want : Bool} {oj : Oper} (h : OpV P o (opEnv o E) H p) (hg : o.guard = some (j, want)) (hji : j < i) (hv : acc[i - 1 - j]? = some (.v (.bool want))) (hj : l[j]? = some oj) (hjd : oj.dst.isSome = true) (hd : o.dst = some d) (hn : d < n)
    (k : DY P n l (fun _ => H) (i + 1) os (p :: acc) ((d, p) :: E) K) : DY P n l (fun _ => H) i (o :: os) acc E K := by
  refine ⟨p, ⟨fun d' hd' => by rw [hd] at hd'; cases hd'; exact hn, ?_⟩, by rw [hd]; exact k⟩
  rw [hg]
  exact ⟨want, oj, hji, hv, hj, hjd, fun _ _ _ _ => h.K, fun e => absurd rfl e⟩

theorem Y_gn {j : Nat} {want b : Bool} {oj : Oper} (hg : o.guard = some (j, want)) (hji : j < i) (hv : acc[i - 1 - j]? = some (.v (.bool b))) (hb : b = !want) (hj : l[j]? = some oj) (hjd : oj.dst.isSome = true) (hd : o.dst = some d) (hn : d < n)
    (k : DY P n l Hs (i + 1) os (.v undef :: acc) ((d, .v undef) :: E) K) : DY P n l Hs i (o :: os) acc E K := by
  refine ⟨.v undef, ⟨fun d' hd' => by rw [hd] at hd'; cases hd'; exact hn, ?_⟩, by rw [hd]; exact k⟩
  rw [hg]
  refine ⟨b, oj, hji, hv, hj, hjd, fun e => ?_, fun _ => rfl⟩
  subst e; cases b <;> simp at hb
end
end Go.Th

/- Functions of trees that are called with slices of the caller's own and hand back a plain value. -/
namespace Go.Th
open Go.RowKit
set_option linter.unusedVariables false

section
variable {P : Program} {n : Nat} {Q : QA} {E : Env} {H : Heap} {ops : Array Oper} {rest : List Oper} {o : Oper}

theorem Iso_ACv {f : FuncId} {args args' : List PV} {Q : PV → Prop} (h : Iso P f args' Q) (hc : ConvL H args args') (ht : ∀ c ∈ args', Tree c) (hp : ∀ p, Q p → ∃ x, p = .v x) : AC P f args H (fun p H' => Q p ∧ H' = H) := by
  refine ⟨h.1, fun m w vals hR hv => ?_⟩
  obtain ⟨hl, hcc⟩ := hc.all
  have hlt : ∀ b, (closed m H).ro b → b < w.heap.size := fun b hb => by
    rcases hb with hb | ⟨id, B, d, lim, hB, hm⟩
    · exact hR.kl b (hR.rk b hb)
    · exact hR.lt hB hm
  have hv' : RepL { blk := fun _ => none, ro := (closed m H).ro, keep := fun b => b < w.heap.size } w args' vals := ⟨by rw [hl]; exact hv.1, fun j c hj => by
    obtain ⟨c0, h0⟩ : ∃ c0, args[j]? = some c0 := ⟨_, List.getElem?_eq_getElem (by rw [← hl]; exact (List.getElem?_eq_some_iff.1 hj).1)⟩
    have h1 := ht c (List.mem_of_getElem? hj) _ w _ ((hcc j c0 c h0 hj).rep hR ((hv.2 j c0 h0).mono hR.rk (closed_le hR)))
    exact Rep.mono' (m := { closed m H with blk := fun _ => none }) (m' := { blk := fun _ => none, ro := (closed m H).ro, keep := fun b => b < w.heap.size }) (w' := w) (fun _ _ h => h) (fun _ h => h) (fun _ _ _ => rfl) h1⟩
  refine (h.2 { blk := fun _ => none, ro := (closed m H).ro, keep := fun b => b < w.heap.size } w vals hlt (fun b hb => hb) (fun _ => rfl) hv').mono ?_
  rintro e w' ⟨v, p, m', rfl, hq, hr, hn, hle, hk1, hk2⟩
  obtain ⟨x, rfl⟩ := hp p hq
  have hx : v = x := rep_v hr
  have hsame : ∀ b, b < w.heap.size → w'.heap[b]? = w.heap[b]? := fun b hb => hle.same b hb
  obtain ⟨hR', hle'⟩ := hR.world hle.size hle.os hle.tape hle.output (fun b hb => hsame b (hR.kl b hb)) (fun id B b d lim hB hm => hsame b (hR.lt hB hm))
  refine ⟨v, .v x, H, m, rfl, ⟨hq, rfl⟩, ?_, hR', hle'⟩
  cases hr with
  | v _ hna => exact .v _ hna

theorem Iso_Kv {c : Call} {x : Operand} {g : FuncId} {cap args args' : List PV} {u : Value} (ho : o.op = .call c) (hc : c.callee = .value x) (hx : E.ev x = some (.fn (.func g) cap))
    (ha : evs E c.args.toList = some args) (h : Iso P g args' (fun q => q = .v u)) (hcv : ConvL H (args ++ cap) args') (ht : ∀ c ∈ args', Tree c) : OpK P o E H (.v u) H :=
  AC.K ho hc hx ha (Iso_ACv h hcv ht (fun p hp => ⟨u, hp⟩))

theorem wpL_isv {c : Call} {x : Operand} {g : FuncId} {cap args args' : List PV} {QC : PV → Prop} {d : Nat} (hg : o.guard = none) (ho : o.op = .call c) (hc : c.callee = .value x) (hx : E.ev x = some (.fn (.func g) cap))
    (ha : evs E c.args.toList = some args) (hdd : o.dst = some d) (hd : d < n) (h : Iso P g args' QC) (hcv : ConvL H (args ++ cap) args') (ht : ∀ c ∈ args', Tree c) (hp : ∀ p, QC p → ∃ x, p = .v x)
    (k : ∀ p, QC p → wpL P n ops rest Q ((d, p) :: E) H) : wpL P n ops (o :: rest) Q E H :=
  wpL_ac hg ho hc hx ha hdd hd (Iso_ACv h hcv ht hp) (fun p H' ⟨hq, e⟩ => e ▸ k p hq)

/-- Arguments that stand for more. -/
theorem Iso_wk {f : FuncId} {args args' : List PV} {Q : PV → Prop} (h : Iso P f args' Q) (hw : WkL args args') : Iso P f args Q := by
  obtain ⟨hl, hc⟩ := hw.all
  refine ⟨h.1, fun m w vals h1 h2 h3 h4 => h.2 m w vals h1 h2 h3 ⟨by rw [hl]; exact h4.1, fun j c hj => ?_⟩⟩
  obtain ⟨c0, a, b⟩ := hc j c hj
  exact b m w _ (h4.2 j c0 a)
end

section
variable {P : Program} {n : Nat} {l : List Oper} {acc : List PV} {Hs : Nat → Heap} {i : Nat} {o : Oper} {os : List Oper} {p : PV} {E : Env} {d : Nat} {K : Env → Prop}
/-- A quiet call that looks at the heap, behind c writing operations in every order. -/
theorem Y_rk {H : Heap} (c : Nat) (h1 : loCount l i = c) (h2 : hiCount l i = c) (hH : Hs c = H) (hg : o.guard = none) (hl : loudOp o = false) (hd : o.dst = some d) (hn : d < n) (h : OpK P o (opEnv o E) H p H) (k : DY P n l Hs (i + 1) os (p :: acc) ((d, p) :: E) K) : DY P n l Hs i (o :: os) acc E K := by
  refine ⟨p, ⟨fun d' hd' => by rw [hd] at hd'; cases hd'; exact hn, ?_⟩, by rw [hd]; exact k⟩
  rw [hg, hl]
  intro c' hc1 hc2
  have : c' = c := by omega
  subst this
  rw [hH]
  exact h
end
end Go.Th

/- Operations under a guard of which nothing is known: the value stands under the same question. -/
namespace Go.Th
open Go.RowKit
set_option linter.unusedVariables false

/-- p, if the guard says what is wanted. -/
def gv (b want : Bool) (p : PV) : PV := match b == want with
  | true => p
  | false => .v undef
theorem gv_same (b : Bool) (p : PV) : gv b b p = p := by cases b <;> rfl
theorem gv_not {b want : Bool} (h : b ≠ want) (p : PV) : gv b want p = .v undef := by cases b <;> cases want <;> first | rfl | exact absurd rfl h

section
variable {P : Program} {n : Nat} {Q : QA} {E : Env} {H : Heap} {ops : Array Oper} {rest : List Oper} {o : Oper} {p : PV} {d : Nat}

theorem wpL_kk {H' : Heap} (hg : o.guard = none) (hd : o.dst = some d) (hn : d < n) (h : OpK P o E H p H') (k : wpL P n ops rest Q ((d, p) :: E) H') : wpL P n ops (o :: rest) Q E H := by
  rintro m0 w0 a w ⟨h1, h2, m, h3, h4, h5⟩
  refine wpList_plain hg fun K hK => ?_
  refine h m w a _ _ h4 (fun x q hx => h5.ev hx) fun v m' w' hle hR hr => ?_
  rw [hd]
  exact hK _ _ (k m0 w0 (a.put (some d) v) w' ⟨by simp [Act.put, h1], h2, m', h3.trans hle, hR, (h5.mono h4.rk hle).put (by omega) hr⟩)

theorem wpL_gk {og : Oper} {j dj : Nat} {want b : Bool} (h : b = want → OpK P { o with guard := none } E H p H) (hg : o.guard = some (j, want)) (hj : ops[j]? = some og) (hdj : og.dst = some dj) (hb : E.get dj = some (.v (.bool b))) (hd : o.dst = some d) (hn : d < n)
    (k : wpL P n ops rest Q ((d, gv b want p) :: E) H) : wpL P n ops (o :: rest) Q E H :=
  wpL_g hg hj hdj hb hd hn (fun e => wpL_kk rfl hd hn (h e) (by subst e; rw [gv_same] at k; exact k)) (fun e => by rw [gv_not e] at k; exact k)
theorem wpL_gv {og : Oper} {j dj : Nat} {want b : Bool} (h : b = want → OpV P { o with guard := none } E H p) (hg : o.guard = some (j, want)) (hj : ops[j]? = some og) (hdj : og.dst = some dj) (hb : E.get dj = some (.v (.bool b))) (hd : o.dst = some d) (hn : d < n)
    (k : wpL P n ops rest Q ((d, gv b want p) :: E) H) : wpL P n ops (o :: rest) Q E H :=
  wpL_gk (fun e => (h e).K) hg hj hdj hb hd hn k

theorem OpV_and {c a z : Operand} {b x : Bool} (ho : o.op = .pick c a z) (hc : E.ev c = some (.v (.bool b))) (ha : b = true → E.ev a = some (.v (.bool x))) (hz : E.ev z = some (.v (.bool false))) : OpV P o E H (.v (.bool (b && x))) := by
  cases b with
  | true => exact OpV_pick_t ho hc rfl (ha rfl)
  | false => exact OpV_pick_f ho hc rfl hz
theorem OpV_or {c a z : Operand} {b x : Bool} (ho : o.op = .pick c a z) (hc : E.ev c = some (.v (.bool b))) (ha : E.ev a = some (.v (.bool true))) (hz : b = false → E.ev z = some (.v (.bool x))) : OpV P o E H (.v (.bool (b || x))) := by
  cases b with
  | true => exact OpV_pick_t ho hc rfl ha
  | false => exact OpV_pick_f ho hc rfl (hz rfl)
theorem wpL_vb {b : Bool} (hg : o.guard = none) (hd : o.dst = some d) (hn : d < n) (h : OpV P o E H (.v (.bool b))) (k : ∀ b', b' = b → wpL P n ops rest Q ((d, .v (.bool b')) :: E) H) : wpL P n ops (o :: rest) Q E H :=
  wpL_v hg hd hn h (k b rfl)
end

section
variable {P : Program} {n : Nat} {l : List Oper} {acc : List PV} {Hs : Nat → Heap} {i : Nat} {o : Oper} {os : List Oper} {p : PV} {E : Env} {d : Nat} {K : Env → Prop}

theorem Y_ggk {j : Nat} {want b : Bool} {oj : Oper} (h : b = want → ∀ G, OpK P o (opEnv o E) G p G) (hg : o.guard = some (j, want)) (hji : j < i) (hv : acc[i - 1 - j]? = some (.v (.bool b))) (hj : l[j]? = some oj) (hjd : oj.dst.isSome = true) (hd : o.dst = some d) (hn : d < n)
    (k : DY P n l Hs (i + 1) os (gv b want p :: acc) ((d, gv b want p) :: E) K) : DY P n l Hs i (o :: os) acc E K := by
  refine ⟨gv b want p, ⟨fun d' hd' => by rw [hd] at hd'; cases hd'; exact hn, ?_⟩, by rw [hd]; exact k⟩
  rw [hg]
  exact ⟨b, oj, hji, hv, hj, hjd, fun e c _ _ => by subst e; rw [gv_same]; exact h rfl (Hs c), fun e => gv_not e p⟩
theorem Y_ggv {j : Nat} {want b : Bool} {oj : Oper} (h : b = want → ∀ G, OpV P o (opEnv o E) G p) (hg : o.guard = some (j, want)) (hji : j < i) (hv : acc[i - 1 - j]? = some (.v (.bool b))) (hj : l[j]? = some oj) (hjd : oj.dst.isSome = true) (hd : o.dst = some d) (hn : d < n)
    (k : DY P n l Hs (i + 1) os (gv b want p :: acc) ((d, gv b want p) :: E) K) : DY P n l Hs i (o :: os) acc E K :=
  Y_ggk (fun e G => (h e G).K) hg hji hv hj hjd hd hn k
theorem Y_ggq {H : Heap} {j : Nat} {want b : Bool} {oj : Oper} (h : b = want → OpV P o (opEnv o E) H p) (hg : o.guard = some (j, want)) (hji : j < i) (hv : acc[i - 1 - j]? = some (.v (.bool b))) (hj : l[j]? = some oj) (hjd : oj.dst.isSome = true) (hd : o.dst = some d) (hn : d < n)
    (k : DY P n l (fun _ => H) (i + 1) os (gv b want p :: acc) ((d, gv b want p) :: E) K) : DY P n l (fun _ => H) i (o :: os) acc E K := by
  refine ⟨gv b want p, ⟨fun d' hd' => by rw [hd] at hd'; cases hd'; exact hn, ?_⟩, by rw [hd]; exact k⟩
  rw [hg]
  exact ⟨b, oj, hji, hv, hj, hjd, fun e c _ _ => by subst e; rw [gv_same]; exact (h rfl).K, fun e => gv_not e p⟩
theorem Y_vb {b : Bool} (hg : o.guard = none) (hl : loudOp o = false) (hd : o.dst = some d) (hn : d < n) (h : ∀ G, OpV P o (opEnv o E) G (.v (.bool b))) (k : ∀ b', b' = b → DY P n l Hs (i + 1) os (.v (.bool b') :: acc) ((d, .v (.bool b')) :: E) K) : DY P n l Hs i (o :: os) acc E K :=
  Y_v hg hl hd hn h (k b rfl)
end
end Go.Th

/- A guard that stands under a guard itself. -/
namespace Go.Th
open Go.RowKit
set_option linter.unusedVariables false
section
variable {P : Program} {n : Nat} {Q : QA} {E : Env} {H : Heap} {ops : Array Oper} {rest : List Oper}
theorem wpL_gu {o og : Oper} {j dj d : Nat} {want : Bool} (hg : o.guard = some (j, want)) (hj : ops[j]? = some og) (hdj : og.dst = some dj) (hb : E.get dj = some (.v undef)) (hd : o.dst = some d) (hn : d < n)
    (h2 : wpL P n ops rest Q ((d, .v undef) :: E) H) : wpL P n ops (o :: rest) Q E H := by
  intro m0 w0 a w hat
  obtain ⟨a1, a2, m, a3, a4, a5⟩ := hat
  have hr := a5 dj _ hb
  have he : a.tmps.getD dj undef = undef := rep_v hr
  have hy : yielded ops a.tmps j = none := by
    simp only [yielded, hj, hdj, Option.bind_some]
    rw [Array.getD_eq_getD_getElem?] at he
    cases h : a.tmps[dj]? with
    | none => rfl
    | some v =>
      rw [h] at he
      simp at he
      subst he
      rfl
  have hw : Region.wanted o (yielded ops a.tmps) = false := by simp [Region.wanted, hg, hy]
  unfold wpList
  rw [hw, if_neg (by simp), hd]
  exact h2 m0 w0 _ w ⟨by simp [Act.put, a1], a2, m, a3, a4, a5.put (by omega) (.v _ rfl)⟩
end
end Go.Th
