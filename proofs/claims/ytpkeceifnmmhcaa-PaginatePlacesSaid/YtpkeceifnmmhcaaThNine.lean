/- What a seat's type facts are made of; and what the walk of a body asks for besides. -/
import Derived.Test.YtpkeceifnmmhcaaThEight
import Derived.OwnWalk
namespace Go.Th
open Go.RowKit

theorem HasI.mk_of {P : Program} {t : TypeId} {size bytes : Nat} {zv : Value} {z : List Value} (h : (P.info? t).map (fun i => (i.zero, i.size, i.bytes)) = some (some zv, size, bytes)) (hz : zv.cells.toList = z) : HasI P t size bytes z := by
  obtain ⟨i, h1, h2, h3, h4⟩ := info_parts h
  exact ⟨i, zv, h1, h3, h4, h2, hz⟩

section
variable {P : Program} {n : Nat} {Q : QA} {E : Env} {H : Heap} {ops : Array Oper} {rest : List Oper}

theorem wpL_end {K : Env → Heap → Prop} (h : K E H) : wpL P n ops [] (thenA K Q) E H := wpL_nil h

theorem wpA_if {c : Operand} {x y : Code} {φ : Prop} [Decidable φ] (hc : E.ev c = some (.v (.bool (decide φ)))) (h1 : φ → wpA P n x Q E H) (h2 : ¬ φ → wpA P n y Q E H) : wpA P n (.cond c x y) Q E H :=
  wpA_cond hc (fun h => h1 (of_decide_eq_true h)) (fun h => h2 (of_decide_eq_false h))

theorem wpA_ifn {c : Operand} {x y : Code} {φ : Prop} [Decidable φ] (hc : E.ev c = some (.v (.bool (!decide φ)))) (h1 : ¬ φ → wpA P n x Q E H) (h2 : φ → wpA P n y Q E H) : wpA P n (.cond c x y) Q E H :=
  wpA_cond hc (fun h => h1 (by simpa using h)) (fun h => h2 (by simpa using h))

theorem wpA_true {c : Operand} {x y : Code} (hc : E.ev c = some (.v (.bool true))) (h1 : wpA P n x Q E H) : wpA P n (.cond c x y) Q E H :=
  wpA_cond hc (fun _ => h1) (fun h => by cases h)
theorem wpA_false {c : Operand} {x y : Code} (hc : E.ev c = some (.v (.bool false))) (h1 : wpA P n y Q E H) : wpA P n (.cond c x y) Q E H :=
  wpA_cond hc (fun h => by cases h) (fun _ => h1)

/-- A nil slice in a slot, seen as a slice of a block of ours that has no cells. -/
theorem wpA_ghost {c : Code} (t : Nat) (e : TypeId) (sz : Nat) (ht : E.get t = some (.v (.slice none 0 0))) (h : wpA P n c Q ((t, .sl H.length 0 0 sz) :: E) (H ++ [some ⟨[], e, true⟩])) : wpA P n c Q E H := by
  rintro m0 w0 a w ⟨h1, h2, m, h3, h4, h5⟩
  refine h m0 w0 a w ⟨h1, h2, m, h3, h4.ghost _, fun t' p ht' => ?_⟩
  rw [Env.get_cons] at ht'
  by_cases e' : t = t'
  · subst e'
    rw [if_pos rfl] at ht'; cases ht'
    rw [rep_v (h5 t _ ht)]
    exact .sl0 none
  · rw [if_neg e'] at ht'
    exact h5 t' p ht'

/-- A region's chain: one operation at a time, by what it owes. -/
theorem wpL_k {o : Oper} {d : Nat} {p : PV} {H' : Heap} (hg : o.guard = none) (hd : o.dst = some d) (hn : d < n) (h : OpK P o E H p H') (k : wpL P n ops rest Q ((d, p) :: E) H') : wpL P n ops (o :: rest) Q E H := by
  rintro m0 w0 a w ⟨h1, h2, m, h3, h4, h5⟩
  refine wpList_plain hg fun K hK => ?_
  refine h m w a K _ h4 (fun x q hx => h5.ev hx) fun v m' w' hle hR hr => ?_
  rw [hd]
  exact hK _ _ (k m0 w0 (a.put (some d) v) w' ⟨by simp [Act.put, h1], h2, m', h3.trans hle, hR, (h5.mono h4.rk hle).put (by omega) hr⟩)
end

/-! ### The chain that a drawn region owes -/

/-- All that is owed, in the order of the text: E: what the slots say before operation i. -/
def DAll (P : Program) (n : Nat) (l : List Oper) (vals : List PV) (Hs : Nat → Heap) : Nat → List Oper → List PV → Env → Prop
  | i, o :: os, p :: ps, E =>
    ((∀ d, o.dst = some d → d < n) ∧
      match o.guard with
      | none => match loudOp o with
        | true => OpK P o (opEnv o E) (Hs (nLoud l i)) p (Hs (nLoud l i + 1))
        | false => ∀ k, loCount l i ≤ k → k ≤ hiCount l i → OpK P o (opEnv o E) (Hs k) p (Hs k)
      | some (j, want) => ∃ b oj, vals[j]? = some (.v (.bool b)) ∧ l[j]? = some oj ∧ oj.dst.isSome = true ∧
          (b = want → ∀ k, loCount l i ≤ k → k ≤ hiCount l i → OpK P o (opEnv o E) (Hs k) p (Hs k)) ∧ (b ≠ want → p = .v undef)) ∧
    DAll P n l vals Hs (i + 1) os ps (match o.dst with | some d => (d, p) :: E | none => E)
  | _, [], [], _ => True
  | _, _, _, _ => False

theorem envOf_snoc : ∀ (l : List Oper) (vals : List PV) (o : Oper) (p : PV) (E : Env), l.length = vals.length → envOf (l ++ [o]) (vals ++ [p]) E = (match o.dst with | some d => (d, p) :: envOf l vals E | none => envOf l vals E)
  | [], [], o, p, E, _ => by cases h : o.dst <;> simp [envOf, h]
  | [], _ :: _, _, _, _, h => by simp at h
  | _ :: _, [], _, _, _, h => by simp at h
  | x :: l, y :: vals, o, p, E, h => by
    simp only [List.cons_append, envOf]
    exact envOf_snoc l vals o p _ (by simpa using h)

theorem DAll.facts {P : Program} {n : Nat} {l : List Oper} {vals : List PV} {Hs : Nat → Heap} {E0 : Env} (hl : vals.length = l.length) : ∀ (i : Nat) (os : List Oper) (ps : List PV), l.drop i = os → vals.drop i = ps →
    DAll P n l vals Hs i os ps (envOf (l.take i) (vals.take i) E0) → ∀ (j : Nat) (o : Oper) (p : PV), i ≤ j → l[j]? = some o → vals[j]? = some p → DF P n l vals Hs E0 j o p
  | i, [], ps, h1, _, _, j, o, p, hij, hj, _ => by
    have h2 := congrArg List.length h1
    simp at h2
    have := (List.getElem?_eq_some_iff.1 hj).1
    omega
  | i, o' :: os, [], h1, h2, h, j, o, p, hij, hj, hp => by simp [DAll] at h
  | i, o' :: os, p' :: ps, h1, h2, h, j, o, p, hij, hj, hp => by
    obtain ⟨ha, hb⟩ := h
    have e1 : l[i]? = some o' := by have := congrArg (·[0]?) h1; simpa using this
    have e2 : vals[i]? = some p' := by have := congrArg (·[0]?) h2; simpa using this
    by_cases e : i = j
    · subst e
      rw [e1] at hj; cases hj
      rw [e2] at hp; cases hp
      exact ha
    · have hi : i < l.length := (List.getElem?_eq_some_iff.1 e1).1
      have t1 : l.take (i + 1) = l.take i ++ [o'] := by
        rw [List.take_add_one, e1]; rfl
      have t2 : vals.take (i + 1) = vals.take i ++ [p'] := by
        rw [List.take_add_one, e2]; rfl
      refine DAll.facts hl (i + 1) os ps ?_ ?_ ?_ j o p (by omega) hj hp
      · have := congrArg List.tail h1; simpa using this
      · have := congrArg List.tail h2; simpa using this
      · rw [t1, t2, envOf_snoc _ _ _ _ _ (by simp; omega)]
        exact hb

theorem wpA_chain {P : Program} {n : Nat} {l : List Oper} {Hs : Nat → Heap} {E0 : Env} {Q : QA} {id : Nat} (vals : List PV) (hm : P.follows .mixedOrders = true) (hB : drawB l = true) (hv : vals.length = l.length)
    (h : DAll P n l vals Hs 0 l vals E0) (k : Q .normal (envOf l vals E0) (Hs (nLoud l l.length))) : wpA P n (.region id l.toArray true) Q E0 (Hs 0) :=
  wpA_draw hm hB hv (fun i o p hi hp => DAll.facts hv 0 l vals rfl rfl (by simpa [envOf] using h) i o p (Nat.zero_le _) hi hp) k

/-- The same, the values found on the way: acc: those of the operations before. -/
def DX (P : Program) (n : Nat) (l : List Oper) (Hs : Nat → Heap) : Nat → List Oper → List PV → Env → (Env → Prop) → Prop
  | _, [], _, E, K => K E
  | i, o :: os, acc, E, K => ∃ p, ((∀ d, o.dst = some d → d < n) ∧
      match o.guard with
      | none => match loudOp o with
        | true => OpK P o (opEnv o E) (Hs (nLoud l i)) p (Hs (nLoud l i + 1))
        | false => ∀ k, loCount l i ≤ k → k ≤ hiCount l i → OpK P o (opEnv o E) (Hs k) p (Hs k)
      | some (j, want) => ∃ b oj, acc[j]? = some (.v (.bool b)) ∧ l[j]? = some oj ∧ oj.dst.isSome = true ∧
          (b = want → ∀ k, loCount l i ≤ k → k ≤ hiCount l i → OpK P o (opEnv o E) (Hs k) p (Hs k)) ∧ (b ≠ want → p = .v undef)) ∧
    DX P n l Hs (i + 1) os (acc ++ [p]) (match o.dst with | some d => (d, p) :: E | none => E) K

theorem DX.all {P : Program} {n : Nat} {l : List Oper} {Hs : Nat → Heap} {K : Env → Prop} : ∀ (os : List Oper) (i : Nat) (acc : List PV) (E : Env), DX P n l Hs i os acc E K →
    ∃ ps, ps.length = os.length ∧ DAll P n l (acc ++ ps) Hs i os ps E ∧ K (envOf os ps E)
  | [], i, acc, E, h => ⟨[], rfl, trivial, h⟩
  | o :: os, i, acc, E, ⟨p, ⟨h1, h2⟩, h3⟩ => by
    obtain ⟨ps, hl, hd, hk⟩ := DX.all os (i + 1) (acc ++ [p]) _ h3
    refine ⟨p :: ps, by simp [hl], ⟨⟨h1, ?_⟩, ?_⟩, hk⟩
    · cases hg : o.guard with
      | none => rw [hg] at h2; exact h2
      | some jw =>
        rw [hg] at h2
        obtain ⟨b, oj, e1, e2⟩ := h2
        refine ⟨b, oj, ?_, e2⟩
        rw [List.getElem?_append_left (List.getElem?_eq_some_iff.1 e1).1]
        exact e1
    · rw [List.append_assoc] at hd
      exact hd

theorem wpA_dx {P : Program} {n : Nat} {l : List Oper} {Hs : Nat → Heap} {E0 : Env} {Q : QA} {id : Nat} (hm : P.follows .mixedOrders = true) (hB : drawB l = true)
    (h : DX P n l Hs 0 l [] E0 (fun E => Q .normal E (Hs (nLoud l l.length)))) : wpA P n (.region id l.toArray true) Q E0 (Hs 0) := by
  obtain ⟨ps, hl, hd, hk⟩ := DX.all l 0 [] E0 h
  exact wpA_chain ps hm hB hl hd hk

/-- Where nothing is written. -/
theorem wpA_dq {P : Program} {n : Nat} {l : List Oper} {H : Heap} {E0 : Env} {Q : QA} {id : Nat} (hm : P.follows .mixedOrders = true) (hB : drawB l = true)
    (h : DX P n l (fun _ => H) 0 l [] E0 (fun E => Q .normal E H)) : wpA P n (.region id l.toArray true) Q E0 H :=
  wpA_dx (Hs := fun _ => H) hm hB h

section
variable {P : Program} {n : Nat} {l : List Oper} {acc : List PV} {Hs : Nat → Heap} {i : Nat} {o : Oper} {os : List Oper} {p : PV} {E : Env} {d : Nat} {K : Env → Prop}

theorem D_end {K : Env → Heap → Prop} {Q : QA} {H : Heap} (h : K E H) : DX P n l Hs i [] acc E (fun E => thenA K Q .normal E H) := h

/-- An operation that does not look at the heap. -/
theorem D_k (hg : o.guard = none) (hl : loudOp o = false) (hd : o.dst = some d) (hn : d < n) (h : ∀ G, OpK P o (opEnv o E) G p G) (k : DX P n l Hs (i + 1) os (acc ++ [p]) ((d, p) :: E) K) : DX P n l Hs i (o :: os) acc E K := by
  refine ⟨p, ⟨fun d' hd' => by rw [hd] at hd'; cases hd'; exact hn, ?_⟩, by rw [hd]; exact k⟩
  rw [hg, hl]
  exact fun c _ _ => h (Hs c)

theorem D_v (hg : o.guard = none) (hl : loudOp o = false) (hd : o.dst = some d) (hn : d < n) (h : ∀ G, OpV P o (opEnv o E) G p) (k : DX P n l Hs (i + 1) os (acc ++ [p]) ((d, p) :: E) K) : DX P n l Hs i (o :: os) acc E K :=
  D_k hg hl hd hn (fun G => (h G).K) k

/-- An operation that looks at the heap, behind c writing ones in every order. -/
theorem D_r {H : Heap} (c : Nat) (h1 : loCount l i = c) (h2 : hiCount l i = c) (hH : Hs c = H) (hg : o.guard = none) (hl : loudOp o = false) (hd : o.dst = some d) (hn : d < n) (h : OpV P o (opEnv o E) H p) (k : DX P n l Hs (i + 1) os (acc ++ [p]) ((d, p) :: E) K) : DX P n l Hs i (o :: os) acc E K := by
  refine ⟨p, ⟨fun d' hd' => by rw [hd] at hd'; cases hd'; exact hn, ?_⟩, by rw [hd]; exact k⟩
  rw [hg, hl]
  intro c' hc1 hc2
  have : c' = c := by omega
  subst this
  rw [hH]
  exact h.K

/-- Where nothing is written in the whole region. -/
theorem D_q {H : Heap} (hg : o.guard = none) (hl : loudOp o = false) (hd : o.dst = some d) (hn : d < n) (h : OpV P o (opEnv o E) H p) (k : DX P n l (fun _ => H) (i + 1) os (acc ++ [p]) ((d, p) :: E) K) : DX P n l (fun _ => H) i (o :: os) acc E K := by
  refine ⟨p, ⟨fun d' hd' => by rw [hd] at hd'; cases hd'; exact hn, ?_⟩, by rw [hd]; exact k⟩
  rw [hg, hl]
  exact fun _ _ _ => h.K

/-- A writing operation with a result. -/
theorem D_w {H H' : Heap} (c : Nat) (hc : nLoud l i = c) (h1 : Hs c = H) (hg : o.guard = none) (hl : loudOp o = true) (hd : o.dst = some d) (hn : d < n) (h : OpW P o (opEnv o E) H p H') (h2 : Hs (c + 1) = H') (k : DX P n l Hs (i + 1) os (acc ++ [p]) ((d, p) :: E) K) : DX P n l Hs i (o :: os) acc E K := by
  refine ⟨p, ⟨fun d' hd' => by rw [hd] at hd'; cases hd'; exact hn, ?_⟩, by rw [hd]; exact k⟩
  rw [hg, hl, hc, h1, h2]
  exact h.K

/-- A store. -/
theorem D_s {H H' : Heap} (c : Nat) (hc : nLoud l i = c) (h1 : Hs c = H) (hg : o.guard = none) (hl : loudOp o = true) (hd : o.dst = none) (h : OpS P o (opEnv o E) H H') (h2 : Hs (c + 1) = H') (k : DX P n l Hs (i + 1) os (acc ++ [.v undef]) E K) : DX P n l Hs i (o :: os) acc E K := by
  refine ⟨.v undef, ⟨(fun d' hd' => by rw [hd] at hd'; cases hd'), ?_⟩, by rw [hd]; exact k⟩
  rw [hg, hl, hc, h1, h2]
  exact h.K

/-- Under a guard that says yes. -/
theorem D_gk {j : Nat} {want : Bool} {oj : Oper} (hg : o.guard = some (j, want)) (hv : acc[j]? = some (.v (.bool want))) (hj : l[j]? = some oj) (hjd : oj.dst.isSome = true) (hd : o.dst = some d) (hn : d < n) (h : ∀ G, OpK P o (opEnv o E) G p G)
    (k : DX P n l Hs (i + 1) os (acc ++ [p]) ((d, p) :: E) K) : DX P n l Hs i (o :: os) acc E K := by
  refine ⟨p, ⟨fun d' hd' => by rw [hd] at hd'; cases hd'; exact hn, ?_⟩, by rw [hd]; exact k⟩
  rw [hg]
  exact ⟨want, oj, hv, hj, hjd, fun _ c _ _ => h (Hs c), fun e => absurd rfl e⟩

theorem D_gv {j : Nat} {want : Bool} {oj : Oper} (hg : o.guard = some (j, want)) (hv : acc[j]? = some (.v (.bool want))) (hj : l[j]? = some oj) (hjd : oj.dst.isSome = true) (hd : o.dst = some d) (hn : d < n) (h : ∀ G, OpV P o (opEnv o E) G p)
    (k : DX P n l Hs (i + 1) os (acc ++ [p]) ((d, p) :: E) K) : DX P n l Hs i (o :: os) acc E K :=
  D_gk hg hv hj hjd hd hn (fun G => (h G).K) k

theorem D_gq {H : Heap} {j : Nat} {want : Bool} {oj : Oper} (hg : o.guard = some (j, want)) (hv : acc[j]? = some (.v (.bool want))) (hj : l[j]? = some oj) (hjd : oj.dst.isSome = true) (hd : o.dst = some d) (hn : d < n) (h : OpV P o (opEnv o E) H p)
    (k : DX P n l (fun _ => H) (i + 1) os (acc ++ [p]) ((d, p) :: E) K) : DX P n l (fun _ => H) i (o :: os) acc E K := by
  refine ⟨p, ⟨fun d' hd' => by rw [hd] at hd'; cases hd'; exact hn, ?_⟩, by rw [hd]; exact k⟩
  rw [hg]
  exact ⟨want, oj, hv, hj, hjd, fun _ _ _ _ => h.K, fun e => absurd rfl e⟩

/-- Under a guard that says no. -/
theorem D_gn {j : Nat} {want b : Bool} {oj : Oper} (hg : o.guard = some (j, want)) (hv : acc[j]? = some (.v (.bool b))) (hb : b = !want) (hj : l[j]? = some oj) (hjd : oj.dst.isSome = true) (hd : o.dst = some d) (hn : d < n)
    (k : DX P n l Hs (i + 1) os (acc ++ [.v undef]) ((d, .v undef) :: E) K) : DX P n l Hs i (o :: os) acc E K := by
  refine ⟨.v undef, ⟨fun d' hd' => by rw [hd] at hd'; cases hd'; exact hn, ?_⟩, by rw [hd]; exact k⟩
  rw [hg]
  exact ⟨b, oj, hv, hj, hjd, (fun e => by subst hb; cases want <;> cases e), fun _ => rfl⟩

end

/-! ### What a body ends with -/

section
variable {P : Program} {fn : Func} {Q : PV → Prop} {QH : PV → Heap → Prop} {E : Env} {H : Heap}

theorem postI_0 {e : Exit} (hr : fn.results = #[]) (he : e = .normal ∨ e = .ret) (hq : Q (.tup [])) : postI P fn Q e E H :=
  ⟨he, [], .tup [], by rw [hr]; trivial, .refl _, Tree.tup trees_nil, hq⟩
theorem postI_1 {t : Tmp} {p q : PV} (hr : fn.results = #[.tmp t]) (h1 : E.get t = some p) (hc : Conv H p q) (ht : Tree q) (hq : Q q) : postI P fn Q .ret E H :=
  ⟨.inr rfl, [p], q, by rw [hr]; exact ⟨h1, trivial⟩, hc, ht, hq⟩
theorem postI_2 {t u : Tmp} {p q p' q' : PV} (hr : fn.results = #[.tmp t, .tmp u]) (h1 : E.get t = some p) (h2 : E.get u = some q) (hc : Conv H p p') (hc2 : Conv H q q') (ht : Tree p') (ht2 : Tree q') (hq : Q (.tup [p', q'])) : postI P fn Q .ret E H :=
  ⟨.inr rfl, [p, q], .tup [p', q'], by rw [hr]; exact ⟨h1, h2, trivial⟩, .tup rfl (fun j c d hj hd => by
    match j with
    | 0 => simp at hj hd; subst hj; subst hd; exact hc
    | 1 => simp at hj hd; subst hj; subst hd; exact hc2
    | j + 2 => simp at hj), Tree.tup (trees_cons ht (trees_cons ht2 trees_nil)), hq⟩
theorem postI_3 {t u v : Tmp} {p q r p' q' r' : PV} (hr : fn.results = #[.tmp t, .tmp u, .tmp v]) (h1 : E.get t = some p) (h2 : E.get u = some q) (h3 : E.get v = some r) (hc : Conv H p p') (hc2 : Conv H q q') (hc3 : Conv H r r') (ht : Tree p') (ht2 : Tree q') (ht3 : Tree r') (hq : Q (.tup [p', q', r'])) : postI P fn Q .ret E H :=
  ⟨.inr rfl, [p, q, r], .tup [p', q', r'], by rw [hr]; exact ⟨h1, h2, h3, trivial⟩, .tup rfl (fun j c d hj hd => by
    match j with
    | 0 => simp at hj hd; subst hj; subst hd; exact hc
    | 1 => simp at hj hd; subst hj; subst hd; exact hc2
    | 2 => simp at hj hd; subst hj; subst hd; exact hc3
    | j + 3 => simp at hj), Tree.tup (trees_cons ht (trees_cons ht2 (trees_cons ht3 trees_nil))), hq⟩
theorem postI_c {a : Tmp} {ty : TypeId} {d : TypeDesc} {size bytes : Nat} {z : List Value} {p q r : PV} [hu : HasU P ty d] [hi : HasI P ty size bytes z] (hr : fn.results = #[.cell a ty]) (h1 : E.get a = some r) (hl : loadA d size H r = some p) (hc : Conv H p q) (ht : Tree q) (hq : Q q) : postI P fn Q .ret E H :=
  ⟨.inr rfl, [p], q, by rw [hr]; exact ⟨RVal_cell h1 hl, trivial⟩, hc, ht, hq⟩
theorem postI_c1 {a u : Tmp} {ty : TypeId} {d : TypeDesc} {size bytes : Nat} {z : List Value} {p q p' q' r : PV} [hu : HasU P ty d] [hi : HasI P ty size bytes z] (hr : fn.results = #[.cell a ty, .tmp u]) (h1 : E.get a = some r) (hl : loadA d size H r = some p) (h2 : E.get u = some q)
    (hc : Conv H p p') (hc2 : Conv H q q') (ht : Tree p') (ht2 : Tree q') (hq : Q (.tup [p', q'])) : postI P fn Q .ret E H :=
  ⟨.inr rfl, [p, q], .tup [p', q'], by rw [hr]; exact ⟨RVal_cell h1 hl, h2, trivial⟩, .tup rfl (fun j c d hj hd => by
    match j with
    | 0 => simp at hj hd; subst hj; subst hd; exact hc
    | 1 => simp at hj hd; subst hj; subst hd; exact hc2
    | j + 2 => simp at hj), Tree.tup (trees_cons ht (trees_cons ht2 trees_nil)), hq⟩

theorem postA_0 {e : Exit} (hr : fn.results = #[]) (he : e = .normal ∨ e = .ret) (hq : QH (.tup []) H) : postA P fn QH e E H :=
  ⟨he, [], by rw [hr]; trivial, hq⟩
theorem postA_1 {t : Tmp} {p : PV} (hr : fn.results = #[.tmp t]) (h1 : E.get t = some p) (hq : QH p H) : postA P fn QH .ret E H :=
  ⟨.inr rfl, [p], by rw [hr]; exact ⟨h1, trivial⟩, hq⟩
theorem postA_2 {t u : Tmp} {p q : PV} (hr : fn.results = #[.tmp t, .tmp u]) (h1 : E.get t = some p) (h2 : E.get u = some q) (hq : QH (.tup [p, q]) H) : postA P fn QH .ret E H :=
  ⟨.inr rfl, [p, q], by rw [hr]; exact ⟨h1, h2, trivial⟩, hq⟩
end

/-! ### Elements of slices of cells -/

section
variable {P : Program} {E : Env} {H : Heap} {o : Oper} {t e : TypeId} {sz bytes : Nat} {z : List Value}

/-- The address of an element among cells that never change: an address into that element's own cells. -/
theorem OpV_index_tr [hu : HasU P t (.slice e)] [hi : HasI P e sz bytes z] {x y : Operand} {k : IntKind} {i : Int} {cells ec : List PV} {len : Nat} (ho : o.op = .indexAddr t x y) (hx : E.ev x = some (.tr cells len sz)) (hy : E.ev y = some (.v (.int k i)))
    (h : 0 ≤ i ∧ i < len) (hc : takeN sz (cells.drop (i.toNat * sz)) = some ec) : OpV P o E H (.ept ec 0) := fun m w ρ hR hρ => by
  obtain ⟨v, hrun, hr⟩ := OpV_indexAddr (P := P) (H := H) ho hx hy rfl rfl h m w ρ hR hρ
  refine ⟨v, hrun, ?_⟩
  obtain ⟨h1, rfl⟩ := (takeN_eq _ _ _).1 hc
  cases hr with
  | @ept _ _ b o' f a1 a2 a3 =>
    refine .ept (b := b) (o := o' + i.toNat * sz) (off := 0) (fun j => f (i.toNat * sz + j)) a1 (fun j c hj => ?_) (fun j c hj => ?_)
    · rw [List.getElem?_take] at hj
      split at hj
      · rw [List.getElem?_drop] at hj
        rw [Nat.add_assoc]; exact a2 _ c hj
      · cases hj
    · rw [List.getElem?_take] at hj
      split at hj
      · rw [List.getElem?_drop] at hj
        exact a3 _ c hj
      · cases hj

theorem flat_at {α : Type} {enc : α → List PV} {sz : Nat} (henc : ∀ x, (enc x).length = sz) : ∀ (l : List α) (i : Nat) (x : α), l[i]? = some x → takeN sz ((l.flatMap enc).drop (i * sz)) = some (enc x)
  | [], i, x, h => by simp at h
  | a :: l, 0, x, h => by
    simp at h; subst h
    rw [takeN_eq]
    simp [List.flatMap_cons, henc]
  | a :: l, i + 1, x, h => by
    rw [List.flatMap_cons, show (i + 1) * sz = (enc a).length + i * sz from by rw [henc, Nat.add_mul]; omega, List.drop_append]
    rw [List.drop_eq_nil_of_le (by omega), List.nil_append, Nat.add_sub_cancel_left]
    exact flat_at henc l i x (by simpa using h)

theorem flat_length {α : Type} {enc : α → List PV} {sz : Nat} (henc : ∀ x, (enc x).length = sz) : ∀ (l : List α), (l.flatMap enc).length = l.length * sz
  | [] => by simp
  | a :: l => by rw [List.flatMap_cons, List.length_append, henc, flat_length henc l, List.length_cons, Nat.add_mul]; omega
end

end Go.Th
