/- A statement whose order is open: one chain in the order of the text serves every order. -/
import Derived.Test.YtpkeceifnmmhcaaThSix
import Derived.Orders
namespace Go.Th
open Go.RowKit

def opSlots (o : Oper) : List Nat := o.op.operands.toList.filterMap fun | .tmp t => some t | _ => none
def opEnv (o : Oper) (E : Env) : Env := E.only (opSlots o)

/-- One operation, in the form that the walk takes it: its slot gets a value that stands for p, the heap becomes H'. -/
def OpK (P : Program) (o : Oper) (E : Env) (H : Heap) (p : PV) (H' : Heap) : Prop :=
  ∀ m w (a : Act) (K : Act → World → Prop) (Q : Exit → Act → World → Prop), R m H w → (∀ x q, E.ev x = some q → Rep m w q (a.eval x)) →
    (∀ v m' w', Le m w m' w' → R m' H' w' → Rep m' w' p v → K (a.put o.dst v) w') → o.wp P a w K Q

section
variable {P : Program} {o : Oper} {E : Env} {H H' : Heap} {p : PV}

theorem OpV.K (h : OpV P o E H p) : OpK P o E H p H := fun m w a K Q hR hρ k => by
  obtain ⟨v, hrun, hr⟩ := h m w a.eval hR hρ
  unfold Oper.wp
  rw [hrun, Oper.upon_value]
  exact k v m w (Le.refl m w) hR hr

theorem OpW.K (h : OpW P o E H p H') : OpK P o E H p H' := fun m w a K Q hR hρ k => by
  obtain ⟨v, m', w', hrun, hle, hR', hr⟩ := h m w a.eval hR hρ
  unfold Oper.wp
  rw [hrun, Oper.upon_value]
  exact k v m' w' hle hR' hr

theorem OpS.K (h : OpS P o E H H') : OpK P o E H (.v undef) H' := fun m w a K Q hR hρ k => by
  obtain ⟨m', w', hrun, hle, hR'⟩ := h m w a.eval hR hρ
  unfold Oper.wp
  rw [hrun, Oper.upon_skip]
  exact k undef m' w' hle hR' (.v _ rfl)

/-- A call of a function whose result is known. -/
theorem Iso.K {c : Call} {x : Operand} {g : FuncId} {cap args : List PV} (ho : o.op = .call c) (hc : c.callee = .value x) (hx : E.ev x = some (.fn (.func g) cap))
    (ha : evs E c.args.toList = some args) (h : Iso P g (args ++ cap) (fun q => q = p)) (ht : ∀ c ∈ args ++ cap, Tree c) : OpK P o E H p H := fun m w a K Q hR hρ k => by
  obtain ⟨vs, hvs, hrun⟩ := call_run (P := P) (m := m) (w := w) (ρ := a.eval) ho hc (hρ x _ hx) h.1
  unfold Oper.wp
  rw [hrun, Oper.upon_enter]
  have hargs : RepL m w args (c.args.map a.eval) := by
    obtain ⟨e1, e2⟩ := evs_rep (m := m) (w := w) (ρ := a.eval) hρ c.args.toList args ha
    refine ⟨by simp [e1], fun j q hj => ?_⟩
    have := e2 j q hj
    simpa [Array.getD_eq_getD_getElem?, List.getD_eq_getElem?_getD] using this
  refine ((h.AC (H := H) ht).2 m w _ hR (hargs.append hvs)).mono ?_
  rintro e w' ⟨v, q, H', m', rfl, ⟨rfl, rfl⟩, hr, hR', hle⟩
  exact k v m' w' hle hR' hr

theorem AC.K {c : Call} {x : Operand} {g : FuncId} {cap args : List PV} (ho : o.op = .call c) (hc : c.callee = .value x) (hx : E.ev x = some (.fn (.func g) cap))
    (ha : evs E c.args.toList = some args) (h : AC P g (args ++ cap) H (fun q G => q = p ∧ G = H')) : OpK P o E H p H' := fun m w a K Q hR hρ k => by
  obtain ⟨vs, hvs, hrun⟩ := call_run (P := P) (m := m) (w := w) (ρ := a.eval) ho hc (hρ x _ hx) h.1
  unfold Oper.wp
  rw [hrun, Oper.upon_enter]
  have hargs : RepL m w args (c.args.map a.eval) := by
    obtain ⟨e1, e2⟩ := evs_rep (m := m) (w := w) (ρ := a.eval) hρ c.args.toList args ha
    refine ⟨by simp [e1], fun j q hj => ?_⟩
    have := e2 j q hj
    simpa [Array.getD_eq_getD_getElem?, List.getD_eq_getElem?_getD] using this
  refine (h.2 m w _ hR (hargs.append hvs)).mono ?_
  rintro e w' ⟨v, q, G, m', rfl, ⟨rfl, rfl⟩, hr, hR', hle⟩
  exact k v m' w' hle hR' hr
end

/-! ### The order of a region's operations -/

def edgeOn (o : Oper) (j : Nat) : Bool := o.after.toList.any fun e => Region.binds .any e && Nat.beq e.on j

/-- Of each operation: the operations that come before it in every order, as a number's bits. -/
def maskOf (acc : List Nat) (o : Oper) : Nat := o.after.toList.foldl (fun s e => if Region.binds .any e then s ||| 2 ^ e.on ||| acc.getD e.on 0 else s) 0
def bef : List Oper → List Nat → List Nat
  | [], acc => acc
  | o :: r, acc => bef r (acc ++ [maskOf acc o])

def downB (l : List Oper) : Bool := l.zipIdx.all fun (o, i) => o.after.toList.all fun e => !Region.binds .any e || Nat.blt e.on i

/-- What has been carried out is closed: whatever comes before it has been, too. -/
def Closed (ops : Array Oper) (listed : Array Bool) : Prop := ∀ (i : Nat) (o : Oper), ops[i]? = some o → listed.getD i false = true → ∀ e ∈ o.after, Region.binds .any e = true → listed.getD e.on false = true

theorem maskOf_spec {acc : List Nat} {o : Oper} {j : Nat} (h : (maskOf acc o).testBit j = true) : ∃ e ∈ o.after, Region.binds .any e = true ∧ (e.on = j ∨ (acc.getD e.on 0).testBit j = true) := by
  have key : ∀ (l : List Edge) (s : Nat), (l.foldl (fun s e => if Region.binds .any e then s ||| 2 ^ e.on ||| acc.getD e.on 0 else s) s).testBit j = true →
      s.testBit j = true ∨ ∃ e ∈ l, Region.binds .any e = true ∧ (e.on = j ∨ (acc.getD e.on 0).testBit j = true) := by
    intro l
    induction l with
    | nil => intro s h; exact .inl h
    | cons e l ih =>
      intro s h
      simp only [List.foldl_cons] at h
      rcases ih _ h with h1 | ⟨e', he', h1⟩
      · by_cases hb : Region.binds .any e = true
        · rw [if_pos hb, Nat.testBit_or, Nat.testBit_or, Nat.testBit_two_pow] at h1
          simp only [Bool.or_eq_true, decide_eq_true_eq] at h1
          rcases h1 with (h1 | h1) | h1
          · exact .inl h1
          · exact .inr ⟨e, by simp, hb, .inl h1⟩
          · exact .inr ⟨e, by simp, hb, .inr h1⟩
        · rw [if_neg hb] at h1; exact .inl h1
      · exact .inr ⟨e', by simp [he'], h1⟩
  rcases key _ _ h with h1 | ⟨e, he, h1⟩
  · simp at h1
  · exact ⟨e, by simpa using he, h1⟩

theorem bef_get : ∀ (l : List Oper) (acc : List Nat) (i : Nat), i < acc.length → (bef l acc)[i]? = acc[i]?
  | [], acc, i, _ => rfl
  | o :: r, acc, i, h => by
    simp only [bef]
    rw [bef_get r _ i (by simp; omega), List.getElem?_append_left h]

theorem bef_spec {ops : Array Oper} {listed : Array Bool} (hc : Closed ops listed) : ∀ (l : List Oper) (acc : List Nat), (∀ (k : Nat), l[k]? = ops[acc.length + k]?) →
    (∀ i j, i < acc.length → (acc.getD i 0).testBit j = true → listed.getD i false = true → listed.getD j false = true) →
    ∀ i j, ((bef l acc).getD i 0).testBit j = true → listed.getD i false = true → listed.getD j false = true
  | [], acc, _, h, i, j => fun hb hl => by
    rcases Nat.lt_or_ge i acc.length with hlt | hge
    · exact h i j hlt hb hl
    · simp only [bef, List.getD_eq_getElem?_getD, List.getElem?_eq_none hge] at hb; simp at hb
  | o :: r, acc, hl, h, i, j => by
    refine bef_spec hc r (acc ++ [maskOf acc o]) (fun k => ?_) (fun i j hi hb hli => ?_) i j
    · have := hl (k + 1)
      simpa [Nat.add_assoc, Nat.add_comm 1 k] using this
    · have ho : ops[acc.length]? = some o := by have := hl 0; simpa using this.symm
      rcases Nat.lt_or_ge i acc.length with hlt | hge
      · rw [List.getD_eq_getElem?_getD, List.getElem?_append_left hlt, ← List.getD_eq_getElem?_getD] at hb
        exact h i j hlt hb hli
      · have e : i = acc.length := by simp at hi; omega
        subst e
        rw [List.getD_eq_getElem?_getD, List.getElem?_append_right (Nat.le_refl _)] at hb
        simp at hb
        obtain ⟨e, he, hbind, h1⟩ := maskOf_spec hb
        have hle := hc _ o ho hli e he hbind
        rcases h1 with h1 | h1
        · exact h1 ▸ hle
        · rcases Nat.lt_or_ge e.on acc.length with hlt | hge
          · exact h e.on j hlt h1 hle
          · rw [List.getD_eq_getElem?_getD, List.getElem?_eq_none hge] at h1; simp at h1

/-- j comes before i in every order. -/
def befB (bs : List Nat) (j i : Nat) : Bool := (bs.getD i 0).testBit j

def loudOp (o : Oper) : Bool :=
  match o.op with
  | .store .. | .alloc _ | .box .. | .buildSlice .. => true
  | .call { callee := .builtin .append, .. } => true
  | .call { callee := .value _, .. } => Nat.beq o.type 0
  | _ => false

def slotOf (o : Oper) : List Nat := o.dst.toList

/-- The order's own conditions. -/
def drawB (l : List Oper) : Bool :=
  let bs := bef l []
  downB l &&
  (l.zipIdx.all fun (oi, i) => l.zipIdx.all fun (oj, j) => Nat.beq i j ||
    ((oi.dst.all fun d => !(opSlots oj).contains d || (if i < j then befB bs i j else befB bs j i)) &&
     (oi.dst.all fun d => oj.dst.all fun d' => !Nat.beq d d') &&
     (!(loudOp oi && loudOp oj) || (if i < j then befB bs i j else befB bs j i)))) &&
  (l.zipIdx.all fun (o, i) => match o.guard with
    | none => true
    | some (j, _) => befB bs j i && Nat.blt j i && !loudOp o)

/-- How many writing operations come before operation i in every order, and how many at the most. -/
def loCount (l : List Oper) (i : Nat) : Nat := (l.zipIdx.filter fun (o, j) => loudOp o && befB (bef l []) j i).length
def hiCount (l : List Oper) (i : Nat) : Nat := (l.zipIdx.filter fun (o, j) => loudOp o && !befB (bef l []) i j).length

def envOf : List Oper → List PV → Env → Env
  | o :: os, p :: ps, E => envOf os ps (match o.dst with | some d => (d, p) :: E | none => E)
  | _, _, E => E

theorem envOf_get : ∀ (l : List Oper) (vals : List PV) (E : Env) (t : Nat) (p : PV), (envOf l vals E).get t = some p →
    (∃ (j : Nat) (o : Oper), j < vals.length ∧ l[j]? = some o ∧ o.dst = some t ∧ vals[j]? = some p) ∨ (E.get t = some p ∧ ∀ (j : Nat) (o : Oper), j < vals.length → l[j]? = some o → o.dst ≠ some t)
  | [], vals, E, t, p, h => .inr ⟨by simpa [envOf] using h, fun j o _ hj => by simp at hj⟩
  | o :: os, [], E, t, p, h => .inr ⟨by simpa [envOf] using h, fun j o hj => by simp at hj⟩
  | o :: os, q :: ps, E, t, p, h => by
    simp only [envOf] at h
    rcases envOf_get os ps _ t p h with ⟨j, o', h1, h2, h3, h4⟩ | ⟨h1, h2⟩
    · exact .inl ⟨j + 1, o', by simp; omega, by simpa using h2, h3, by simpa using h4⟩
    · cases hd : o.dst with
      | none =>
        rw [hd] at h1
        refine .inr ⟨h1, fun j o' hj hl => ?_⟩
        cases j with
        | zero => simp at hl; subst hl; rw [hd]; simp
        | succ j => exact h2 j o' (by simp at hj; omega) (by simpa using hl)
      | some d =>
        rw [hd] at h1
        simp only at h1
        rw [Env.get_cons] at h1
        by_cases e : d = t
        · subst e
          rw [if_pos rfl] at h1; cases h1
          exact .inl ⟨0, o, by simp, rfl, hd, rfl⟩
        · rw [if_neg e] at h1
          refine .inr ⟨h1, fun j o' hj hl => ?_⟩
          cases j with
          | zero => simp at hl; subst hl; rw [hd]; simpa using e
          | succ j => exact h2 j o' (by simp at hj; omega) (by simpa using hl)

def nLoud (l : List Oper) (i : Nat) : Nat := ((l.take i).filter loudOp).length

/-- What is owed of operation i. -/
def DF (P : Program) (n : Nat) (l : List Oper) (vals : List PV) (Hs : Nat → Heap) (E0 : Env) (i : Nat) (o : Oper) (p : PV) : Prop :=
  (∀ d, o.dst = some d → d < n) ∧
  match o.guard with
  | none => match loudOp o with
    | true => OpK P o (opEnv o (envOf (l.take i) (vals.take i) E0)) (Hs (nLoud l i)) p (Hs (nLoud l i + 1))
    | false => ∀ k, loCount l i ≤ k → k ≤ hiCount l i → OpK P o (opEnv o (envOf (l.take i) (vals.take i) E0)) (Hs k) p (Hs k)
  | some (j, want) => ∃ b oj, vals[j]? = some (.v (.bool b)) ∧ l[j]? = some oj ∧ oj.dst.isSome = true ∧
      (b = want → ∀ k, loCount l i ≤ k → k ≤ hiCount l i → OpK P o (opEnv o (envOf (l.take i) (vals.take i) E0)) (Hs k) p (Hs k)) ∧ (b ≠ want → p = .v undef)

section
variable {P : Program} {n : Nat} {l : List Oper}

theorem countP_le {α : Type} (l : List α) (p q : α → Bool) (h : ∀ x ∈ l, p x = true → q x = true) : l.countP p ≤ l.countP q := List.countP_mono_left h

def loudAt (l : List Oper) (i : Nat) : Bool := (l[i]?).any loudOp
def cnt (l : List Oper) (listed : Array Bool) : Nat := (List.range l.length).countP fun i => loudAt l i && listed.getD i false

theorem filter_zip (l : List Oper) (f : Oper → Nat → Bool) : ∀ (k : Nat), ((l.zipIdx k).filter fun (o, j) => f o j).length = (List.range l.length).countP fun i => match l[i]? with | some o => f o (k + i) | none => false := by
  induction l with
  | nil => intro k; rfl
  | cons o l ih =>
    intro k
    rw [List.zipIdx_cons, List.length_cons, List.range_succ_eq_map, List.countP_cons, List.countP_map]
    have h2 := ih (k + 1)
    simp only [List.filter_cons]
    have e : ((List.range l.length).countP fun i => match l[i]? with | some o => f o (k + 1 + i) | none => false) =
        (List.range l.length).countP ((fun i => match (o :: l)[i]? with | some o => f o (k + i) | none => false) ∘ Nat.succ) := by
      apply List.countP_congr
      intro i _
      simp [Function.comp, Nat.add_assoc, Nat.add_comm 1 i]
    rw [← e, ← h2]
    simp only [List.getElem?_cons_zero, Nat.add_zero]
    split <;> simp_all

theorem loCount_eq (i : Nat) : loCount l i = (List.range l.length).countP fun j => loudAt l j && befB (bef l []) j i := by
  unfold loCount
  rw [filter_zip l (fun o j => loudOp o && befB (bef l []) j i) 0]
  apply List.countP_congr
  intro j _
  cases h : l[j]? <;> simp [loudAt, h]

theorem hiCount_eq (i : Nat) : hiCount l i = (List.range l.length).countP fun j => loudAt l j && !befB (bef l []) i j := by
  unfold hiCount
  rw [filter_zip l (fun o j => loudOp o && !befB (bef l []) i j) 0]
  apply List.countP_congr
  intro j _
  cases h : l[j]? <;> simp [loudAt, h]

theorem nLoud_eq (i : Nat) : nLoud l i = (List.range l.length).countP fun j => loudAt l j && decide (j < i) := by
  have h : ∀ (l : List Oper) (i : Nat), ((l.take i).filter loudOp).length = (List.range l.length).countP fun j => loudAt l j && decide (j < i) := by
    intro l
    induction l with
    | nil => intro i; simp
    | cons o l ih =>
      intro i
      rw [List.length_cons, List.range_succ_eq_map, List.countP_cons, List.countP_map]
      cases i with
      | zero => simp [List.countP_eq_zero.2]
      | succ i =>
        rw [List.take_succ_cons, List.filter_cons]
        have e : (List.range l.length).countP ((fun j => loudAt (o :: l) j && decide (j < i + 1)) ∘ Nat.succ) = (List.range l.length).countP fun j => loudAt l j && decide (j < i) := by
          apply List.countP_congr
          intro j _
          simp [Function.comp, loudAt]
        rw [e, ← ih i]
        have e0 : loudAt (o :: l) 0 = loudOp o := by simp [loudAt]
        rw [e0]
        cases loudOp o <;> simp
  exact h l i

theorem cnt_set {listed : Array Bool} {i : Nat} (hi : i < l.length) (hs : listed.size = l.length) (hf : listed.getD i false = false) :
    cnt l (listed.setIfInBounds i true) = cnt l listed + if loudAt l i then 1 else 0 := by
  unfold cnt
  have hget : ∀ j, (listed.setIfInBounds i true).getD j false = (listed.getD j false || decide (j = i)) := fun j => by
    by_cases e : i = j
    · subst e; simp [Array.getD_eq_getD_getElem?, hs, hi]
    · rw [getD_set_ne false e]; simp [Ne.symm e]
  have h : ∀ (r : List Nat), r.Nodup → i ∈ r → (r.countP fun j => loudAt l j && (listed.setIfInBounds i true).getD j false) = (r.countP fun j => loudAt l j && listed.getD j false) + if loudAt l i then 1 else 0 := by
    intro r
    induction r with
    | nil => intro _ h; cases h
    | cons x r ih =>
      intro hnd hmem
      rw [List.nodup_cons] at hnd
      rw [List.countP_cons, List.countP_cons]
      by_cases e : x = i
      · subst e
        have hrest : (r.countP fun j => loudAt l j && (listed.setIfInBounds x true).getD j false) = r.countP fun j => loudAt l j && listed.getD j false := by
          apply List.countP_congr
          intro j hj
          have : j ≠ x := fun e => hnd.1 (e ▸ hj)
          rw [hget]; simp [this]
        rw [hrest, hget, hf]
        cases loudAt l x <;> simp
      · have hm : i ∈ r := by
          rcases List.mem_cons.1 hmem with h | h
          · exact absurd h.symm e
          · exact h
        rw [ih hnd.2 hm, hget]
        simp [e]
        omega
  exact h _ List.nodup_range (List.mem_range.2 hi)
end

end Go.Th
