/- Assertions on a frame, and the rules of Go's control flow over them. -/
import Derived.Test.YtpkeceifnmmhcaaThOne
namespace Go.Th
open Go.RowKit

abbrev Env := List (Nat × PV)
def Env.get : Env → Nat → Option PV
  | [], _ => none
  | (k, p) :: r, t => match Nat.beq k t with
    | true => some p
    | false => Env.get r t

def Env.ev (E : Env) : Operand → Option PV
  | .tmp t => E.get t
  | .const x => match noAgg x with | true => some (.v x) | false => none
  | .global g => some (.v (.pointer (some ⟨g, 0, none⟩)))
  | .func f => some (.fn (.func f) [])

def FR (m : Mp) (w : World) (E : Env) (a : Act) : Prop := ∀ t p, E.get t = some p → Rep m w p (a.tmps.getD t undef)

theorem FR.mono {m m' : Mp} {w w' : World} {E : Env} {a : Act} (hk : ∀ b, m.ro b → m.keep b) (hl : Le m w m' w') (h : FR m w E a) : FR m' w' E a :=
  fun t p ht => (h t p ht).mono hk hl

theorem Env.get_cons (k t : Nat) (p : PV) (E : Env) : Env.get ((k, p) :: E) t = if k = t then some p else E.get t := by
  simp only [Env.get]
  cases h : Nat.beq k t with
  | true => simp [Nat.eq_of_beq_eq_true h]
  | false =>
    have : k ≠ t := fun e => by rw [e] at h; simp at h
    simp [this]

theorem FR.put {m : Mp} {w : World} {E : Env} {a : Act} (h : FR m w E a) {d : Nat} (hd : d < a.tmps.size) {p : PV} {v : Value} (hr : Rep m w p v) : FR m w ((d, p) :: E) (a.put (some d) v) := by
  intro t q ht
  rw [Env.get_cons] at ht
  by_cases e : d = t
  · subst e
    rw [if_pos rfl] at ht
    cases ht
    simpa [Act.put, Array.getD_eq_getD_getElem?, hd] using hr
  · rw [if_neg e] at ht
    have := h t q ht
    simpa [Act.put, Array.getD_eq_getD_getElem?, Array.getElem?_setIfInBounds_ne e] using this

theorem FR.ev {m : Mp} {w : World} {E : Env} {a : Act} (h : FR m w E a) {x : Operand} {p : PV} (hx : E.ev x = some p) : Rep m w p (a.eval x) := by
  cases x with
  | tmp t => exact h t p hx
  | const v =>
    simp only [Env.ev] at hx
    split at hx
    · rename_i hn; cases hx; exact .v v hn
    · cases hx
  | global g => simp only [Env.ev] at hx; cases hx; exact .v _ rfl
  | func f => simp only [Env.ev] at hx; cases hx; exact .fn #[] rfl (fun j c hj => by simp at hj)

def At (m0 : Mp) (w0 : World) (n : Nat) (E : Env) (H : Heap) (a : Act) (w : World) : Prop :=
  a.tmps.size = n ∧ a.defers = [] ∧ ∃ m, Le m0 w0 m w ∧ R m H w ∧ FR m w E a

abbrev QA := Exit → Env → Heap → Prop
def Qr (m0 : Mp) (w0 : World) (n : Nat) (Q : QA) : Exit → Act → World → Prop := fun e a w => ∃ E H, Q e E H ∧ At m0 w0 n E H a w

def wpA (P : Program) (n : Nat) (c : Code) (Q : QA) (E : Env) (H : Heap) : Prop :=
  ∀ m0 w0 a w, At m0 w0 n E H a w → c.wp P (Qr m0 w0 n Q) a w

def wpL (P : Program) (n : Nat) (ops : Array Oper) (l : List Oper) (Q : QA) (E : Env) (H : Heap) : Prop :=
  ∀ m0 w0 a w, At m0 w0 n E H a w → wpList P ops (Qr m0 w0 n Q) l a w

def thenA (K : Env → Heap → Prop) (Q : QA) : QA
  | .normal, E, H => K E H
  | e, E, H => Q e E H

def inBlockA (id : Nat) (Q : QA) : QA
  | .exit id', E, H => if id' = id then Q .normal E H else Q (.exit id') E H
  | e, E, H => Q e E H

section
variable {P : Program} {n : Nat} {Q : QA} {E : Env} {H : Heap}

theorem wpA_seq {x y : Code} (h : wpA P n x (thenA (wpA P n y Q) Q) E H) : wpA P n (.seq x y) Q E H := fun m0 w0 a w hat =>
  wp_seq (wp_mono (h m0 w0 a w hat) (by
    rintro e a' w' ⟨E', H', hq, hat'⟩
    cases e with
    | normal => exact hq m0 w0 a' w' hat'
    | exit id => exact ⟨E', H', hq, hat'⟩
    | goto l => exact ⟨E', H', hq, hat'⟩
    | ret => exact ⟨E', H', hq, hat'⟩
    | panic c => exact ⟨E', H', hq, hat'⟩
    | outgrown => exact ⟨E', H', hq, hat'⟩))

/-- The same with a cut: what holds between the two. -/
theorem wpA_seq_cut {x y : Code} (M : Env → Heap → Prop) (h : wpA P n x (thenA M Q) E H) (k : ∀ E' H', M E' H' → wpA P n y Q E' H') : wpA P n (.seq x y) Q E H := fun m0 w0 a w hat =>
  wp_seq (wp_mono (h m0 w0 a w hat) (by
    rintro e a' w' ⟨E', H', hq, hat'⟩
    cases e with
    | normal => exact k E' H' hq m0 w0 a' w' hat'
    | exit id => exact ⟨E', H', hq, hat'⟩
    | goto l => exact ⟨E', H', hq, hat'⟩
    | ret => exact ⟨E', H', hq, hat'⟩
    | panic c => exact ⟨E', H', hq, hat'⟩
    | outgrown => exact ⟨E', H', hq, hat'⟩))

theorem wpA_skip (h : Q .normal E H) : wpA P n .skip Q E H := fun _ _ _ _ hat => wp_skip ⟨E, H, h, hat⟩
theorem wpA_exit {id : Nat} (h : Q (.exit id) E H) : wpA P n (.exit id) Q E H := fun _ _ _ _ hat => wp_exit ⟨E, H, h, hat⟩
theorem wpA_ret (h : Q .ret E H) : wpA P n .ret Q E H := fun _ _ _ _ hat => wp_ret ⟨E, H, h, hat⟩

theorem wpA_block {id : Nat} {c : Code} (h : wpA P n c (inBlockA id Q) E H) : wpA P n (.block id c) Q E H := fun m0 w0 a w hat =>
  wp_block (wp_mono (h m0 w0 a w hat) (by
    rintro e a' w' ⟨E', H', hq, hat'⟩
    cases e with
    | exit id' =>
      by_cases e : id' = id
      · simp only [Exit.inBlock, e, if_true]; simp only [inBlockA, e, if_true] at hq; exact ⟨E', H', hq, hat'⟩
      · simp only [Exit.inBlock, e, if_false]; simp only [inBlockA, e, if_false] at hq; exact ⟨E', H', hq, hat'⟩
    | normal => exact ⟨E', H', hq, hat'⟩
    | goto l => exact ⟨E', H', hq, hat'⟩
    | ret => exact ⟨E', H', hq, hat'⟩
    | panic c => exact ⟨E', H', hq, hat'⟩
    | outgrown => exact ⟨E', H', hq, hat'⟩))

theorem wpA_cond {c : Operand} {x y : Code} {t : Bool} (hc : E.ev c = some (.v (.bool t))) (h1 : t = true → wpA P n x Q E H) (h2 : t = false → wpA P n y Q E H) : wpA P n (.cond c x y) Q E H := by
  intro m0 w0 a w hat
  have hat0 := hat
  obtain ⟨_, _, m, _, _, hf⟩ := hat0
  have hr := hf.ev hc
  have he : a.eval c = .bool t := by generalize a.eval c = v at hr; cases hr; rfl
  refine wp_cond_split he (fun ht => h1 ht m0 w0 a w hat) (fun ht => h2 ht m0 w0 a w hat)

/-- A loop whose measure stands in no slot. -/
theorem wp_loop_ghost {c : Code} {Q : Exit → Act → World → Prop} {a : Act} {w : World} (J : Nat → Act → World → Prop) {k : Nat} (h0 : J k a w)
    (round : ∀ k a w, J k a w → c.wp P (Exit.then (fun a' w' => ∃ k', k' < k ∧ J k' a' w') Q) a w) : (Code.loop c).wp P Q a w := by
  intro b r cs
  have key : ∀ k a w, J k a w → ∃ e a' w', Q e a' w' ∧ Arrives P (lone (b.at a (.code c :: .inLoop c :: r)) cs w) b r cs e a' w' := by
    intro k
    induction k using Nat.strongRecOn with
    | _ k ih =>
      intro a w hJ
      obtain ⟨e, a₁, w₁, hq, harr⟩ := round k a w hJ b (.inLoop c :: r) cs
      cases e with
      | normal =>
        obtain ⟨k', hlt, hJ'⟩ := hq
        obtain ⟨e₂, a₂, w₂, hq₂, harr₂⟩ := ih k' hlt a₁ w₁ hJ'
        exact ⟨e₂, a₂, w₂, hq₂, .of_steps (Steps.trans harr (.one step_inLoop)) harr₂⟩
      | exit id => exact ⟨_, a₁, w₁, hq, .pass (x := .inLoop c) rfl (fun _ _ => .inl (by simp)) harr⟩
      | goto l => exact ⟨_, a₁, w₁, hq, .pass (x := .inLoop c) rfl (fun _ _ => .inl (by simp)) harr⟩
      | ret => exact ⟨_, a₁, w₁, hq, .pass (x := .inLoop c) rfl (fun _ _ => .inl (by simp)) harr⟩
      | panic ch => exact ⟨_, a₁, w₁, hq, .pass (x := .inLoop c) rfl (fun _ _ => .inl (by simp)) harr⟩
      | outgrown => exact ⟨_, a₁, w₁, hq, .pass (x := .inLoop c) rfl (fun _ _ => .inl (by simp)) harr⟩
  obtain ⟨e, a', w', hq, harr⟩ := key k a w h0
  exact ⟨e, a', w', hq, .of_steps (.one step_loop) harr⟩

theorem wpA_loop {c : Code} (I : Nat → Env → Heap → Prop) {k : Nat} (h0 : I k E H)
    (round : ∀ k E H, I k E H → wpA P n c (thenA (fun E' H' => ∃ k', k' < k ∧ I k' E' H') Q) E H) : wpA P n (.loop c) Q E H := by
  intro m0 w0 a w hat
  refine wp_loop_ghost (fun k a w => ∃ E H, I k E H ∧ At m0 w0 n E H a w) ⟨E, H, h0, hat⟩ ?_
  rintro k a w ⟨E1, H1, hI, hat1⟩
  refine wp_mono (round k E1 H1 hI m0 w0 a w hat1) ?_
  rintro e a' w' ⟨E', H', hq, hat'⟩
  cases e with
  | normal =>
    obtain ⟨k', hlt, hi⟩ := hq
    exact ⟨k', hlt, E', H', hi, hat'⟩
  | exit id => exact ⟨E', H', hq, hat'⟩
  | goto l => exact ⟨E', H', hq, hat'⟩
  | ret => exact ⟨E', H', hq, hat'⟩
  | panic c => exact ⟨E', H', hq, hat'⟩
  | outgrown => exact ⟨E', H', hq, hat'⟩

theorem At.weaken {m0 : Mp} {w0 : World} {E' : Env} {a : Act} {w : World} (h : At m0 w0 n E H a w) (he : ∀ t p, E'.get t = some p → E.get t = some p) : At m0 w0 n E' H a w := by
  obtain ⟨h1, h2, m, h3, h4, h5⟩ := h
  exact ⟨h1, h2, m, h3, h4, fun t p ht => h5 t p (he t p ht)⟩

/-- Slots that are not needed any longer are forgotten. -/
def Env.only (E : Env) : List Nat → Env
  | [] => []
  | t :: r => match E.get t with
    | some p => (t, p) :: Env.only E r
    | none => Env.only E r

theorem Env.only_get (E : Env) : ∀ (l : List Nat) t p, (E.only l).get t = some p → E.get t = some p
  | [], t, p, h => by simp [Env.only, Env.get] at h
  | x :: r, t, p, h => by
    simp only [Env.only] at h
    split at h
    · rename_i q hq
      rw [Env.get_cons] at h
      by_cases e : x = t
      · subst e; rw [if_pos rfl] at h; cases h; exact hq
      · rw [if_neg e] at h; exact Env.only_get E r t p h
    · exact Env.only_get E r t p h

theorem wpA_only {c : Code} (l : List Nat) (h : wpA P n c Q (E.only l) H) : wpA P n c Q E H := fun m0 w0 a w hat =>
  h m0 w0 a w (hat.weaken (Env.only_get E l))

theorem wpA_weaken {c : Code} {E' : Env} (he : ∀ t p, E'.get t = some p → E.get t = some p) (h : wpA P n c Q E' H) : wpA P n c Q E H := fun m0 w0 a w hat =>
  h m0 w0 a w (hat.weaken he)

theorem wpA_mono {c : Code} {Q' : QA} (h : wpA P n c Q E H) (hq : ∀ e E H, Q e E H → Q' e E H) : wpA P n c Q' E H := fun m0 w0 a w hat =>
  wp_mono (h m0 w0 a w hat) (by rintro e a' w' ⟨E', H', h1, h2⟩; exact ⟨E', H', hq _ _ _ h1, h2⟩)

theorem wpA_region {id : Nat} {l : List Oper} (h : wpL P n l.toArray l Q E H) : wpA P n (.region id l.toArray false) Q E H := fun m0 w0 a w hat =>
  wp_region_lit (h m0 w0 a w hat)

theorem wpL_nil {ops : Array Oper} (h : Q .normal E H) : wpL P n ops [] Q E H := fun _ _ _ _ hat => wpList_nil ⟨E, H, h, hat⟩

end

/-! ### One operation -/

/-- Operation o, its operands standing for what E says, over the heap H: it gives the world back as it got it, and a value that stands for p. -/
def OpV (P : Program) (o : Oper) (E : Env) (H : Heap) (p : PV) : Prop :=
  ∀ m w (ρ : Operand → Value), R m H w → (∀ x q, E.ev x = some q → Rep m w q (ρ x)) → ∃ v, (execOp ρ o).run P w = .ok (.value v) w ∧ Rep m w p v

/-- The same where memory is made or written. -/
def OpW (P : Program) (o : Oper) (E : Env) (H : Heap) (p : PV) (H' : Heap) : Prop :=
  ∀ m w (ρ : Operand → Value), R m H w → (∀ x q, E.ev x = some q → Rep m w q (ρ x)) → ∃ v m' w', (execOp ρ o).run P w = .ok (.value v) w' ∧ Le m w m' w' ∧ R m' H' w' ∧ Rep m' w' p v

/-- A store. -/
def OpS (P : Program) (o : Oper) (E : Env) (H H' : Heap) : Prop :=
  ∀ m w (ρ : Operand → Value), R m H w → (∀ x q, E.ev x = some q → Rep m w q (ρ x)) → ∃ m' w', (execOp ρ o).run P w = .ok .skip w' ∧ Le m w m' w' ∧ R m' H' w'

section
variable {P : Program} {n : Nat} {Q : QA} {E : Env} {H : Heap} {ops : Array Oper} {rest : List Oper}

theorem wpL_w {o : Oper} {d : Nat} {p : PV} {H' : Heap} (hg : o.guard = none) (hd : o.dst = some d) (hn : d < n) (h : OpW P o E H p H') (k : wpL P n ops rest Q ((d, p) :: E) H') : wpL P n ops (o :: rest) Q E H := by
  rintro m0 w0 a w ⟨h1, h2, m, h3, h4, h5⟩
  refine wpList_plain hg fun K hK => ?_
  obtain ⟨v, m', w', hrun, hle, hR, hr⟩ := h m w a.eval h4 (fun x q hx => h5.ev hx)
  unfold Oper.wp
  rw [hrun, Oper.upon_value, hd]
  have := k m0 w0 (a.put (some d) v) w' ⟨by simp [Act.put, h1], h2, m', h3.trans hle, hR, (h5.mono h4.rk hle).put (by omega) hr⟩
  exact hK _ _ this

theorem wpL_v {o : Oper} {d : Nat} {p : PV} (hg : o.guard = none) (hd : o.dst = some d) (hn : d < n) (h : OpV P o E H p) (k : wpL P n ops rest Q ((d, p) :: E) H) : wpL P n ops (o :: rest) Q E H :=
  wpL_w hg hd hn (fun m w ρ hR hρ => let ⟨v, h1, h2⟩ := h m w ρ hR hρ; ⟨v, m, w, h1, Le.refl m w, hR, h2⟩) k

theorem wpL_s {o : Oper} {H' : Heap} (hg : o.guard = none) (hd : o.dst = none) (h : OpS P o E H H') (k : wpL P n ops rest Q E H') : wpL P n ops (o :: rest) Q E H := by
  rintro m0 w0 a w ⟨h1, h2, m, h3, h4, h5⟩
  refine wpList_plain hg fun K hK => ?_
  obtain ⟨m', w', hrun, hle, hR⟩ := h m w a.eval h4 (fun x q hx => h5.ev hx)
  unfold Oper.wp
  rw [hrun, Oper.upon_skip, hd]
  exact hK _ _ (k m0 w0 a w' ⟨h1, h2, m', h3.trans hle, hR, h5.mono h4.rk hle⟩)

/-- An operation under a guard. -/
theorem wpL_g {o og : Oper} {j dj d : Nat} {want b : Bool} (hg : o.guard = some (j, want)) (hj : ops[j]? = some og) (hdj : og.dst = some dj) (hb : E.get dj = some (.v (.bool b))) (hd : o.dst = some d) (hn : d < n)
    (h1 : b = want → wpL P n ops ({ o with guard := none } :: rest) Q E H) (h2 : b ≠ want → wpL P n ops rest Q ((d, .v undef) :: E) H) : wpL P n ops (o :: rest) Q E H := by
  intro m0 w0 a w hat
  have hat0 := hat
  obtain ⟨a1, a2, m, a3, a4, a5⟩ := hat
  have hr := a5 dj _ hb
  have he : a.tmps.getD dj undef = .bool b := by generalize a.tmps.getD dj undef = v at hr; cases hr; rfl
  have hlt : dj < a.tmps.size := by
    rcases Nat.lt_or_ge dj a.tmps.size with h | h
    · exact h
    · rw [Array.getD_eq_getD_getElem?, Array.getElem?_eq_none h] at he; simp [undef] at he
  have hy : yielded ops a.tmps j = some b := by
    have : a.tmps[dj]? = some (.bool b) := by
      rw [Array.getD_eq_getD_getElem?, Array.getElem?_eq_getElem hlt] at he
      rw [Array.getElem?_eq_getElem hlt]
      simpa using he
    simp [yielded, hj, hdj, this]
  by_cases e : b = want
  · have hw : Region.wanted o (yielded ops a.tmps) = true := by simp [Region.wanted, hg, hy, e]
    have := h1 e m0 w0 a w hat0
    unfold wpList at this ⊢
    rw [if_pos (by simp [Region.wanted])] at this
    rw [if_pos hw]
    exact this
  · have hw : Region.wanted o (yielded ops a.tmps) = false := by simp [Region.wanted, hg, hy, e]
    unfold wpList
    rw [hw, if_neg (by simp), hd]
    exact h2 e m0 w0 _ w ⟨by simp [Act.put, a1], a2, m, a3, a4, a5.put (by omega) (.v _ rfl)⟩

end

/-! ### Calls -/

def RepL (m : Mp) (w : World) (ps : List PV) (vs : Array Value) : Prop := vs.size = ps.length ∧ ∀ (j : Nat) (c : PV), ps[j]? = some c → Rep m w c (vs.getD j undef)

/-- A call of function f, over the heap H. -/
def AC (P : Program) (f : FuncId) (args : List PV) (H : Heap) (Q : PV → Heap → Prop) : Prop :=
  (∃ fn, P.funcs[f]? = some fn ∧ (fn.name == "runtime.NumGoroutine") = false ∧ fn.body.isNone = false) ∧
  ∀ m w vals, R m H w → RepL m w args vals → Calls P f vals w fun e w' => ∃ v p H' m', e = .returned v ∧ Q p H' ∧ Rep m' w' p v ∧ R m' H' w' ∧ Le m w m' w'

theorem AC.mono {P : Program} {f : FuncId} {args : List PV} {H : Heap} {Q Q' : PV → Heap → Prop} (h : AC P f args H Q) (hq : ∀ p H', Q p H' → Q' p H') : AC P f args H Q' :=
  ⟨h.1, fun m w vals h1 h2 => (h.2 m w vals h1 h2).mono fun _ _ ⟨v, p, H', m', a, b, c⟩ => ⟨v, p, H', m', a, hq _ _ b, c⟩⟩

def evs (E : Env) : List Operand → Option (List PV)
  | [] => some []
  | x :: r => match E.ev x with
    | some p => match evs E r with
      | some ps => some (p :: ps)
      | none => none
    | none => none

theorem evs_rep {m : Mp} {w : World} {E : Env} {ρ : Operand → Value} (hρ : ∀ x q, E.ev x = some q → Rep m w q (ρ x)) : ∀ (l : List Operand) (ps : List PV), evs E l = some ps →
    ps.length = l.length ∧ ∀ (j : Nat) (c : PV), ps[j]? = some c → Rep m w c ((l.map ρ).getD j undef)
  | [], ps, h => by simp [evs] at h; subst h; simp
  | x :: r, ps, h => by
    simp only [evs] at h
    split at h
    · rename_i p hp
      split at h
      · rename_i qs hq
        cases h
        obtain ⟨h1, h2⟩ := evs_rep hρ r qs hq
        refine ⟨by simp [h1], fun j c hj => ?_⟩
        cases j with
        | zero => simp at hj; subst hj; simpa using hρ x p hp
        | succ j => simpa using h2 j c (by simpa using hj)
      · cases h
    · cases h

theorem RepL.append {m : Mp} {w : World} {ps qs : List PV} {vs us : Array Value} (h : RepL m w ps vs) (k : RepL m w qs us) : RepL m w (ps ++ qs) (vs ++ us) := by
  refine ⟨by simp [h.1, k.1], fun j c hj => ?_⟩
  rcases Nat.lt_or_ge j ps.length with hlt | hge
  · rw [List.getElem?_append_left hlt] at hj
    have := h.2 j c hj
    rwa [Array.getD_eq_getD_getElem?, Array.getElem?_append_left (by rw [h.1]; exact hlt), ← Array.getD_eq_getD_getElem?]
  · rw [List.getElem?_append_right hge] at hj
    have := k.2 _ c hj
    rwa [Array.getD_eq_getD_getElem?, Array.getElem?_append_right (by rw [h.1]; exact hge), h.1, ← Array.getD_eq_getD_getElem?]

section
variable {P : Program} {n : Nat} {Q : QA} {E : Env} {H : Heap} {ops : Array Oper} {rest : List Oper}

/-- What a call of a function value comes to. -/
theorem call_run {o : Oper} {c : Call} {x : Operand} {g : FuncId} {cap : List PV} {m : Mp} {w : World} {ρ : Operand → Value} (ho : o.op = .call c) (hc : c.callee = .value x) (hx : Rep m w (.fn (.func g) cap) (ρ x))
    (hf : ∃ fn, P.funcs[g]? = some fn ∧ (fn.name == "runtime.NumGoroutine") = false ∧ fn.body.isNone = false) :
    ∃ vs, RepL m w cap vs ∧ (execOp ρ o).run P w = .ok (.enter g (c.args.map ρ ++ vs)) w := by
  obtain ⟨fn, hf1, hf2, hf3⟩ := hf
  generalize hv : ρ x = v at hx
  cases hx with
  | fn vs hl hh =>
    refine ⟨vs, ⟨hl, hh⟩, ?_⟩
    have h2 : ¬ fn.name = "runtime.NumGoroutine" := by simpa using hf2
    have h3 : ¬ fn.body = none := fun e => by rw [e] at hf3; simp at hf3
    simp [execOp, ho, resolve, hc, hv, Deferred.ofValue, invoke, callFunc, hf1, h2, h3]

theorem wpL_call {o : Oper} {c : Call} {x : Operand} {g : FuncId} {cap args : List PV} {QC : PV → Heap → Prop} (hg : o.guard = none) (ho : o.op = .call c) (hc : c.callee = .value x) (hx : E.ev x = some (.fn (.func g) cap))
    (ha : evs E c.args.toList = some args) (h : AC P g (args ++ cap) H QC)
    (hd : match o.dst with | some d => d < n | none => True)
    (k : ∀ p H', QC p H' → wpL P n ops rest Q (match o.dst with | some d => (d, p) :: E | none => E) H') : wpL P n ops (o :: rest) Q E H := by
  rintro m0 w0 a w ⟨h1, h2, m, h3, h4, h5⟩
  refine wpList_plain hg fun K hK => ?_
  obtain ⟨vs, hvs, hrun⟩ := call_run (P := P) (m := m) (w := w) (ρ := a.eval) ho hc (h5.ev hx) h.1
  unfold Oper.wp
  rw [hrun, Oper.upon_enter]
  have hargs : RepL m w args (c.args.map a.eval) := by
    obtain ⟨e1, e2⟩ := evs_rep (m := m) (w := w) (ρ := a.eval) (fun x q hx => h5.ev hx) c.args.toList args ha
    refine ⟨by simp [e1], fun j q hj => ?_⟩
    have := e2 j q hj
    simpa [Array.getD_eq_getD_getElem?, List.getD_eq_getElem?_getD] using this
  refine (h.2 m w _ h4 (hargs.append hvs)).mono ?_
  rintro e w' ⟨v, p, H', m', rfl, hq, hr, hR, hle⟩
  refine hK _ _ ?_
  cases hdst : o.dst with
  | none =>
    have := k p H' hq
    simp only [hdst] at this
    exact this m0 w0 a w' ⟨h1, h2, m', h3.trans hle, hR, h5.mono h4.rk hle⟩
  | some d =>
    have := k p H' hq
    simp only [hdst] at this
    have hd' : d < a.tmps.size := by rw [hdst] at hd; rw [h1]; exact hd
    exact this m0 w0 (a.put (some d) v) w' ⟨by simp [Act.put, h1], h2, m', h3.trans hle, hR, (h5.mono h4.rk hle).put hd' hr⟩

end

/-! ### Entering a function -/

def envFrom : Nat → List PV → Env
  | _, [] => []
  | k, p :: r => (k, p) :: envFrom (k + 1) r

theorem envFrom_get : ∀ (ps : List PV) (k t : Nat) (p : PV), (envFrom k ps).get t = some p → k ≤ t ∧ ps[t - k]? = some p
  | [], k, t, p, h => by simp [envFrom, Env.get] at h
  | q :: r, k, t, p, h => by
    simp only [envFrom] at h
    rw [Env.get_cons] at h
    by_cases e : k = t
    · subst e; rw [if_pos rfl] at h; cases h; simp
    · rw [if_neg e] at h
      obtain ⟨h1, h2⟩ := envFrom_get r (k + 1) t p h
      refine ⟨by omega, ?_⟩
      rw [show t - k = (t - (k + 1)) + 1 from by omega]
      simpa using h2

def takeN : Nat → List PV → Option (List PV)
  | 0, _ => some []
  | _ + 1, [] => none
  | k + 1, c :: r => match takeN k r with
    | some l => some (c :: l)
    | none => none

theorem takeN_eq : ∀ (k : Nat) (l r : List PV), takeN k l = some r ↔ (k ≤ l.length ∧ r = l.take k)
  | 0, l, r => by simp [takeN, eq_comm]
  | k + 1, [], r => by simp [takeN]
  | k + 1, c :: l, r => by
    have ih := takeN_eq k l
    simp only [takeN]
    cases h : takeN k l with
    | none =>
      have hn : ¬ k ≤ l.length := fun hk => by
        have := (ih (l.take k)).2 ⟨hk, rfl⟩
        rw [h] at this; cases this
      simp [hn]
    | some x =>
      obtain ⟨h1, h2⟩ := (ih x).1 h
      simp [h1, h2, eq_comm]

/-- The cells that stand from an address on. -/
def readA (H : Heap) (p : PV) (k : Nat) : Option (List PV) :=
  match p with
  | .ptr id off => match H[id]? with
    | some (some B) => takeN k (B.cells.drop off)
    | _ => none
  | .ept cells off => takeN k (cells.drop off)
  | _ => none

theorem Addr.add_mk (b o k : Nat) : (⟨b, o, none⟩ : Addr).add k = ⟨b, o + k, none⟩ := Addr.add_lit b o k

theorem readA_cells {m : Mp} {H : Heap} {w : World} (h : R m H w) {p : PV} {k : Nat} {cs : List PV} {v : Value} (hr : Rep m w p v) (hc : readA H p k = some cs) :
    cs.length = k ∧ ∃ b o, v = .pointer (some ⟨b, o, none⟩) ∧ ∀ (j : Nat) (c : PV), cs[j]? = some c → ∃ u, w.cell? ⟨b, o + j, none⟩ = some u ∧ Rep m w c u := by
  cases hr with
  | @ptr id off b d lim hm =>
    simp only [readA] at hc
    split at hc
    · rename_i B hB
      obtain ⟨h1, rfl⟩ := (takeN_eq _ _ _).1 hc
      refine ⟨by simp only [List.length_take]; omega, b, d + off, rfl, fun j c hj => ?_⟩
      obtain ⟨_, ⟨cur, c1, c2, c3, c4⟩, _⟩ := h.blk id B b d lim hB hm
      rw [List.getElem?_take] at hj
      split at hj
      · rw [List.getElem?_drop] at hj
        obtain ⟨u, hu, hru, _⟩ := c4 (off + j) c hj
        exact ⟨u, by rw [cell_of_row w b _ cur B.elem (0, 0) c1, ← hu]; congr 1; omega, hru⟩
      · cases hj
    · cases hc
  | @ept cells off b o f hro hcell hh =>
    simp only [readA] at hc
    obtain ⟨h1, rfl⟩ := (takeN_eq _ _ _).1 hc
    refine ⟨by simp only [List.length_take]; omega, b, o + off, rfl, fun j c hj => ?_⟩
    rw [List.getElem?_take] at hj
    split at hj
    · rw [List.getElem?_drop] at hj
      exact ⟨f (off + j), by rw [Nat.add_assoc]; exact hcell _ c hj, hh _ c hj⟩
    · cases hj
  | _ => simp [readA] at hc

def isAggD : TypeDesc → Bool
  | .struct _ => true
  | .array _ _ => true
  | _ => false

theorem run_isAgg {P : Program} {t : TypeId} {d : TypeDesc} (h : P.underlying t = some d) (w : World) : (isAgg t).run P w = .ok (isAggD d) w := by
  unfold isAgg
  simp only [Sem.run_bind, run_underlying h, Result.andThen_ok]
  cases d <;> rfl

theorem run_sizeOf {P : Program} {t : TypeId} {i : TypeInfo} (h : P.info? t = some i) (w : World) : (sizeOf t).run P w = .ok i.size w := by
  simp [sizeOf, typeInfo, h]

/-- A variable is read. -/
def loadA (d : TypeDesc) (size : Nat) (H : Heap) (p : PV) : Option PV :=
  match isAggD d with
  | true => match readA H p size with
    | some cs => some (.agg cs)
    | none => none
  | false => match readA H p 1 with
    | some [c] => some c
    | _ => none

theorem run_loadVar {P : Program} {m : Mp} {H : Heap} {w : World} (h : R m H w) {t : TypeId} {d : TypeDesc} {i : TypeInfo} (hd : P.underlying t = some d) (hi : P.info? t = some i) {p q : PV} {v : Value}
    (hr : Rep m w p v) (hl : loadA d i.size H p = some q) : ∃ a u, v = .pointer (some a) ∧ (loadVar t a).run P w = .ok u w ∧ Rep m w q u := by
  unfold loadA at hl
  cases ha : isAggD d with
  | true =>
    rw [ha] at hl
    simp only at hl
    split at hl
    · rename_i cs hcs
      cases hl
      obtain ⟨h1, b, o, rfl, h2⟩ := readA_cells h hr hcs
      have hx : ∃ us : List Value, us.length = cs.length ∧ ∀ (j : Nat) (u : Value), us[j]? = some u → w.cell? ⟨b, o + j, none⟩ = some u ∧ ∃ c, cs[j]? = some c ∧ Rep m w c u := by
        refine ⟨(List.range cs.length).map fun j => (w.cell? ⟨b, o + j, none⟩).getD undef, by simp, fun j u hu => ?_⟩
        rw [List.getElem?_map] at hu
        rcases Nat.lt_or_ge j cs.length with hlt | hge
        · rw [List.getElem?_range hlt] at hu
          simp only [Option.map_some, Option.some.injEq] at hu
          obtain ⟨u', hu', hru⟩ := h2 j _ (List.getElem?_eq_getElem hlt)
          rw [hu'] at hu
          simp only [Option.getD_some] at hu
          subst hu
          exact ⟨hu', _, List.getElem?_eq_getElem hlt, hru⟩
        · rw [List.getElem?_eq_none (by simpa using hge)] at hu; cases hu
      obtain ⟨us, hus, hu⟩ := hx
      refine ⟨⟨b, o, none⟩, .agg us.toArray, rfl, ?_, ?_⟩
      · have := run_loadCells_list (P := P) w ⟨b, o, none⟩ us (fun j v hv => by rw [Addr.add_mk]; exact (hu j v hv).1)
        rw [hus, h1] at this
        unfold loadVar
        simp only [Sem.run_bind, run_isAgg hd, ha, Result.andThen_ok, if_true, run_sizeOf hi, this, Sem.run_pure]
      · refine .agg us.toArray (by simp [hus]) (fun j c hj => ?_)
        have hlt : j < us.length := by rw [hus]; exact (List.getElem?_eq_some_iff.1 hj).1
        obtain ⟨_, c', hc', hrc⟩ := hu j _ (List.getElem?_eq_getElem hlt)
        rw [hj] at hc'; cases hc'
        simpa [Array.getD_eq_getD_getElem?, hlt] using hrc
    · cases hl
  | false =>
    rw [ha] at hl
    simp only at hl
    split at hl
    · rename_i c hc
      cases hl
      obtain ⟨h1, b, o, rfl, h2⟩ := readA_cells h hr hc
      obtain ⟨u, hu, hru⟩ := h2 0 _ rfl
      refine ⟨⟨b, o, none⟩, u, rfl, ?_, hru⟩
      unfold loadVar
      have hu' : w.cell? ⟨b, o, none⟩ = some u := by simpa using hu
      simp only [Sem.run_bind, run_isAgg hd, ha, Result.andThen_ok, Bool.false_eq_true, if_false, run_load, hu']
    · cases hl

end Go.Th
