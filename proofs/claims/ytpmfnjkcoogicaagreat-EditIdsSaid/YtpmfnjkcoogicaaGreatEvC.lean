/- For the evaluator of closed calls. What it says of one operation is so: first part. -/
import Derived.Test.YtpmfnjkcoogicaaGreatEvB
set_option linter.unusedVariables false
namespace Go.Ev
open Go.RowKit
set_option linter.unusedVariables false

structure Tab.Ok (T : Tab) : Prop where
  ti : ∀ t i, T.ti t = some i → HasU T.P t i.desc ∧ HasI T.P t i.size i.bytes i.zero ∧ (∀ fs, i.desc = .struct fs → HasB T.P t i.places)
  fn : ∀ f fn, T.fn f = some fn → T.P.funcs[f]? = some fn ∧ (fn.name == "runtime.NumGoroutine") = false
  mixed : T.P.follows .mixedOrders = true

/-- Operation o, its operands standing for what E says, in state s: it yields what stands for p, in state s'. -/
def OpR (P : Program) (o : Oper) (E : Env) (s : St) (p : PV) (s' : St) : Prop :=
  ∀ m w (ρ : Operand → Value), RX m s w → (∀ x q, E.ev x = some q → Rep m w q (ρ x)) →
    ∃ v m' w', ((execOp ρ o).run P w = .ok (.value v) w' ∨ ((execOp ρ o).run P w = .ok .skip w' ∧ v = undef)) ∧ Lx m w m' w' ∧ RX m' s' w' ∧ Rep m' w' p v

section
variable {P : Program} {o : Oper} {E : Env} {s : St} {p : PV} {H' : HP Blk}

theorem OpW.R (h : OpW P o E s.H.list p H'.list) : OpR P o E s p { s with H := H' } := fun m w ρ hR hρ => by
  obtain ⟨v, m1, w', hrun, hle, hR', hr⟩ := h (plus m) w ρ hR.r (fun x q hx => (hρ x q hx).plus)
  obtain ⟨m', hL, hX, hm⟩ := hR.op hle hR'
  exact ⟨v, m', w', .inl hrun, hL, hX, hm p v hr⟩

theorem OpV.R (h : OpV P o E s.H.list p) : OpR P o E s p s := fun m w ρ hR hρ => by
  obtain ⟨v, hrun, hr⟩ := h (plus m) w ρ hR.r (fun x q hx => (hρ x q hx).plus)
  exact ⟨v, m, w, .inl hrun, Lx.refl m w, hR, hr.unplus⟩

theorem OpS.R (h : OpS P o E s.H.list H'.list) : OpR P o E s (.v undef) { s with H := H' } := fun m w ρ hR hρ => by
  obtain ⟨m1, w', hrun, hle, hR'⟩ := h (plus m) w ρ hR.r (fun x q hx => (hρ x q hx).plus)
  obtain ⟨m', hL, hX, hm⟩ := hR.op hle hR'
  exact ⟨undef, m', w', .inr ⟨hrun, rfl⟩, hL, hX, .v _ rfl⟩
end

/-! ### The program's own text, where it asks for nothing but the program -/

theorem semPure_run {P : Program} {α : Type} : ∀ (s : Sem α) (a : α), semPure P s = some a → ∀ w, s.run P w = .ok a w := by
  intro s
  induction s with
  | pure b => intro a h w; simp only [semPure, Option.some.injEq] at h; subst h; rfl
  | program k ih => intro a h w; simp only [semPure] at h; exact ih P a h w
  | _ => intro a h; simp [semPure] at h

theorem vOf_eq {r : Value} {p : PV} (h : vOf r = some p) : p = .v r ∧ noAgg r = true := by
  unfold vOf at h
  split at h
  · rename_i hn; cases h; exact ⟨rfl, hn⟩
  · cases h

/-! ### The heap's list -/

theorem readP_eq (H : HP Blk) (p : PV) (k : Nat) : readP H p k = readA H.list p k := by
  cases p with
  | ptr id off =>
    simp only [readP, readA, HP.get_eq]
    cases H.list[id]? with
    | none => rfl
    | some x => cases x <;> rfl
  | _ => rfl

theorem loadP_eq (d : TypeDesc) (size : Nat) (H : HP Blk) (p : PV) : loadP d size H p = loadA d size H.list p := by
  unfold loadP loadA
  simp only [readP_eq]
  cases isAggD d with
  | true => cases readA H.list p size <;> rfl
  | false => cases readA H.list p 1 with
    | none => rfl
    | some l => match l with
      | [] => rfl
      | [_] => rfl
      | _ :: _ :: _ => rfl

theorem storeP_eq {H H' : HP Blk} {p : PV} {cs : List PV} (h : storeP H p cs = some H') : storeA H.list p cs = some H'.list := by
  cases p with
  | ptr id off =>
    simp only [storeP] at h
    cases hg : H.get id with
    | none => rw [hg] at h; cases h
    | some B =>
      rw [hg] at h
      simp only at h
      simp only [storeA, HP.get_some hg]
      split at h
      · rename_i hb
        cases h
        rw [hb]
        simp only [HP.list_set]
      · cases h
  | _ => simp [storeP] at h

theorem cellsP_eq {H : HP Blk} {sz id off len sz' : Nat} {r : Nat × List PV} (h : cellsP H sz id off len sz' = some r) : sliceCells H.list sz (.sl id off len sz') = some r ∧ sliceCells H.list sz (.sx id off len sz') = some r := by
  unfold cellsP at h
  cases hq : Nat.beq sz' sz with
  | false => rw [hq] at h; cases h
  | true =>
    rw [hq] at h
    simp only at h
    cases hg : H.get id with
    | none => rw [hg] at h; cases h
    | some B =>
      rw [hg] at h
      simp only [sliceCells, hq, HP.get_some hg]
      exact ⟨h, h⟩

theorem slcP_eq {H : HP Blk} {sz : Nat} {p : PV} {r : Nat × List PV} (h : slcP H sz p = some r) : sliceCells H.list sz p = some r := by
  cases p with
  | sl id off len sz' => exact (cellsP_eq h).1
  | sx id off len sz' => exact (cellsP_eq h).2
  | tr cells len sz' => exact h
  | v x => cases x with
    | slice a n c => cases a with
      | none => cases n with
        | zero => exact h
        | succ n => simp [slcP] at h
      | some a => simp [slcP] at h
    | _ => simp [slcP] at h
  | _ => simp [slcP] at h

/-- Of a block's cells only the first ones are spoken of any longer. -/
theorem R.trunc {m : Mp} {H : Heap} {w : World} (h : R m H w) {id : Nat} {B : Blk} (hB : H[id]? = some (some B)) (k : Nat) : R m (H.set id (some { B with cells := B.cells.take k })) w := by
  refine ⟨h.rk, h.kl, fun i x hx => by simpa using h.dom i x hx, fun i C b d lim hi hm => ?_, fun i j C D bi di li bj dj lj hne hi hj ho1 ho2 hmi hmj => ?_, by simpa using h.top⟩
  · rcases set_get hi with ⟨e1, e⟩ | ⟨_, e⟩
    · cases e; subst e1
      obtain ⟨h0, ⟨cur, h1, h2, h3, h4⟩, h5, h6⟩ := h.blk i B b d lim hB hm
      refine ⟨h0, ⟨cur, h1, h2, by simp only [List.length_take]; omega, fun j c hj => ?_⟩, h5, h6⟩
      rw [List.getElem?_take] at hj
      split at hj
      · exact h4 j c hj
      · cases hj
    · exact h.blk i C b d lim e hm
  · have old : ∀ (i : Nat) (C : Blk), (H.set id (some { B with cells := B.cells.take k }))[i]? = some (some C) → C.own = true → ∃ C', H[i]? = some (some C') ∧ C'.own = true := fun i C hi ho => by
      rcases set_get hi with ⟨e1, e⟩ | ⟨_, e⟩
      · cases e; subst e1; exact ⟨B, hB, ho⟩
      · exact ⟨C, e, ho⟩
    obtain ⟨C', c1, c2⟩ := old i C hi ho1
    obtain ⟨D', d1, d2⟩ := old j D hj ho2
    exact h.inj i j C' D' bi di li bj dj lj hne c1 d1 c2 d2 hmi hmj

section
variable {T : Tab} (hT : T.Ok) {o : Oper} {E : Env} {s s' : St} {p : PV}
include hT

theorem ti_u {t : TypeId} {i : TI} (h : T.ti t = some i) : HasU T.P t i.desc := (hT.ti t i h).1
theorem ti_i {t : TypeId} {i : TI} (h : T.ti t = some i) : HasI T.P t i.size i.bytes i.zero := (hT.ti t i h).2.1

theorem sliceTy_ok {t e : TypeId} {i : TI} (h : sliceTy T t = some (e, i)) : HasU T.P t (.slice e) ∧ HasI T.P e i.size i.bytes i.zero := by
  unfold sliceTy at h
  cases h1 : T.ti t with
  | none => rw [h1] at h; cases h
  | some a =>
    rw [h1] at h
    simp only at h
    have hu := ti_u hT h1
    cases hd : a.desc with
    | slice e' =>
      rw [hd] at h hu
      simp only at h
      cases h2 : T.ti e' with
      | none => rw [h2] at h; cases h
      | some j => rw [h2] at h; cases h; exact ⟨hu, ti_i hT h2⟩
    | _ => rw [hd] at h; cases h

theorem mapTy_ok {t : TypeId} {kd : TypeDesc} {i : TI} (h : mapTy T t = some (kd, i)) : ∃ k e, T.P.underlying t = some (.map k e) ∧ T.P.underlying k = some kd ∧ HasI T.P e i.size i.bytes i.zero := by
  unfold mapTy at h
  cases h1 : T.ti t with
  | none => rw [h1] at h; cases h
  | some a =>
    rw [h1] at h
    simp only at h
    have hu := (ti_u hT h1).u
    cases hd : a.desc with
    | map k e =>
      rw [hd] at h hu
      simp only at h
      cases h2 : T.ti k with
      | none => rw [h2] at h; cases h
      | some b =>
        cases h3 : T.ti e with
        | none => rw [h2, h3] at h; cases h
        | some c => rw [h2, h3] at h; cases h; exact ⟨k, e, hu, (ti_u hT h2).u, ti_i hT h3⟩
    | _ => rw [hd] at h; cases h

omit hT in
theorem same_eq {q : Option PV} (h : same s q = some (p, s')) : q = some p ∧ s' = s := by
  cases q with
  | none => cases h
  | some x => cases h; exact ⟨rfl, rfl⟩

theorem s_alloc {t : TypeId} (ho : o.op = .alloc t) (h : evAlloc T t s = some (p, s')) : OpR T.P o E s p s' := by
  unfold evAlloc at h
  cases h1 : T.ti t with
  | none => rw [h1] at h; cases h
  | some i =>
    rw [h1] at h
    simp only at h
    split at h
    · rename_i hz
      cases h
      have := ti_i hT h1
      refine OpW.R ?_
      rw [HP.list_push, ← HP.list_length]
      exact OpW_alloc ho hz
    · cases h

omit hT in
theorem s_box {t : TypeId} {x : Operand} (ho : o.op = .box t x) (h : evBox t s (E.ev x) = some (p, s')) : OpR T.P o E s p s' := by
  cases hx : E.ev x with
  | none => rw [hx] at h; cases h
  | some q =>
    rw [hx] at h
    simp only [evBox, newB] at h
    split at h
    · rename_i hn
      split at hn
      · rename_i h1
        cases hn; cases h
        refine OpW.R ?_
        rw [HP.list_push, ← HP.list_length]
        exact OpW_box ho hx h1
      · cases hn
    · cases h

theorem s_build {t : TypeId} {parts : Array (Nat × Operand)} (ho : o.op = .build t parts) (h : evBuild T t (evp E parts.toList) = some p) : OpR T.P o E s p s := by
  cases hp : evp E parts.toList with
  | none => rw [hp] at h; cases h
  | some ps =>
    rw [hp] at h
    simp only [evBuild] at h
    cases h1 : T.ti t with
    | none => rw [h1] at h; cases h
    | some i =>
      rw [h1] at h
      simp only at h
      split at h
      · rename_i fs cs hd hz hf
        cases h
        have := ti_i hT h1
        have := (hT.ti t i h1).2.2 _ hd
        exact OpV.R (OpV_build ho hp hz hf)
      · cases h

theorem s_lit {t : TypeId} {n : Nat} {parts : Array (Nat × Operand)} (ho : o.op = .buildSlice t n parts) (h : evLit T t n s (evp E parts.toList) = some (p, s')) : OpR T.P o E s p s' := by
  cases hp : evp E parts.toList with
  | none => rw [hp] at h; cases h
  | some ps =>
    rw [hp] at h
    simp only [evLit] at h
    cases h1 : sliceTy T t with
    | none => rw [h1] at h; cases h
    | some ei =>
      obtain ⟨e, i⟩ := ei
      rw [h1] at h
      simp only at h
      obtain ⟨hu, hi⟩ := sliceTy_ok hT h1
      split at h
      · rename_i hc
        simp only [Bool.and_eq_true] at hc
        split at h
        · rename_i cs hf
          simp only [newB] at h
          split at h
          · rename_i hn
            split at hn
            · rename_i h1'
              cases hn; cases h
              refine OpW.R ?_
              rw [HP.list_push, ← HP.list_length]
              exact OpW_buildSlice ho hp hc.1.1.1 hc.1.1.2 hc.1.2 hc.2 hf h1'
            · cases hn
          · cases h
        · cases h
      · cases h

theorem s_load {t : TypeId} {x : Operand} (ho : o.op = .load t x) (h : evLoad T t s (E.ev x) = some p) : OpR T.P o E s p s := by
  cases hx : E.ev x with
  | none => rw [hx] at h; cases h
  | some q =>
    rw [hx] at h
    simp only [evLoad] at h
    cases h1 : T.ti t with
    | none => rw [h1] at h; cases h
    | some i =>
      rw [h1] at h
      simp only [loadP_eq] at h
      have := ti_u hT h1
      have := ti_i hT h1
      exact OpV.R (OpV_load ho hx h)

theorem s_store {t : TypeId} {x y : Operand} (ho : o.op = .store t x y) (h : evStore T t s (E.ev x) (E.ev y) = some (p, s')) : OpR T.P o E s p s' := by
  cases hx : E.ev x with
  | none => rw [hx] at h; cases h
  | some q =>
    cases hy : E.ev y with
    | none => rw [hx, hy] at h; cases h
    | some r =>
      rw [hx, hy] at h
      simp only [evStore] at h
      cases h1 : T.ti t with
      | none => rw [h1] at h; cases h
      | some i =>
        rw [h1] at h
        simp only at h
        split at h
        · rename_i hc
          simp only [Bool.and_eq_true] at hc
          split at h
          · rename_i H' hs
            cases h
            have := ti_i hT h1
            exact OpS.R (OpS_store ho hx hy hc.1 hc.2 (storeP_eq hs))
          · cases h
        · cases h

omit hT in
theorem s_nilCheck {x : Operand} (ho : o.op = .nilCheck x) (h : evNilCheck (E.ev x) = some p) : OpR T.P o E s p s := by
  cases hx : E.ev x with
  | none => rw [hx] at h; cases h
  | some q =>
    rw [hx] at h
    refine OpV.R fun m w ρ hR hρ => ?_
    have hr := hρ x q hx
    cases q with
    | ptr id off => cases h; exact OpV_nilCheck (H := s.H.list) ho hx rfl m w ρ hR hρ
    | ept c off => cases h; exact OpV_nilCheck (H := s.H.list) ho hx rfl m w ρ hR hρ
    | fn f c =>
      cases f with
      | func g =>
        cases h
        refine ⟨ρ x, ?_, hr⟩
        generalize hv : ρ x = v at hr
        cases hr with
        | fn vs hl hh => simp [execOp, ho, hv]
      | _ => cases h
    | yld l =>
      cases h
      refine ⟨ρ x, ?_, hr⟩
      generalize hv : ρ x = v at hr
      cases hr with
      | yld hb => simp [execOp, ho, hv]
    | _ => cases h

omit hT in
theorem s_mkFn {f : Fn} {first caps : Array Operand} (ho : o.op = .makeFunc f first caps) (h : evMkFn f first (evs E caps.toList) = some p) : OpR T.P o E s p s := by
  cases hp : evs E caps.toList with
  | none => rw [hp] at h; cases h
  | some ps =>
    rw [hp] at h
    simp only [evMkFn] at h
    split at h
    · rename_i he
      cases h
      have : first = #[] := by simpa using he
      subst this
      exact OpV.R (OpV_makeFunc ho hp)
    · cases h

theorem s_field {t : TypeId} {x : Operand} {k : Nat} (ho : o.op = .fieldAddr t x k) (h : evField T t k (E.ev x) = some p) : OpR T.P o E s p s := by
  cases hx : E.ev x with
  | none => rw [hx] at h; cases h
  | some q =>
    rw [hx] at h
    simp only [evField] at h
    cases h1 : T.ti t with
    | none => rw [h1] at h; cases h
    | some i =>
      rw [h1] at h
      simp only at h
      split at h
      · rename_i fs off sz hd hk
        have := (hT.ti t i h1).2.2 _ hd
        exact OpV.R (OpV_fieldAddr ho hx hk h)
      · cases h

omit hT in
theorem intOf_eq {q : PV} {k : Nat} (h : intOf q = some k) : ∃ j, q = .v (.int j (k : Int)) := by
  cases q with
  | v x =>
    cases x with
    | int j n =>
      cases n with
      | ofNat a => simp only [intOf, Option.some.injEq] at h; subst h; exact ⟨j, rfl⟩
      | negSucc a => cases h
    | _ => cases h
  | _ => cases h

theorem s_idxA {t : TypeId} {x y : Operand} (ho : o.op = .indexAddr t x y) (h : evIdxA T t (E.ev x) (E.ev y) = some p) : OpR T.P o E s p s := by
  cases hx : E.ev x with
  | none => rw [hx] at h; cases h
  | some q =>
    cases hy : E.ev y with
    | none => rw [hx, hy] at h; cases h
    | some r =>
      rw [hx, hy] at h
      simp only [evIdxA] at h
      cases h1 : sliceTy T t with
      | none => rw [h1] at h; cases h
      | some ei =>
        obtain ⟨e, i⟩ := ei
        rw [h1] at h
        simp only at h
        obtain ⟨hu, hi⟩ := sliceTy_ok hT h1
        split at h
        · rename_i k n hk hn
          split at h
          · rename_i hlt
            obtain ⟨j, rfl⟩ := intOf_eq hk
            have hlt' : k < n := Nat.lt_of_lt_of_le (Nat.lt_succ_self k) (Nat.le_of_ble_eq_true hlt)
            exact OpV.R (OpV_indexAddr ho hx hy hn (by simpa using h) ⟨by omega, by omega⟩)
          · cases h
        · cases h

omit hT in
theorem s_extract {x : Operand} {k : Nat} (ho : o.op = .extract x k) (h : evExtract k (E.ev x) = some p) : OpR T.P o E s p s := by
  cases hx : E.ev x with
  | none => rw [hx] at h; cases h
  | some q =>
    rw [hx] at h
    cases q with
    | tup ps => exact OpV.R (OpV_extract ho hx h)
    | _ => cases h

omit hT in
theorem s_pick {c a b : Operand} (ho : o.op = .pick c a b) (h : evPick E c a b = some p) : OpR T.P o E s p s := by
  unfold evPick at h
  split at h
  · rename_i t hc
    cases t with
    | true => exact OpV.R (OpV_pick_t ho hc rfl h)
    | false => exact OpV.R (OpV_pick_f ho hc rfl h)
  · cases h

end
end Go.Ev

/- For the evaluator of closed calls. What it says of one operation is so: numbers, strings, slices. -/
namespace Go.Ev
open Go.RowKit

theorem ikN_inj {j k : IntKind} (h : Nat.beq (ikN j) (ikN k) = true) : j = k := by
  have := Nat.eq_of_beq_eq_true h
  cases j <;> cases k <;> first | rfl | (simp [ikN] at this)

theorem intEq_eq (a b : Int) : intEq a b = decide (a = b) := by
  cases a with
  | ofNat x => cases b with
    | ofNat y =>
      simp only [intEq]
      cases h : Nat.beq x y with
      | true => have := Nat.eq_of_beq_eq_true h; simp [this]
      | false => have := Nat.ne_of_beq_eq_false h; simp; omega
    | negSucc y => simp [intEq]
  | negSucc x => cases b with
    | ofNat y => simp [intEq]
    | negSucc y =>
      simp only [intEq]
      cases h : Nat.beq x y with
      | true => have := Nat.eq_of_beq_eq_true h; simp [this]
      | false => have := Nat.ne_of_beq_eq_false h; simp; omega

theorem blt_eq (x y : Nat) : Nat.blt x y = decide (x < y) := by
  cases h : Nat.blt x y with
  | true => have : x < y := Nat.lt_of_lt_of_le (Nat.lt_succ_self x) (Nat.le_of_ble_eq_true h); simp [this]
  | false =>
    have : ¬ x < y := fun hlt => by
      have : Nat.blt x y = true := Nat.ble_eq_true_of_le hlt
      rw [h] at this; cases this
    simp [this]

theorem intLt_eq (a b : Int) : intLt a b = decide (a < b) := by
  cases a with
  | ofNat x => cases b with
    | ofNat y => simp [intLt, blt_eq]
    | negSucc y =>
      simp only [intLt]
      have : ¬ ((x : Int) < Int.negSucc y) := by omega
      exact (decide_eq_false this).symm
  | negSucc x => cases b with
    | ofNat y =>
      simp only [intLt]
      have : Int.negSucc x < (y : Int) := by omega
      exact (decide_eq_true this).symm
    | negSucc y =>
      simp only [intLt, blt_eq]
      by_cases h : y < x
      · have : Int.negSucc x < Int.negSucc y := by omega
        simp [h, this]
      · have : ¬ Int.negSucc x < Int.negSucc y := by omega
        simp [h, this]

theorem not_lt_dec (a b : Int) : decide (a ≤ b) = !decide (b < a) := by
  by_cases h : a ≤ b
  · have : ¬ b < a := by omega
    simp [h, this]
  · have : b < a := by omega
    simp [h, this]

section
variable {P : Program} {T : Tab} {o : Oper} {E : Env} {s s' : St} {p : PV} {H : Heap}

theorem v_int {op : BinOp} {t ty : TypeId} {x y : Operand} {k : IntKind} {a b : Int} (ho : o.op = .binOp op t x y ty) (hx : E.ev x = some (.v (.int k a))) (hy : E.ev y = some (.v (.int k b))) (h : evInt op k a b = some p) : OpV P o E H p := by
  unfold evInt vb at h
  cases op with
  | eql => cases h; exact OpV_cmp ho hx hy (by rw [intEq_eq])
  | neq => cases h; exact OpV_cmp ho hx hy (by rw [intEq_eq])
  | lss => cases h; exact OpV_cmp ho hx hy (by rw [intLt_eq])
  | leq => cases h; exact OpV_cmp ho hx hy (by rw [intLt_eq, ← not_lt_dec])
  | gtr => cases h; exact OpV_cmp ho hx hy (by rw [intLt_eq])
  | geq => cases h; exact OpV_cmp ho hx hy (by rw [intLt_eq, ← not_lt_dec])
  | add =>
    simp only at h
    split at h
    · split at h
      · rename_i hle
        cases h
        have hle := Nat.le_of_ble_eq_true hle
        exact OpV_add ho hx hy ⟨by simp; omega, by simp; omega⟩
      · cases h
    · cases h
  | sub =>
    simp only at h
    split at h
    · rename_i x' y'
      split at h
      · rename_i hle
        simp only [Bool.and_eq_true] at hle
        have h1 := Nat.le_of_ble_eq_true hle.1
        have h2 := Nat.le_of_ble_eq_true hle.2
        cases h
        have e : (Int.ofNat x' - Int.ofNat y' : Int) = Int.ofNat (x' - y') := by simp; omega
        rw [← e]
        exact OpV_sub ho hx hy ⟨by simp; omega, by simp; omega⟩
      · cases h
    · cases h
  | _ => cases h

theorem v_pureBin {op : BinOp} {t ty : TypeId} {x y : Operand} {px py : PV} {vx vy : Value} (ho : o.op = .binOp op t x y ty) (hx : E.ev x = some px) (hy : E.ev y = some py) (hvx : toV px = some vx) (hvy : toV py = some vy)
    (h : pureBin T op t x y vx vy = some p) : OpV T.P o E H p := by
  unfold pureBin at h
  split at h
  · rename_i r hr
    obtain ⟨rfl, hn⟩ := vOf_eq h
    exact OpV_bin ho hx hy hvx hvy (fun w => semPure_run _ _ hr w) hn
  · cases h

/-- A slice that is nil, or not. -/
theorem isNil_rep {m : Mp} {w : World} {q : PV} {v : Value} {b : Bool} (hr : Rep m w q v) (h : isNilS q = some b) : (v = .slice none 0 0 ∧ b = true) ∨ (b = false ∧ ∃ a n c, v = .slice (some a) n c) := by
  cases hr with
  | v _ hv =>
    cases v with
    | slice a n c => cases a with
      | none => cases n with
        | zero => cases c with
          | zero => simp only [isNilS, Option.some.injEq] at h; subst h; exact .inl ⟨rfl, rfl⟩
          | succ c => cases h
        | succ n => cases h
      | some a => cases h
    | _ => cases h
  | @sl id off len sz b d lim cap hm h1 h2 h3 =>
    cases len with
    | zero => cases h
    | succ len => simp only [isNilS, Option.some.injEq] at h; subst h; exact .inr ⟨rfl, _, _, _, rfl⟩
  | sl0 a => cases h
  | sx hm h2 h3 => simp only [isNilS, Option.some.injEq] at h; subst h; exact .inr ⟨rfl, _, _, _, rfl⟩
  | sx0 a => simp only [isNilS, Option.some.injEq] at h; subst h; exact .inr ⟨rfl, _, _, _, rfl⟩
  | _ => cases h

theorem run_sliceNilIn {P : Program} {t e : TypeId} (hu : P.underlying t = some (.slice e)) (w : World) (d : Nat) (a : Option Addr) (n c : Nat) : (Op.equalIn (d + 1) t (.slice a n c) (.slice none 0 0)).run P w = .ok a.isNone w := by
  cases a <;> simp [Op.equalIn, run_underlying hu]

theorem run_sliceNil {P : Program} {t e : TypeId} (hu : P.underlying t = some (.slice e)) (w : World) (a : Option Addr) (n c : Nat) : (Op.equal t (.slice a n c) (.slice none 0 0)).run P w = .ok a.isNone w :=
  run_sliceNilIn hu w 9999 a n c

theorem v_nilBin (hT : T.Ok) {op : BinOp} {t ty : TypeId} {x y : Operand} {px py : PV} (ho : o.op = .binOp op t x y ty) (hx : E.ev x = some px) (hy : E.ev y = some py) (h : nilBin T op t px py = some p) : OpV T.P o E H p := by
  unfold nilBin at h
  cases h1 : T.ti t with
  | none => rw [h1] at h; cases h
  | some i =>
    rw [h1] at h
    simp only at h
    have hu := (ti_u hT h1).u
    split at h
    · rename_i e hd
      rw [hd] at hu
      split at h
      · rename_i a ha hb
        intro m w ρ _ hρ
        have r1 := isNil_rep (hρ x px hx) ha
        have r2 := isNil_rep (hρ y py hy) hb
        have ey : ρ y = .slice none 0 0 := by
          rcases r2 with ⟨h', _⟩ | ⟨h', _⟩
          · exact h'
          · cases h'
        have ex : ∃ q n c, ρ x = .slice q n c ∧ q.isNone = a := by
          rcases r1 with ⟨h', rfl⟩ | ⟨rfl, q, n, c, h'⟩
          · exact ⟨_, _, _, h', rfl⟩
          · exact ⟨_, _, _, h', rfl⟩
        obtain ⟨q, n, c, ex, rfl⟩ := ex
        have hg : ∀ (o' : BinOp), (eqGuard o' t x y (.slice q n c) (.slice none 0 0)).run T.P w = .ok () w := fun o' => by
          cases o' <;> rfl
        unfold vb at h
        cases op with
        | eql =>
          cases h
          refine ⟨_, ?_, .v _ rfl⟩
          simp only [execOp, ho, ex, ey, Sem.run_bind, hg, Result.andThen_ok]
          simp [binOp, run_sliceNil hu]
        | neq =>
          cases h
          refine ⟨_, ?_, .v _ rfl⟩
          simp only [execOp, ho, ex, ey, Sem.run_bind, hg, Result.andThen_ok]
          simp [binOp, run_sliceNil hu]
        | _ => cases h
      · cases h
    · cases h

theorem s_bin (hT : T.Ok) {op : BinOp} {t ty : TypeId} {x y : Operand} (ho : o.op = .binOp op t x y ty) (h : evBin2 T op t x y (E.ev x) (E.ev y) = some p) : OpR T.P o E s p s := by
  cases hx : E.ev x with
  | none => rw [hx] at h; cases h
  | some px =>
    cases hy : E.ev y with
    | none => rw [hx, hy] at h; cases h
    | some py =>
      rw [hx, hy] at h
      simp only [evBin2] at h
      refine OpV.R ?_
      have slow : slowBin T op t x y px py = some p → OpV T.P o E s.H.list p := fun h => by
        unfold slowBin at h
        split at h
        · rename_i vx vy h1 h2
          exact v_pureBin ho hx hy h1 h2 h
        · exact v_nilBin hT ho hx hy h
      unfold evBin at h
      split at h
      · split at h
        · rename_i hk
          have hk := ikN_inj hk
          subst hk
          split at h
          · rename_i h1
            cases h
            exact v_int ho hx hy h1
          · exact slow h
        · cases h
      · exact slow h

theorem s_un {op : UnOp} {t : TypeId} {x : Operand} (ho : o.op = .unOp op t x) (h : evUn T op (E.ev x) = some p) : OpR T.P o E s p s := by
  cases hx : E.ev x with
  | none => rw [hx] at h; cases h
  | some q =>
    rw [hx] at h
    refine OpV.R ?_
    unfold evUn at h
    split at h
    · rename_i b heq
      cases heq
      split at h
      · cases h; exact OpV_not ho hx
      · cases h
    · rename_i v _ heq
      cases heq
      split at h
      · rename_i r hr
        obtain ⟨rfl, hn⟩ := vOf_eq h
        intro m w ρ _ hρ
        refine ⟨r, ?_, .v r hn⟩
        have := rep_v (hρ x _ hx)
        simp [execOp, ho, this, semPure_run _ _ hr w]
      · cases h
    · cases h

theorem s_conv {a b : TypeId} {x : Operand} (ho : o.op = .convert a b x) (h : evConv T a b (E.ev x) = some p) : OpR T.P o E s p s := by
  cases hx : E.ev x with
  | none => rw [hx] at h; cases h
  | some q =>
    rw [hx] at h
    refine OpV.R ?_
    unfold evConv at h
    split at h
    · rename_i v heq
      cases heq
      split at h
      · rename_i r hr
        obtain ⟨rfl, hn⟩ := vOf_eq h
        intro m w ρ _ hρ
        refine ⟨r, ?_, .v r hn⟩
        have := rep_v (hρ x _ hx)
        simp [execOp, ho, this, semPure_run _ _ hr w]
      · cases h
    · cases h

theorem s_idx (hT : T.Ok) {t : TypeId} {x y : Operand} (ho : o.op = .index t x y) (h : evIdx T t (E.ev x) (E.ev y) = some p) : OpR T.P o E s p s := by
  cases hx : E.ev x with
  | none => rw [hx] at h; cases h
  | some px =>
    cases hy : E.ev y with
    | none => rw [hx, hy] at h; unfold evIdx at h; split at h <;> first | (rename_i h1 h2; cases h2) | cases h
    | some py =>
      rw [hx, hy] at h
      refine OpV.R ?_
      unfold evIdx at h
      split at h
      · rename_i b q heq heq2
        cases heq; cases heq2
        split at h
        · rename_i k i hk hi
          split at h
          · rename_i c hd hc
            cases h
            have hu := (ti_u hT hi).u
            rw [hd] at hu
            obtain ⟨j, rfl⟩ := intOf_eq hk
            intro m w ρ _ hρ
            refine ⟨_, ?_, .v _ rfl⟩
            have e1 := rep_v (hρ x _ hx)
            have e2 := rep_v (hρ y _ hy)
            have h0 : (0 : Int) ≤ (k : Int) := by omega
            simp [execOp, ho, e1, e2, Instr.index, asIntOf, run_underlying hu, h0, hc]
          · cases h
        · cases h
      · cases h

end
end Go.Ev

/- For the evaluator of closed calls. What it says of one operation is so: slices. -/
namespace Go.Ev
open Go.RowKit

theorem run_sliceBound {P : Program} {w : World} (k : IntKind) (i y : Nat) (c : BoundsCode) (h : i ≤ y) : (Instr.sliceBound (.int k (i : Int)) y c).run P w = .ok i w := by
  have h1 : (0 : Int) ≤ (i : Int) ∧ (i : Int) ≤ (y : Int) := ⟨by omega, by omega⟩
  simp [Instr.sliceBound, asIntOf, h1]

theorem optNat_eq {E : Env} {x : Option Operand} {r : Option Nat} (h : optNat E x = some r) : (x = none ∧ r = none) ∨ ∃ y k j, x = some y ∧ r = some k ∧ E.ev y = some (.v (.int j (k : Int))) := by
  cases x with
  | none => simp only [optNat, Option.some.injEq] at h; exact .inl ⟨rfl, h.symm⟩
  | some y =>
    simp only [optNat] at h
    cases hy : E.ev y with
    | none => rw [hy] at h; cases h
    | some p =>
      rw [hy] at h
      simp only at h
      cases hk : intOf p with
      | none => rw [hk] at h; cases h
      | some k =>
        rw [hk] at h
        simp only [Option.some.injEq] at h
        obtain ⟨j, rfl⟩ := intOf_eq hk
        exact .inr ⟨y, k, j, rfl, h.symm, hy⟩

section
variable {T : Tab} {o : Oper} {E : Env} {s s' : St} {p : PV}

/-- The bounds of a slice expression of two indices. -/
theorem run_bounds {P : Program} {w : World} {m : Mp} {ρ : Operand → Value} (hρ : ∀ x q, E.ev x = some q → Rep m w q (ρ x)) {lo hi : Option Operand} {l h : Option Nat} (hl : optNat E lo = some l) (hh : optNat E hi = some h) (sl : Bool) (n c : Nat)
    (h1 : l.getD 0 ≤ h.getD n) (h2 : h.getD n ≤ n) (h3 : n ≤ c) : (Instr.sliceBounds sl n c (lo.map ρ) (hi.map ρ) none).run P w = .ok (l.getD 0, h.getD n, c) w := by
  unfold Instr.sliceBounds
  rcases optNat_eq hl with ⟨rfl, rfl⟩ | ⟨y, k, j, rfl, rfl, hy⟩
  · rcases optNat_eq hh with ⟨rfl, rfl⟩ | ⟨y', k', j', rfl, rfl, hy'⟩
    · simp
    · have e := rep_v (hρ y' _ hy')
      simp only [Option.getD_some] at h2
      simp [e, run_sliceBound j' k' c _ (by omega)]
  · have e := rep_v (hρ y _ hy)
    simp only [Option.getD_some] at h1
    rcases optNat_eq hh with ⟨rfl, rfl⟩ | ⟨y', k', j', rfl, rfl, hy'⟩
    · simp only [Option.getD_none] at h1
      simp [e, run_sliceBound j k n _ (by omega)]
    · have e' := rep_v (hρ y' _ hy')
      simp only [Option.getD_some] at h1 h2
      simp [e, e', run_sliceBound j k k' _ (by omega), run_sliceBound j' k' c _ (by omega)]

theorem s_slice (hT : T.Ok) {t : TypeId} {x : Operand} {lo hi mx : Option Operand} (ho : o.op = .slice t x lo hi mx) (h : evSliceOp T t (E.ev x) (optNat E lo) (optNat E hi) mx = some p) : OpR T.P o E s p s := by
  refine OpV.R ?_
  unfold evSliceOp at h
  split at h
  · -- a string
    rename_i b l' h' hx hl hh
    unfold evSliceStr at h
    split at h
    · rename_i hc
      simp only [Bool.and_eq_true] at hc
      have h1 := Nat.le_of_ble_eq_true hc.1
      have h2 := Nat.le_of_ble_eq_true hc.2
      split at h
      · rename_i i hi'
        split at h
        · rename_i hd
          cases h
          have hu := (ti_u hT hi').u
          rw [hd] at hu
          intro m w ρ _ hρ
          refine ⟨_, ?_, .v _ rfl⟩
          have ex := rep_v (hρ x _ hx)
          have hb := run_bounds (P := T.P) hρ hl hh false b.size b.size h1 h2 (Nat.le_refl _)
          simp [execOp, ho, ex, Instr.sliceAt, Instr.slice, run_underlying hu, hb]
        · cases h
      · cases h
    · cases h
  · -- a slice
    rename_i q l' h' _ hx hl hh
    split at h
    · rename_i n hn
      unfold evSliceRow at h
      split at h
      · rename_i hc
        simp only [Bool.and_eq_true] at hc
        have h1 := Nat.le_of_ble_eq_true hc.1
        have h2 := Nat.le_of_ble_eq_true hc.2
        split at h
        · rename_i e i hi'
          obtain ⟨hu, hI⟩ := sliceTy_ok hT hi'
          obtain ⟨inf, zv, h3, h4, _⟩ := hI.i
          intro m w ρ hR hρ
          have hp := hρ x q hx
          have key : ∀ (a : Option Addr) (c : Nat), n ≤ c → ρ x = .slice a n c → (execOp ρ o).run T.P w = .ok (.value (.slice (if c = l'.getD 0 then a else a.map (·.add (l'.getD 0 * inf.size))) (h'.getD n - l'.getD 0) (c - l'.getD 0))) w := fun a c hc hv => by
            have hb := run_bounds (P := T.P) hρ hl hh true n c h1 h2 hc
            simp only [execOp, ho, Option.map_none, Instr.sliceAt, Sem.run_bind, run_underlying hu.u, Result.andThen_ok, hv, Instr.slice, hb, run_sizeOf h3, Sem.run_pure]
          have fin : ∀ (id off len sz' b d lim cap : Nat), m.blk id = some (b, d, lim) → n ≤ cap → cap ≤ maxLen → d + off + cap * i.size ≤ lim → ρ x = .slice (some ⟨b, d + off, none⟩) n cap →
              ∃ v, (execOp ρ o).run T.P w = .ok (.value v) w ∧ Rep m w (.sl id (off + l'.getD 0 * i.size) (h'.getD n - l'.getD 0) i.size) v := fun id off len sz' b d lim cap hm a1 a2 a3 hv => by
            refine ⟨_, key _ _ a1 hv, ?_⟩
            by_cases hc : cap = l'.getD 0
            · rw [if_pos hc]
              have : h'.getD n - l'.getD 0 = 0 := by omega
              rw [this, show cap - l'.getD 0 = 0 by omega]
              exact .sl0 _
            · rw [if_neg hc]
              simp only [Option.map_some, Addr.add_mk, h4]
              rw [Nat.add_assoc]
              refine .sl (d := d) (lim := lim) hm (by omega) (by omega) ?_
              have : l'.getD 0 * i.size + (cap - l'.getD 0) * i.size = cap * i.size := by rw [← Nat.add_mul]; congr 1; omega
              omega
          have zero : ∀ a, n = 0 → ρ x = .slice a 0 0 → (execOp ρ o).run T.P w = .ok (.value (.slice a 0 0)) w ∧ h'.getD n - l'.getD 0 = 0 := fun a hn0 hv => by
            subst hn0
            have e1 : l'.getD 0 = 0 := by omega
            have e2 : h'.getD 0 = 0 := by omega
            have := key a 0 (Nat.le_refl _) hv
            rw [e1, e2] at this
            simp only [if_true, Nat.sub_zero] at this
            exact ⟨this, by omega⟩
          generalize hv : ρ x = v at hp
          cases hp with
          | v _ _ =>
            cases v with
            | slice a n' c' => cases a with
              | none => cases n' with
                | zero => cases c' with
                  | zero =>
                    simp only [lenA, Option.some.injEq] at hn
                    simp only [evSlice, Option.some.injEq] at h
                    subst h
                    exact ⟨_, (zero none hn.symm hv).1, .v _ rfl⟩
                  | succ c' => simp [evSlice] at h
                | succ n' => simp [evSlice] at h
              | some a => simp [evSlice] at h
            | _ => simp [evSlice] at h
          | @sl id off len sz' b d lim cap hm a1 a2 a3 =>
            simp only [lenA, Option.some.injEq] at hn
            subst hn
            simp only [evSlice] at h
            split at h
            · rename_i hb
              have hb := Nat.eq_of_beq_eq_true hb
              subst hb
              cases h
              exact fin id off len i.size b d lim cap hm a1 a2 a3 hv
            · cases h
          | @sx id off len sz' b d lim hm a2 a3 =>
            simp only [lenA, Option.some.injEq] at hn
            subst hn
            simp only [evSlice] at h
            split at h
            · rename_i hb
              have hb := Nat.eq_of_beq_eq_true hb
              subst hb
              cases h
              exact fin id off len i.size b d lim len hm (Nat.le_refl _) a2 a3 hv
            · cases h
          | sl0 a =>
            simp only [lenA, Option.some.injEq] at hn
            simp only [evSlice] at h
            split at h
            · cases h
              obtain ⟨z1, z2⟩ := zero a hn.symm hv
              exact ⟨_, z1, by rw [z2]; exact .sl0 _⟩
            · cases h
          | sx0 a =>
            simp only [lenA, Option.some.injEq] at hn
            simp only [evSlice] at h
            split at h
            · cases h
              obtain ⟨z1, z2⟩ := zero (some a) hn.symm hv
              exact ⟨_, z1, by rw [z2]; exact .sl0 _⟩
            · cases h
          | _ => simp [evSlice] at h
        · cases h
      · cases h
    · cases h
  · cases h

end
end Go.Ev

/- For the evaluator of closed calls. What it says of one operation is so: append, len, cap, clear. -/
namespace Go.Ev
open Go.RowKit

theorem truncP_ok {m : Mp} {s : St} {w : World} (h : RX m s w) (sz : Nat) (p : PV) : RX m (truncP s sz p) w := by
  unfold truncP
  split
  · split
    · rename_i id len _ _ B hB
      split
      · refine ⟨?_, h.rk, h.kx, h.dom, h.obj, h.inj⟩
        show R (plus m) (s.H.set id (some { B with cells := B.cells.take (len * sz) })).list w
        rw [HP.list_set]
        exact h.r.trunc (HP.get_some hB) _
      · exact h
    · exact h
  · exact h

theorem okSl_rep {m : Mp} {w : World} {p : PV} {v : Value} (hr : Rep m w p v) (h : okSl p = true) : ∃ a n c, v = .slice a n c ∧ n ≤ c := by
  cases hr with
  | v _ hv =>
    cases v with
    | slice a n c => cases a with
      | none => cases n with
        | zero => exact ⟨_, _, _, rfl, Nat.zero_le _⟩
        | succ n => simp [okSl] at h
      | some a => simp [okSl] at h
    | _ => simp [okSl] at h
  | sl hm h1 h2 h3 => exact ⟨_, _, _, rfl, h1⟩
  | sl0 a => exact ⟨_, _, _, rfl, Nat.le_refl _⟩
  | sx hm h2 h3 => exact ⟨_, _, _, rfl, Nat.le_refl _⟩
  | sx0 a => exact ⟨_, _, _, rfl, Nat.le_refl _⟩
  | _ => simp [okSl] at h

section
variable {P : Program} {H : Heap} {T : Tab} {o : Oper} {E : Env} {s s' : St} {p : PV} {t e : TypeId} {sz bytes : Nat} {z : List Value}

/-- Append to a slice that has no room. -/
theorem OpW_appendX [hu : HasU P t (.slice e)] [hi : HasI P e sz bytes z] {x y : Operand} {q : PV} {id off len sz' k n : Nat} {xs old : List PV} (ho : o.op = .call { callee := .builtin .append, args := #[x, y], argTypes := #[t, t] })
    (hx : E.ev x = some (.sx id off len sz')) (hy : E.ev y = some q) (hzl : Nat.beq z.length sz = true) (hq : sliceCells H sz q = some (k, xs)) (hp : sliceCells H sz (.sx id off len sz') = some (n, old)) (h1 : (old ++ xs).all pvOne = true) (hk : 0 < k)
    (hb : (n + k) * bytes ≤ 140737488355328) (h63 : n + k ≤ 9223372036854775807) : OpW P o E H (.sl H.length 0 (n + k) sz) (H ++ [some ⟨old ++ xs, e, true⟩]) := fun m w ρ hR hρ => by
  obtain ⟨i, zv, h3, hsz, hby, h4, h5⟩ := hi.i
  subst hsz; subst hby
  have hzs : zv.cells.size = i.size := by have := Nat.eq_of_beq_eq_true hzl; rw [← h5] at this; simpa using this
  obtain ⟨ay, cy, ey, hlx, hxs⟩ := sliceCells_rep hR (hρ y q hy) hq
  obtain ⟨ax, cx, ex, hlo, hos⟩ := sliceCells_rep hR (hρ x _ hx) hp
  obtain ⟨by_, oy, us, rfl, hus, husc⟩ := hxs hk
  have husl : us.length = k * i.size := by rw [hus.1, hlx]
  have hnews : ∀ (j : Nat) (v : Value), us[j]? = some v → w.cell? ((⟨by_, oy, none⟩ : Addr).add j) = some v := fun j v hj => by rw [Addr.add_mk]; exact husc j v hj
  have hcx : cx = n ∧ ∃ a, ax = some a := by
    have := hρ x _ hx
    rw [ex] at this
    cases this with
    | sx hm h2 h3 => exact ⟨rfl, _, rfl⟩
    | sx0 a => exact ⟨rfl, _, rfl⟩
  obtain ⟨rfl, a, rfl⟩ := hcx
  have hold : ∃ vs, CR m w old vs ∧ ∀ (j : Nat) (v : Value), vs[j]? = some v → w.cell? (a.add j) = some v := by
    rcases Nat.eq_zero_or_pos cx with h0 | hpos
    · subst h0
      have : old = [] := List.eq_nil_of_length_eq_zero (by simpa using hlo)
      subst this
      exact ⟨[], ⟨rfl, fun j c hj => by simp at hj⟩, fun j v hj => by simp at hj⟩
    · obtain ⟨b, o', vs, e1, e2, e3⟩ := hos hpos
      cases e1
      exact ⟨vs, e2, fun j v hj => by rw [Addr.add_mk]; exact e3 j v hj⟩
  obtain ⟨vs, hvs, hvc⟩ := hold
  have hvl : vs.length = cx * i.size := by rw [hvs.1, hlo]
  have hmaxn : cx + k ≤ maxLen := by simp only [maxLen]; omega
  have hg := run_append_grow (P := P) w t o.type e i zv hu.u h3 h4 a cx cx vs hvl hvc ⟨by_, oy, none⟩ k cy us husl hnews (by omega) (by omega) (growslice_fits (by omega) hb)
  have hcap := grownCap_ge w (cx + k) cx e
  have hcm := grownCap_le_maxLen w (cx + k) cx e hmaxn
  have happ := CR_app hvs hus
  obtain ⟨m', g1, g2, g3⟩ := grown_R (sz := i.size) (rest := (Builtin.zeroCells zv.cells (grownCap w (cx + k) cx e - (cx + k))).toList) hR happ h1 e hcap hcm (by
    rw [List.length_append, hvl, husl, Array.length_toList, size_zeroCells, hzs, ← Nat.add_mul, ← Nat.add_mul]; congr 1; omega)
  have harr : (vs ++ us ++ (Builtin.zeroCells zv.cells (grownCap w (cx + k) cx e - (cx + k))).toList).toArray = vs.toArray ++ us.toArray ++ Builtin.zeroCells zv.cells (grownCap w (cx + k) cx e - (cx + k)) := by
    apply Array.ext'; simp
  rw [harr] at g1 g2 g3
  refine ⟨_, m', _, ?_, g1, g2, g3⟩
  simp [execOp, ho, resolve, invoke, builtin, ey, ex, hg]

theorem appP_eq {G G' : HP Blk} {k : Nat} {xs : List PV} {r q : PV} (h : appP G e sz q k xs = some (r, G')) : ∃ n, lenA q = some n ∧ appendA G.list e sz q k xs = some (n + k, r, G'.list) := by
  unfold appP at h
  split at h
  · cases h
    refine ⟨0, rfl, ?_⟩
    simp only [appendA, HP.list_push, HP.list_length, Nat.zero_add]
  · rename_i id len sz'
    split at h
    · rename_i hb
      split at h
      · rename_i B hB
        split at h
        · rename_i hc
          cases h
          refine ⟨len, rfl, ?_⟩
          simp only [appendA, hb, HP.get_some hB, hc, HP.list_push, HP.list_set, HP.list_length]
        · cases h
      · cases h
    · cases h
  · cases h

theorem s_append (hT : T.Ok) {x y : Operand} {q r : PV} (ho : o.op = .call { callee := .builtin .append, args := #[x, y], argTypes := #[t, t] }) (hx : E.ev x = some q) (hy : E.ev y = some r) (h : evAppend T t q r s = some (p, s')) : OpR T.P o E s p s' := by
  unfold evAppend at h
  split at h
  · cases h
  · rename_i e i hi
    obtain ⟨hu, hI⟩ := sliceTy_ok hT hi
    have key : OpR T.P o E (truncP s i.size q) p s' := by
      generalize truncP s i.size q = s1 at h
      unfold evAppend1 at h
      split at h
      · cases h
      · rename_i k xs hq
        have hq := slcP_eq hq
        split at h
        · -- nothing is appended
          split at h
          · rename_i hok
            cases h
            intro m w ρ hR hρ
            obtain ⟨a, n, c, e1, hn⟩ := okSl_rep (hρ x _ hx) hok
            obtain ⟨ay, cy, ey, _, _⟩ := sliceCells_rep hR.r (hρ y r hy).plus hq
            obtain ⟨inf, zv, h3, _⟩ := hI.i
            refine ⟨_, m, w, .inl ?_, Lx.refl m w, hR, hρ x _ hx⟩
            have := run_append_zero (P := T.P) (w := w) hu.u h3 a n c hn ay cy o.type
            simp [execOp, ho, resolve, invoke, builtin, ey, e1, this]
          · cases h
        · rename_i _ k
          split at h
          · cases h
          · rename_i len hlen
            split at h
            · cases h
            · rename_i hc
              simp only [Bool.and_eq_true] at hc
              obtain ⟨⟨⟨c1, c2⟩, c3⟩, c4⟩ := hc
              have c3 := Nat.le_of_ble_eq_true c3
              have c4 := Nat.le_of_ble_eq_true c4
              unfold evAppend2 at h
              split at h
              · rename_i id off len' sz'
                split at h
                · cases h
                · rename_i n old hold
                  unfold newB at h
                  split at h
                  · cases h
                  · rename_i s2 hs2
                    split at hs2
                    · rename_i hall
                      cases hs2; cases h
                      have hold := slcP_eq hold
                      have hn : n = len := by
                        simp only [lenA, Option.some.injEq] at hlen
                        subst hlen
                        simp only [sliceCells] at hold
                        split at hold
                        · split at hold
                          · split at hold
                            · cases hold; rfl
                            · cases hold
                          · cases hold
                        · cases hold
                      subst hn
                      refine OpW.R ?_
                      rw [HP.list_push, ← HP.list_length]
                      exact OpW_appendX ho hx hy c2 hq hold hall (Nat.succ_pos _) c3 c4
                    · cases hs2
              · split at h
                · rename_i r' H' ha
                  cases h
                  obtain ⟨n, hn, ha'⟩ := appP_eq ha
                  rw [hlen] at hn; cases hn
                  exact OpW.R (OpW_append ho hx hy c2 hq c1 ha' c3 c4)
                · cases h
    intro m w ρ hR hρ
    exact key m w ρ (truncP_ok hR i.size q) hρ

end
end Go.Ev

/- For the evaluator of closed calls. What it says of one operation is so: len, cap, clear, append of zeros, maps. -/
namespace Go.Ev
open Go.RowKit

section
variable {P : Program} {H : Heap} {T : Tab} {o : Oper} {E : Env} {s s' : St} {p : PV} {t u e : TypeId} {sz bytes : Nat} {z : List Value}

theorem s_len (hT : T.Ok) {x : Operand} {q : PV} {n : Nat} (ho : o.op = .call { callee := .builtin .len, args := #[x], argTypes := #[t] }) (hx : E.ev x = some q) (h : evLen T t q = some n) : OpR T.P o E s (.v (.int .i64 (.ofNat n))) s := by
  refine OpV.R ?_
  unfold evLen at h
  split at h
  · rename_i b
    split at h
    · rename_i i hi
      split at h
      · rename_i hd
        cases h
        have hu := (ti_u hT hi).u
        rw [hd] at hu
        intro m w ρ _ hρ
        have e1 := rep_v (hρ x _ hx)
        refine ⟨_, ?_, .v _ rfl⟩
        simp [execOp, ho, resolve, invoke, builtin, e1, Builtin.len_, run_underlying hu, goInt]
      · cases h
    · cases h
  · unfold isSliceT at h
    split at h
    · rename_i hs
      split at hs
      · rename_i ei hei
        obtain ⟨e, i⟩ := ei
        obtain ⟨hu, hI⟩ := sliceTy_ok hT hei
        exact OpV_len ho hx h
      · cases hs
    · cases h

theorem s_cap (hT : T.Ok) {x : Operand} {q : PV} {n : Nat} (ho : o.op = .call { callee := .builtin .cap, args := #[x], argTypes := #[t] }) (hx : E.ev x = some q) (h : evCap T t q = some n) : OpR T.P o E s (.v (.int .i64 (.ofNat n))) s := by
  refine OpV.R ?_
  unfold evCap isSliceT at h
  split at h
  · rename_i hs
    split at hs
    · rename_i ei hei
      obtain ⟨e, i⟩ := ei
      obtain ⟨hu, hI⟩ := sliceTy_ok hT hei
      intro m w ρ _ hρ
      have hr := hρ x _ hx
      have key : ∃ a l, ρ x = .slice a l n := by
        generalize ρ x = v at hr
        unfold capV at h
        split at h
        · cases h; exact ⟨_, _, rep_v hr⟩
        · cases h
          cases hr with
          | sx hm h2 h3 => exact ⟨_, _, rfl⟩
          | sx0 a => exact ⟨_, _, rfl⟩
        · cases h
      obtain ⟨a, l, e1⟩ := key
      refine ⟨_, ?_, .v _ rfl⟩
      simp [execOp, ho, resolve, invoke, builtin, e1, Builtin.cap_, run_underlying hu.u, goInt]
    · cases hs
  · cases h

/-- Zero cells, many times over. -/
theorem CR_zeros {m : Mp} {w : World} {z : List Value} {zv : Value} (hz : z.all (fun x => x.oneCell') = true) (h5 : zv.cells.toList = z) (n : Nat) :
    CR m w (zerosOf z n) (Builtin.zeroCells zv.cells n).toList := by
  have hzl : z.length = zv.cells.size := by rw [← h5]; simp
  unfold zerosOf Builtin.zeroCells
  refine ⟨by simp [hzl], fun j c hj => ?_⟩
  rw [List.getElem?_map] at hj
  rcases Nat.lt_or_ge j (n * z.length) with hlt | hge
  · rw [List.getElem?_range hlt] at hj
    simp only [Option.map_some, Option.some.injEq] at hj
    subst hj
    have hpos : 0 < zv.cells.size := by
      rcases Nat.eq_zero_or_pos zv.cells.size with h0 | h0
      · rw [hzl, h0] at hlt; simp at hlt
      · exact h0
    have hm : j % zv.cells.size < zv.cells.size := Nat.mod_lt _ hpos
    have hget : z.getD (j % z.length) undef = zv.cells[j % zv.cells.size] := by
      rw [hzl]
      simp only [← h5, List.getD_eq_getElem?_getD, Array.getElem?_toList]
      rw [Array.getElem?_eq_getElem hm]; rfl
    refine ⟨zv.cells[j % zv.cells.size], ?_, ?_⟩
    · rw [hzl] at hlt
      simp [hlt, hm]
    · rw [hget]
      have : (zv.cells[j % zv.cells.size]).oneCell' = true := by
        rw [← h5] at hz
        exact List.all_eq_true.1 hz _ (by simp)
      exact .v _ (by revert this; generalize zv.cells[j % zv.cells.size] = y; intro this; cases y <;> first | rfl | (simp [Value.oneCell'] at this))
  · rw [List.getElem?_eq_none (by simpa using hge)] at hj; cases hj

theorem zerosOf_one {z : List Value} (hz : z.all (fun x => x.oneCell') = true) (n : Nat) : (zerosOf z n).all pvOne = true := by
  unfold zerosOf
  refine List.all_eq_true.2 fun c hc => ?_
  obtain ⟨j, hj, rfl⟩ := List.mem_map.1 hc
  have hlt : j < n * z.length := List.mem_range.1 hj
  have hpos : 0 < z.length := by
    rcases Nat.eq_zero_or_pos z.length with h0 | h0
    · rw [h0] at hlt; simp at hlt
    · exact h0
  have hm : j % z.length < z.length := Nat.mod_lt _ hpos
  simp only [pvOne, List.getD_eq_getElem?_getD, List.getElem?_eq_getElem hm, Option.getD_some]
  exact List.all_eq_true.1 hz _ (List.getElem_mem hm)

theorem run_append_zeros {w : World} {i : TypeInfo} {zv : Value} {j ju : IntKind} {k : Nat} (ht : P.underlying t = some (.slice e)) (hu : P.underlying u = some (.int ju)) (hi : P.info? e = some i) (hz : i.zero = some zv) (ty : TypeId)
    (hk : 0 < k) (hk2 : k ≤ 1048576) (hs : 0 < i.size) (hb : k * i.bytes ≤ 16777216) :
    (Builtin.append_ #[t, u] ty #[.slice none 0 0, .int j (k : Int)]).run P w =
      .ok (.slice (some ⟨w.heap.size, 0, none⟩) k (grownCap w k 0 e)) (w.drew.alloc (.cells (Builtin.zeroCells zv.cells k ++ Builtin.zeroCells zv.cells (grownCap w k 0 e - k)) e)) := by
  have hw : IntKind.i64.wrap (k : Int) = (k : Int) := by rw [IntKind.wrap_i64]; omega
  have h1 : ¬ ((k : Int) < 0) := by omega
  have h2 : ¬ (281474976710656 < (k : Int) * (i.bytes : Int)) := by
    have : (k : Int) * (i.bytes : Int) = ((k * i.bytes : Nat) : Int) := by simp
    rw [this]; omega
  have h4 : ¬ (281474976710656 < Builtin.nextslicecap k 0 * i.bytes) := by rw [nextslicecap_zero hk]; omega
  have h5 : ¬ (9223372036854775807 < (k : Int)) := by omega
  have h6 : ¬ (k * i.size = 0) := by
    have : 0 < k * i.size := Nat.mul_pos hk hs
    omega
  have hk0 : k ≠ 0 := by omega
  simp [Builtin.append_, run_underlying ht, run_underlying hu, sizeOf, typeInfo, zeroValue, hi, hz, asInt, asIntOf, hw, h1, h2, h4, h5, h6, hk0, Question.forced, run_firstCells_none, newRow, grownCap]

theorem OpW_appendZ [hu : HasU P t (.slice e)] [hi : HasI P e sz bytes z] {x y : Operand} {ju j : IntKind} {k : Nat} (hj : P.underlying u = some (.int ju)) (ho : o.op = .call { callee := .builtin .append, args := #[x, y], argTypes := #[t, u] })
    (hx : E.ev x = some (.v (.slice none 0 0))) (hy : E.ev y = some (.v (.int j (k : Int)))) (hz : z.all (fun x => x.oneCell') = true) (hzl : Nat.beq z.length sz = true) (hk : 0 < k) (hk2 : k ≤ 1048576) (hs : 0 < sz) (hb : k * bytes ≤ 16777216) :
    OpW P o E H (.sl H.length 0 k sz) (H ++ [some ⟨zerosOf z k, e, true⟩]) := fun m w ρ hR hρ => by
  obtain ⟨i, zv, h3, hsz, hby, h4, h5⟩ := hi.i
  subst hsz; subst hby
  have hzs : zv.cells.size = i.size := by have := Nat.eq_of_beq_eq_true hzl; rw [← h5] at this; simpa using this
  have e1 := rep_v (hρ x _ hx)
  have e2 := rep_v (hρ y _ hy)
  have hrun := run_append_zeros (P := P) (w := w) (j := j) hu.u hj h3 h4 o.type hk hk2 hs hb
  have hcap := grownCap_ge w k 0 e
  have hcm := grownCap_le_maxLen w k 0 e (by simp only [maxLen]; omega)
  have hc := CR_zeros (m := m) (w := w) hz h5 k
  obtain ⟨m', g1, g2, g3⟩ := grown_R (sz := i.size) (rest := (Builtin.zeroCells zv.cells (grownCap w k 0 e - k)).toList) hR hc (zerosOf_one hz k) e hcap hcm (by
    rw [Array.length_toList, Array.length_toList, size_zeroCells, size_zeroCells, hzs, ← Nat.add_mul]; congr 1; omega)
  have harr : ((Builtin.zeroCells zv.cells k).toList ++ (Builtin.zeroCells zv.cells (grownCap w k 0 e - k)).toList).toArray = Builtin.zeroCells zv.cells k ++ Builtin.zeroCells zv.cells (grownCap w k 0 e - k) := by
    apply Array.ext'; simp
  rw [harr] at g1 g2 g3
  refine ⟨_, m', _, ?_, g1, g2, g3⟩
  simp only [execOp, ho, resolve, invoke, builtin, Sem.run_bind, Sem.run_pure, Result.andThen_ok, List.map_toArray, List.map_cons, List.map_nil, e1, e2, hrun]

theorem s_appendZ (hT : T.Ok) {x y : Operand} {q r : PV} {i0 : TI} {ju : IntKind} (hu0 : T.ti u = some i0) (hd0 : i0.desc = .int ju) (ho : o.op = .call { callee := .builtin .append, args := #[x, y], argTypes := #[t, u] }) (hx : E.ev x = some q) (hy : E.ev y = some r) (h : evAppendZ T t q r s = some (p, s')) : OpR T.P o E s p s' := by
  unfold evAppendZ at h
  split at h
  · rename_i e i k hs hk
    obtain ⟨hu, hI⟩ := sliceTy_ok hT hs
    obtain ⟨j, rfl⟩ := intOf_eq hk
    have hj := (ti_u hT hu0).u
    rw [hd0] at hj
    split at h
    · rename_i hc
      simp only [Bool.and_eq_true] at hc
      obtain ⟨⟨⟨⟨c1, c2⟩, c5⟩, c3⟩, c4⟩ := hc
      have c3 := Nat.le_of_ble_eq_true c3
      have c4 := Nat.le_of_ble_eq_true c4
      unfold newB at h
      split at h
      · rename_i s2 hs2
        split at hs2
        · cases hs2; cases h
          refine OpW.R ?_
          rw [HP.list_push, ← HP.list_length]
          exact OpW_appendZ hj ho hx hy c1 c2 (Nat.succ_pos _) c3 (Nat.le_of_ble_eq_true c5) c4
        · cases hs2
      · cases h
    · cases h
  · cases h

end
end Go.Ev

/- For the evaluator of closed calls. What it says of one operation is so: clear, maps, ranges over maps. -/
namespace Go.Ev
open Go.RowKit

/-- Cells are stored into a block of ours. -/
theorem store_cells {P : Program} {m : Mp} {H H' : Heap} {w : World} (hR : R m H w) {id off b d lim : Nat} (hm : m.blk id = some (b, d, lim)) {cs : List PV} {us : List Value} (hq : CR m w cs us) (h1 : cs.all pvOne = true)
    (hs : storeA H (.ptr id off) cs = some H') : ∃ w', (storeCells ⟨b, d + off, none⟩ us).run P w = .ok () w' ∧ Le m w m w' ∧ R m H' w' := by
  simp only [storeA] at hs
  split at hs
  · rename_i B hB
    split at hs
    · rename_i hb
      simp only [Bool.and_eq_true, Nat.ble_eq] at hb
      obtain ⟨hown, hle⟩ := hb
      cases hs
      obtain ⟨rfl, ⟨cur, c1, c2, c3, c4⟩, _, _⟩ := hR.blk id B b d lim hB hm
      have hlen : us.length = cs.length := hq.1
      have one : ∀ (j : Nat) (c : PV), cs[j]? = some c → ∃ v : Value, us[j]? = some v ∧ Rep m w c v ∧ v.oneCell' = true := fun j c hj => by
        obtain ⟨u, hu, hr⟩ := hq.2 j c hj
        exact ⟨u, hu, hr, pvOne_rep hr (List.all_eq_true.1 h1 c (List.mem_of_getElem? hj))⟩
      have h1v : ∀ u ∈ us, u.oneCell' = true := fun u hu => by
        obtain ⟨j, hj⟩ := List.mem_iff_getElem?.1 hu
        have hlt : j < cs.length := by rw [← hlen]; exact (List.getElem?_eq_some_iff.1 hj).1
        obtain ⟨u', hu', hr, h1'⟩ := one j _ (List.getElem?_eq_getElem hlt)
        rw [hj] at hu'; cases hu'; exact h1'
      have hst := run_storeCells_at P b off B.elem us 0 cur w c1 (by omega) h1v
      have hcurl : cur.toList.length = lim := by simpa using c2
      have hrow := setRow_heap w b cur ((cur.toList.take (off + 0) ++ us ++ cur.toList.drop (off + 0 + us.length)).toArray) B.elem (0, 0) c1
      obtain ⟨r1, r2⟩ := hR.rewrite (w' := w.setRow b ((cur.toList.take (off + 0) ++ us ++ cur.toList.drop (off + 0 + us.length)).toArray)) hB hown hm
        (cur' := (cur.toList.take (off + 0) ++ us ++ cur.toList.drop (off + 0 + us.length)).toArray) (cs := setAll B.cells off cs)
        (by simp [World.setRow]) rfl rfl rfl (fun k hk => setRow_other w b k _ hk) hrow
        (by simp only [List.size_toArray, List.length_append, List.length_take, List.length_drop]; omega)
        (by rw [setAll_length]; omega) (fun j c hj => by
          rw [setAll_get _ _ _ _ hle] at hj
          simp only [List.getElem?_toArray, Nat.add_zero]
          by_cases e : off ≤ j ∧ j < off + cs.length
          · rw [if_pos e] at hj
            obtain ⟨u, a1, a2, a3⟩ := one _ c hj
            refine ⟨u, ?_, a2, a3⟩
            rw [List.append_assoc, List.getElem?_append_right (by simp; omega), List.getElem?_append_left (by simp only [List.length_take]; omega)]
            simp only [List.length_take]
            rw [show j - min off cur.toList.length = j - off from by omega]
            exact a1
          · rw [if_neg e] at hj
            obtain ⟨u, a1, a2, a3⟩ := c4 j c hj
            refine ⟨u, ?_, a2, a3⟩
            have a1' : cur.toList[j]? = some u := by simpa using a1
            have hjl : j < B.cells.length := (List.getElem?_eq_some_iff.1 hj).1
            rcases Nat.lt_or_ge j off with hlt | hge
            · rw [List.append_assoc, List.getElem?_append_left (by simp; omega), List.getElem?_take, if_pos hlt]
              exact a1'
            · rw [List.getElem?_append_right (by simp only [List.length_append, List.length_take]; omega), List.getElem?_drop]
              simp only [List.length_append, List.length_take]
              rw [show off + us.length + (j - (min off cur.toList.length + us.length)) = j from by omega]
              exact a1')
      refine ⟨_, ?_, r2, r1⟩
      have hoff : (⟨b, 0 + off, none⟩ : Addr) = ⟨b, off, none⟩ := by simp
      simpa [hoff] using hst
    · cases hs
  · cases hs

section
variable {P : Program} {T : Tab} {o : Oper} {E : Env} {s s' : St} {p : PV} {t u e : TypeId}

theorem rep_nil_tup {m : Mp} {w : World} : Rep m w (.tup []) (.tuple #[]) := .tup #[] rfl (fun j c hj => by simp at hj)

theorem s_clear (hT : T.Ok) {x : Operand} {q : PV} (ho : o.op = .call { callee := .builtin .clear, args := #[x], argTypes := #[t] }) (hx : E.ev x = some q) (h : evClear T t q s = some (p, s')) : OpR T.P o E s p s' := by
  unfold evClear at h
  split at h
  · cases h
  · rename_i e i hi
    obtain ⟨hu, hI⟩ := sliceTy_ok hT hi
    obtain ⟨inf, zv, h3, h4, _, h5, h6⟩ := hI.i
    split at h
    · cases h
    · rename_i id off n hrow
      have hq : ∀ (m : Mp) (w : World) (v : Value), Rep m w q v → (∃ a c, v = .slice a n c) ∧ (0 < n → ∃ b d lim c, m.blk id = some (b, d, lim) ∧ v = .slice (some ⟨b, d + off, none⟩) n c) := fun m w v hr => by
        unfold rowOf at hrow
        split at hrow
        · split at hrow
          · cases hrow
            cases hr with
            | sl hm a1 a2 a3 => exact ⟨⟨_, _, rfl⟩, fun _ => ⟨_, _, _, _, hm, rfl⟩⟩
            | sl0 a => exact ⟨⟨_, _, rfl⟩, fun h0 => by omega⟩
          · cases hrow
        · split at hrow
          · cases hrow
            cases hr with
            | sx hm a2 a3 => exact ⟨⟨_, _, rfl⟩, fun _ => ⟨_, _, _, _, hm, rfl⟩⟩
            | sx0 a => exact ⟨⟨_, _, rfl⟩, fun h0 => by omega⟩
          · cases hrow
        · cases hrow
      split at h
      · cases h
        intro m w ρ hR hρ
        obtain ⟨⟨a, c, e1⟩, _⟩ := hq m w _ (hρ x _ hx)
        refine ⟨_, m, w, .inl ?_, Lx.refl m w, hR, rep_nil_tup⟩
        cases a <;> simp [execOp, ho, resolve, invoke, builtin, e1, Builtin.clear_, run_underlying hu.u]
      · rename_i _ n
        split at h
        · rename_i hc
          simp only [Bool.and_eq_true] at hc
          split at h
          · rename_i H' hs
            cases h
            intro m w ρ hR hρ
            obtain ⟨_, hb⟩ := hq m w _ (hρ x _ hx)
            obtain ⟨b, d, lim, c, hm, e1⟩ := hb (Nat.succ_pos _)
            have hz := CR_zeros (m := plus m) (w := w) hc.1 h6 (n + 1)
            obtain ⟨w', g1, g2, g3⟩ := store_cells (P := T.P) hR.r (m := plus m) hm hz (zerosOf_one hc.1 _) (storeP_eq hs)
            obtain ⟨m', hL, hX, hmm⟩ := hR.op g2 g3
            refine ⟨_, m', w', .inl ?_, hL, hX, rep_nil_tup⟩
            simp [execOp, ho, resolve, invoke, builtin, e1, Builtin.clear_, run_underlying hu.u, zeroValue, typeInfo, h3, h5, g1]
          · cases h
        · cases h

/-! ### Maps -/

theorem s_makeMap (ho : o.op = .makeMap t none) : OpR T.P o E s (.mp s.X.length) { s with X := s.X ++ [.map [] 0] } := fun m w ρ hR hρ => by
  obtain ⟨m', h1, h2, h3⟩ := hR.newX (x := .map [] 0) (o := .map #[] 0) rfl
  refine ⟨_, m', _, .inl ?_, h3, h2, .mp h1⟩
  simp [execOp, ho, Instr.makeMap]

theorem run_getObjX {P : Program} {w : World} {b : Nat} {x : Obj} (h : w.heap[b]? = some x) (hc : x.isCells = false) : (getObj b).run P w = .ok x w := by
  cases x <;> first | (simp [Obj.isCells] at hc; done) | simp [getObj, Sem.run, h]

theorem run_setObjX {P : Program} {w : World} {b : Nat} {x : Obj} (y : Obj) (h : w.heap[b]? = some x) (hc : x.isCells = false) : (setObj b y).run P w = .ok () (w.putObj b y) := by
  cases x <;> first | (simp [Obj.isCells] at hc; done) | simp [setObj, Sem.run, h, World.putObj]

theorem run_checkKey {P : Program} {k : TypeId} {kd : TypeDesc} {kv : Value} (hk : P.underlying k = some kd) (h : okKey kd kv = true) (b : Bool) (w : World) (n : Nat) : (Instr.checkKey b (n + 1) k kv).run P w = .ok () w := by
  unfold okKey at h
  split at h <;> first | (simp [Instr.checkKey, run_underlying hk]; done) | cases h

theorem findNow_eq {kd : TypeDesc} {kv : Value} : ∀ (es : List (Value × Value × Nat)) (i : Nat) (r : Option Nat), findK kv kd es i = some r →
    ∃ q, Instr.findNow kd kv (es.map entryOf) i = some q ∧ q.map (·.1) = r
  | [], i, r, h => by simp only [findK, Option.some.injEq] at h; subst h; exact ⟨none, rfl, rfl⟩
  | e :: es, i, r, h => by
    simp only [findK] at h
    simp only [List.map_cons, Instr.findNow]
    have he : (entryOf e).key = e.1 := rfl
    rw [he]
    split at h
    · rename_i hs
      cases h
      rw [hs]
      exact ⟨_, rfl, rfl⟩
    · rename_i hs
      rw [hs]
      exact findNow_eq es (i + 1) r h
    · cases h

theorem run_findKey {P : Program} {k : TypeId} {kd : TypeDesc} {kv : Value} (hk : P.underlying k = some kd) {es : List (Value × Value × Nat)} {r : Option Nat} (h : findK kv kd es 0 = some r) (w : World) :
    ∃ q, (Instr.findKey k kv (es.map entryOf)).run P w = .ok q w ∧ q.map (·.1) = r := by
  obtain ⟨q, h1, h2⟩ := findNow_eq es 0 r h
  exact ⟨q, by simp [Instr.findKey, run_underlying hk, h1], h2⟩

theorem entries_size (es : List (Value × Value × Nat)) : ((es.map entryOf).toArray).isEmpty = es.isEmpty := by cases es <;> rfl

theorem map_erase {α β : Type} (f : α → β) : ∀ (l : List α) (i : Nat), (l.eraseIdx i).map f = (l.map f).eraseIdx i
  | [], _ => rfl
  | _ :: _, 0 => rfl
  | a :: l, i + 1 => by simp [map_erase f l i]

/-- A map as it lies in the world. -/
theorem map_at {m : Mp} {w : World} (hR : RX m s w) {id : Nat} {es : List (Value × Value × Nat)} {clock : Nat} (hx : s.X[id]? = some (.map es clock)) {v : Value} (hr : Rep m w (.mp id) v) :
    ∃ b, v = .map (some b) ∧ m.xb id = some b ∧ w.heap[b]? = some (.map (es.map entryOf).toArray clock) := by
  cases hr with
  | @mp _ b hb =>
    obtain ⟨b', o', h1, h2, h3⟩ := hR.obj id _ hx
    rw [hb] at h1; cases h1
    simp only [XRep] at h3
    subst h3
    exact ⟨b, rfl, hb, h2⟩

theorem sameScalar_bits {a b : Value} (h : sameScalar a b = true) (n : Nat) : Instr.sameBits n a b = true := by
  unfold sameScalar at h
  split at h <;> first | (cases h; done) | (simpa [Instr.sameBits] using h)

theorem s_update (hT : T.Ok) {x y z : Operand} (ho : o.op = .mapUpdate t x y z) (h : evUpdate2 T t s (E.ev x) (E.ev y) (E.ev z) = some (p, s')) : OpR T.P o E s p s' := by
  unfold evUpdate2 at h
  split at h
  · rename_i qm qk qv hx hy hz
    split at h
    · rename_i s2 hs2
      cases h
      unfold evUpdate at hs2
      split at hs2
      · rename_i kd i id kv vv hmt
        obtain ⟨k, e, hm, hk, hI⟩ := mapTy_ok hT hmt
        split at hs2
        · cases hs2
        · rename_i hc
          simp only [Bool.and_eq_true] at hc
          split at hs2
          · rename_i es clock hX
            intro m w ρ hR hρ
            have e2 := rep_v (hρ y _ hy)
            have e3 := rep_v (hρ z _ hz)
            obtain ⟨b, e1, hb, hh⟩ := map_at hR hX (hρ x _ hx)
            have hg := run_getObjX (P := T.P) hh rfl
            have hck := run_checkKey (P := T.P) hk hc.1 false w 9999
            split at hs2
            · cases hs2
            · rename_i hf
              cases hs2
              obtain ⟨q, g1, g2⟩ := run_findKey (P := T.P) hk hf w
              have hqn : q = none := by cases q <;> simp_all
              subst hqn
              obtain ⟨r1, r2⟩ := hR.setX hX hb (x' := .map (es ++ [(kv, vv, clock)]) (clock + 1)) (o' := .map ((es.map entryOf).toArray.push { key := kv, val := vv, born := clock }) (clock + 1)) (by simp [XRep, entryOf])
              refine ⟨undef, m, _, .inr ⟨?_, rfl⟩, r2, r1, .v _ rfl⟩
              have hso := run_setObjX (P := T.P) (.map ((es.map entryOf).toArray.push { key := kv, val := vv, born := clock }) (clock + 1)) hh rfl
              simp only [execOp, ho, e1, e2, e3, Instr.mapUpdate, Sem.run_bind, run_underlying hm, Result.andThen_ok, hg, hck, g1, hso, Sem.run_pure]
            · rename_i i' hf
              split at hs2
              · rename_i e0 he0
                split at hs2
                · rename_i hsc
                  cases hs2
                  obtain ⟨q, g1, g2⟩ := run_findKey (P := T.P) hk hf w
                  obtain ⟨qv', hq⟩ : ∃ v, q = some (i', v) := by
                    cases q with
                    | none => simp at g2
                    | some q => simp at g2; exact ⟨q.2, by rw [← g2]⟩
                  subst hq
                  have hlt : i' < es.length := (List.getElem?_eq_some_iff.1 he0).1
                  have hent : ((es.map entryOf).toArray[i']?).map (·.key) = some e0.1 := by simp [he0, entryOf]
                  have hmod : (es.map entryOf).toArray.modify i' (fun e => { e with key := kv, val := vv }) = ((es.set i' (kv, vv, e0.2.2)).map entryOf).toArray := by
                    apply Array.ext'
                    apply List.ext_getElem?
                    intro j
                    simp only [Array.getElem?_toList, Array.getElem?_modify, List.getElem?_toArray, List.getElem?_map, List.getElem?_set]
                    by_cases e : i' = j
                    · subst e
                      have he0' : es[i'] = e0 := (List.getElem?_eq_some_iff.1 he0).2
                      simp [hlt, entryOf, he0']
                    · simp [e]
                  obtain ⟨r1, r2⟩ := hR.setX hX hb (x' := .map (es.set i' (kv, vv, e0.2.2)) clock) (o' := .map ((es.set i' (kv, vv, e0.2.2)).map entryOf).toArray clock) rfl
                  refine ⟨undef, m, _, .inr ⟨?_, rfl⟩, r2, r1, .v _ rfl⟩
                  have hso := run_setObjX (P := T.P) (.map ((es.set i' (kv, vv, e0.2.2)).map entryOf).toArray clock) hh rfl
                  have hst : (Instr.keyThatStays e0.1 kv).run T.P w = .ok kv w := by simp [Instr.keyThatStays, sameScalar_bits hsc]
                  simp only [execOp, ho, e1, e2, e3, Instr.mapUpdate, Sem.run_bind, run_underlying hm, Result.andThen_ok, hg, hck, g1, hent, Option.getD_some, hst, hmod, hso, Sem.run_pure]
                · cases hs2
              · cases hs2
          · cases hs2
      · cases hs2
    · cases h
  · cases h

theorem s_delete (hT : T.Ok) {x y : Operand} {qm qk : PV} (ho : o.op = .call { callee := .builtin .delete, args := #[x, y], argTypes := #[t, u] }) (hx : E.ev x = some qm) (hy : E.ev y = some qk) (h : evDelete T t qm qk s = some s') : OpR T.P o E s (.tup []) s' := by
  unfold evDelete at h
  split at h
  · rename_i kd i id kv hmt
    obtain ⟨k, e, hm, hk, hI⟩ := mapTy_ok hT hmt
    split at h
    · cases h
    · rename_i hc
      split at h
      · rename_i es clock hX
        intro m w ρ hR hρ
        have e2 := rep_v (hρ y _ hy)
        obtain ⟨b, e1, hb, hh⟩ := map_at hR hX (hρ x _ hx)
        have hg := run_getObjX (P := T.P) hh rfl
        have hck := run_checkKey (P := T.P) hk hc ((es.map entryOf).toArray.isEmpty) w 9999
        split at h
        · cases h
        · rename_i hf
          cases h
          obtain ⟨q, g1, g2⟩ := run_findKey (P := T.P) hk hf w
          have hqn : q = none := by cases q <;> simp_all
          subst hqn
          obtain ⟨r1, r2⟩ := hR.setX hX hb (x' := .map es clock) (o' := .map (es.map entryOf).toArray clock) rfl
          refine ⟨_, m, _, .inl ?_, r2, r1, rep_nil_tup⟩
          have hso := run_setObjX (P := T.P) (.map (es.map entryOf).toArray clock) hh rfl
          simp only [execOp, ho, resolve, invoke, builtin, List.map_toArray, List.map_cons, List.map_nil, e1, e2, Builtin.delete_, List.getElem?_toArray, List.getElem?_cons_zero, List.getElem?_cons_succ, Sem.run_bind, run_underlying hm, Result.andThen_ok, hg, hck, g1, hso, Sem.run_pure]
        · rename_i i' hf
          cases h
          obtain ⟨q, g1, g2⟩ := run_findKey (P := T.P) hk hf w
          obtain ⟨qv', hq⟩ : ∃ v, q = some (i', v) := by
            cases q with
            | none => simp at g2
            | some q => simp at g2; exact ⟨q.2, by rw [← g2]⟩
          subst hq
          have hera : (es.map entryOf).toArray.eraseIdxIfInBounds i' = ((es.eraseIdx i').map entryOf).toArray := by
            apply Array.ext'
            simp only [Array.eraseIdxIfInBounds, List.size_toArray, List.length_map]
            rw [map_erase]
            split
            · simp
            · rename_i hge
              rw [List.eraseIdx_of_length_le (by simpa using hge)]
          obtain ⟨r1, r2⟩ := hR.setX hX hb (x' := .map (es.eraseIdx i') clock) (o' := .map ((es.eraseIdx i').map entryOf).toArray clock) rfl
          refine ⟨_, m, _, .inl ?_, r2, r1, rep_nil_tup⟩
          have hso := run_setObjX (P := T.P) (.map ((es.eraseIdx i').map entryOf).toArray clock) hh rfl
          simp only [execOp, ho, resolve, invoke, builtin, List.map_toArray, List.map_cons, List.map_nil, e1, e2, Builtin.delete_, List.getElem?_toArray, List.getElem?_cons_zero, List.getElem?_cons_succ, Sem.run_bind, run_underlying hm, Result.andThen_ok, hg, hck, g1, hera, hso, Sem.run_pure]
      · cases h
  · cases h

theorem s_range (hT : T.Ok) {x : Operand} (ho : o.op = .range t x) (h : evRangeOp T t s (E.ev x) = some (p, s')) : OpR T.P o E s p s' := by
  unfold evRangeOp at h
  split at h
  · rename_i id hx
    split at h
    · rename_i i hi
      split at h
      · rename_i k e es clock hd hX
        cases h
        have hu := (ti_u hT hi).u
        rw [hd] at hu
        intro m w ρ hR hρ
        obtain ⟨b, e1, hb, hh⟩ := map_at hR hX (hρ x _ hx)
        have hg := run_getObjX (P := T.P) hh rfl
        obtain ⟨m', h1, h2, h3⟩ := hR.newX (x := .mit (some id) clock #[] clock) (o := .mapIter (some b) clock #[] clock) ⟨b, hb, rfl⟩
        refine ⟨_, m', _, .inl ?_, h3, h2, .it h1⟩
        simp [execOp, ho, e1, Instr.range, run_underlying hu, hg]
      · cases h
    · cases h
  · rename_i hx
    split at h
    · rename_i i hi
      split at h
      · rename_i k e hd
        cases h
        have hu := (ti_u hT hi).u
        rw [hd] at hu
        intro m w ρ hR hρ
        have e1 := rep_v (hρ x _ hx)
        obtain ⟨m', h1, h2, h3⟩ := hR.newX (x := .mit none 0 #[] 0) (o := .mapIter none 0 #[] 0) rfl
        refine ⟨_, m', _, .inl ?_, h3, h2, .it h1⟩
        simp [execOp, ho, e1, Instr.range, run_underlying hu]
      · cases h
    · cases h
  · cases h

theorem rep_over {m : Mp} {w : World} : Rep m w (.tup [.v (.bool false)]) (.tuple #[.bool false]) :=
  .tup _ rfl (fun j c hj => by
    cases j with
    | zero => simp at hj; subst hj; exact .v _ rfl
    | succ j => simp at hj)

theorem rep_tup3 {m : Mp} {w : World} {a b c : Value} (ha : noAgg a = true) (hb : noAgg b = true) (hc : noAgg c = true) : Rep m w (.tup [.v a, .v b, .v c]) (.tuple #[a, b, c]) :=
  .tup _ rfl (fun j q hj => by
    match j with
    | 0 => simp at hj; subst hj; exact .v _ ha
    | 1 => simp at hj; subst hj; exact .v _ hb
    | 2 => simp at hj; subst hj; exact .v _ hc
    | j + 3 => simp at hj)

theorem s_next {x : Operand} (ho : o.op = .next x false) (h : evNext2 s (E.ev x) = some (p, s')) : OpR T.P o E s p s' := by
  unfold evNext2 at h
  split at h
  · rename_i q hx
    unfold evNext at h
    split at h
    · rename_i id
      split at h
      · -- over no map
        rename_i since seen last hX
        cases h
        intro m w ρ hR hρ
        have hr := hρ x _ hx
        generalize hv : ρ x = v at hr
        cases hr with
        | @it _ b hb =>
          obtain ⟨b', o', h1, h2, h3⟩ := hR.obj id _ hX
          rw [hb] at h1; cases h1
          simp only [XRep] at h3
          subst h3
          have hg := run_getObjX (P := T.P) h2 rfl
          refine ⟨_, m, w, .inl ?_, Lx.refl m w, hR, rep_over⟩
          simp [execOp, ho, hv, Instr.next, hg]
      · rename_i mp since seen last hX
        split at h
        · rename_i es clock hM
          intro m w ρ hR hρ
          have hr := hρ x _ hx
          generalize hv : ρ x = v at hr
          cases hr with
          | @it _ b hb =>
            obtain ⟨b', o', h1, h2, h3⟩ := hR.obj id _ hX
            rw [hb] at h1; cases h1
            obtain ⟨bm, hbm, rfl⟩ := h3
            have hg := run_getObjX (P := T.P) h2 rfl
            obtain ⟨bm', om, k1, k2, k3⟩ := hR.obj mp _ hM
            rw [hbm] at k1; cases k1
            simp only [XRep] at k3
            subst k3
            have hgm := run_getObjX (P := T.P) k2 rfl
            split at h
            · -- an empty map
              cases h
              refine ⟨_, m, w, .inl ?_, Lx.refl m w, hR, rep_over⟩
              simp [execOp, ho, hv, Instr.next, hg, hgm, Question.forced]
            · cases h
        · cases h
      · cases h
    · cases h
  · cases h

end
end Go.Ev

/- For the evaluator of closed calls. What it says of one operation is so: all together. -/
namespace Go.Ev
open Go.RowKit

section
variable {P : Program} {T : Tab} {o : Oper} {E : Env} {s s' : St} {p : PV}

theorem evs_one {l : List Operand} {a : PV} (h : evs E l = some [a]) : ∃ x, l = [x] ∧ E.ev x = some a := by
  cases l with
  | nil => simp [evs] at h
  | cons x r =>
    simp only [evs] at h
    split at h
    · rename_i q hq
      split at h
      · rename_i qs hqs
        simp only [Option.some.injEq, List.cons.injEq] at h
        obtain ⟨rfl, rfl⟩ := h
        cases r with
        | nil => exact ⟨x, rfl, hq⟩
        | cons y r =>
          simp only [evs] at hqs
          split at hqs
          · split at hqs <;> cases hqs
          · cases hqs
      · cases h
    · cases h

theorem evs_two {l : List Operand} {a b : PV} (h : evs E l = some [a, b]) : ∃ x y, l = [x, y] ∧ E.ev x = some a ∧ E.ev y = some b := by
  cases l with
  | nil => simp [evs] at h
  | cons x r =>
    simp only [evs] at h
    split at h
    · rename_i q hq
      split at h
      · rename_i qs hqs
        simp only [Option.some.injEq, List.cons.injEq] at h
        obtain ⟨rfl, rfl⟩ := h
        obtain ⟨y, rfl, hy⟩ := evs_one hqs
        exact ⟨x, y, rfl, hq, hy⟩
      · cases h
    · cases h

theorem arr1 {α : Type} {a : Array α} {x : α} (h : a.toList = [x]) : a = #[x] := by
  apply Array.ext'; simpa using h
theorem arr2 {α : Type} {a : Array α} {x y : α} (h : a.toList = [x, y]) : a = #[x, y] := by
  apply Array.ext'; simpa using h

theorem natV_eq {n : Option Nat} (h : natV s n = some (p, s')) : ∃ k, n = some k ∧ p = .v (.int .i64 (.ofNat k)) ∧ s' = s := by
  cases n with
  | none => cases h
  | some k => cases h; exact ⟨k, rfl, rfl, rfl⟩

theorem s_builtin (hT : T.Ok) {b : Builtin} {args : Array Operand} {ts : Array TypeId} (ho : o.op = .call { callee := .builtin b, args, argTypes := ts }) (h : evBuiltin2 T b ts.toList s (evs E args.toList) = some (p, s')) : OpR T.P o E s p s' := by
  cases hp : evs E args.toList with
  | none => rw [hp] at h; cases h
  | some ps =>
    rw [hp] at h
    simp only [evBuiltin2] at h
    unfold evBuiltin at h
    split at h
    · split at h
      · rename_i x t hts
        obtain ⟨y, hy, hx⟩ := evs_one hp
        obtain ⟨k, hk, rfl, rfl⟩ := natV_eq h
        rw [arr1 hy, arr1 hts] at ho
        exact s_len hT ho hx hk
      · cases h
    · split at h
      · rename_i x t hts
        obtain ⟨y, hy, hx⟩ := evs_one hp
        obtain ⟨k, hk, rfl, rfl⟩ := natV_eq h
        rw [arr1 hy, arr1 hts] at ho
        exact s_cap hT ho hx hk
      · cases h
    · split at h
      · rename_i x y t u hts
        obtain ⟨a, c, hac, hx, hy⟩ := evs_two hp
        rw [arr2 hac, arr2 hts] at ho
        unfold evAppend3 at h
        split at h
        · rename_i hb
          have hb := Nat.eq_of_beq_eq_true hb
          subst hb
          exact s_append hT ho hx hy h
        · split at h
          · rename_i j hj
            split at h
            · rename_i k hd
              exact s_appendZ hT hj hd ho hx hy h
            · cases h
          · cases h
      · cases h
    · split at h
      · rename_i x t hts
        obtain ⟨y, hy, hx⟩ := evs_one hp
        rw [arr1 hy, arr1 hts] at ho
        exact s_clear hT ho hx h
      · cases h
    · split at h
      · rename_i x y t u hts
        obtain ⟨a, c, hac, hx, hy⟩ := evs_two hp
        rw [arr2 hac, arr2 hts] at ho
        split at h
        · rename_i s2 hd
          cases h
          exact s_delete hT ho hx hy hd
        · cases h
      · cases h
    · cases h

theorem s_evO (hT : T.Ok) (h : evO T o E s = some (p, s')) : OpR T.P o E s p s' := by
  unfold evO at h
  split at h
  · rename_i x ho; obtain ⟨h2, rfl⟩ := same_eq h; exact OpV.R (OpV_move ho h2)
  · rename_i x ho; obtain ⟨h2, rfl⟩ := same_eq h; exact OpV.R (OpV_assign ho h2)
  · rename_i ho; obtain ⟨h2, rfl⟩ := same_eq h; exact s_pick ho h2
  · rename_i ho; exact s_alloc hT ho h
  · rename_i ho; exact s_box ho h
  · rename_i ho; obtain ⟨h2, rfl⟩ := same_eq h; exact s_build hT ho h2
  · rename_i ho; exact s_lit hT ho h
  · rename_i ho; obtain ⟨h2, rfl⟩ := same_eq h; exact s_load hT ho h2
  · rename_i ho; exact s_store hT ho h
  · rename_i ho; obtain ⟨h2, rfl⟩ := same_eq h; exact s_nilCheck ho h2
  · rename_i ho; obtain ⟨h2, rfl⟩ := same_eq h; exact s_bin hT ho h2
  · rename_i ho; obtain ⟨h2, rfl⟩ := same_eq h; exact s_un ho h2
  · rename_i ho; obtain ⟨h2, rfl⟩ := same_eq h; exact s_conv ho h2
  · rename_i ho; obtain ⟨h2, rfl⟩ := same_eq h; exact s_mkFn ho h2
  · rename_i ho; cases h; exact s_makeMap ho
  · rename_i ho; obtain ⟨h2, rfl⟩ := same_eq h; exact s_slice hT ho h2
  · rename_i ho; obtain ⟨h2, rfl⟩ := same_eq h; exact s_field hT ho h2
  · rename_i ho; obtain ⟨h2, rfl⟩ := same_eq h; exact s_idxA hT ho h2
  · rename_i ho; obtain ⟨h2, rfl⟩ := same_eq h; exact s_idx hT ho h2
  · rename_i ho; exact s_update hT ho h
  · rename_i ho; exact s_range hT ho h
  · rename_i ho; exact s_next ho h
  · rename_i ho; obtain ⟨h2, rfl⟩ := same_eq h; exact s_extract ho h2
  · rename_i ho; exact s_builtin hT ho h
  · cases h

theorem evO_nd (h : evO T o E s = some (p, s')) : ∀ c, o.op ≠ .defer c := fun c hc => by
  unfold evO at h
  rw [hc] at h
  cases h

theorem same_any {q : Option PV} (h : same s q = some (p, s')) : s' = s ∧ ∀ s2 : St, same s2 q = some (p, s2) := by
  obtain ⟨rfl, rfl⟩ := same_eq h
  exact ⟨rfl, fun _ => rfl⟩

/-- A quiet operation does not look at the state. -/
theorem quiet_any (hl : loudOp o = false) (hr : readOp o = false) (h : evO T o E s = some (p, s')) : s' = s ∧ ∀ s2 : St, evO T o E s2 = some (p, s2) := by
  have key : ∀ q, evO T o E s = same s q → (∀ s2 : St, evO T o E s2 = same s2 q) → s' = s ∧ ∀ s2 : St, evO T o E s2 = some (p, s2) := fun q h1 h2 => by
    rw [h1] at h
    obtain ⟨e1, e2⟩ := same_any h
    exact ⟨e1, fun s2 => (h2 s2).trans (e2 s2)⟩
  cases ho : o.op with
  | move x => exact key (E.ev x) (by simp only [evO, ho]) (fun s2 => by simp only [evO, ho])
  | assign x => exact key (E.ev x) (by simp only [evO, ho]) (fun s2 => by simp only [evO, ho])
  | pick c a b => exact key (evPick E c a b) (by simp only [evO, ho]) (fun s2 => by simp only [evO, ho])
  | build t parts => exact key (evBuild T t (evp E parts.toList)) (by simp only [evO, ho]) (fun s2 => by simp only [evO, ho])
  | nilCheck x => exact key (evNilCheck (E.ev x)) (by simp only [evO, ho]) (fun s2 => by simp only [evO, ho])
  | binOp op t x y ty => exact key (evBin2 T op t x y (E.ev x) (E.ev y)) (by simp only [evO, ho]) (fun s2 => by simp only [evO, ho])
  | unOp op t x => exact key (evUn T op (E.ev x)) (by simp only [evO, ho]) (fun s2 => by simp only [evO, ho])
  | convert a b x => exact key (evConv T a b (E.ev x)) (by simp only [evO, ho]) (fun s2 => by simp only [evO, ho])
  | makeFunc f a b => exact key (evMkFn f a (evs E b.toList)) (by simp only [evO, ho]) (fun s2 => by simp only [evO, ho])
  | slice t x l hi m => exact key (evSliceOp T t (E.ev x) (optNat E l) (optNat E hi) m) (by simp only [evO, ho]) (fun s2 => by simp only [evO, ho])
  | fieldAddr t x k => exact key (evField T t k (E.ev x)) (by simp only [evO, ho]) (fun s2 => by simp only [evO, ho])
  | indexAddr t x y => exact key (evIdxA T t (E.ev x) (E.ev y)) (by simp only [evO, ho]) (fun s2 => by simp only [evO, ho])
  | index t x y => exact key (evIdx T t (E.ev x) (E.ev y)) (by simp only [evO, ho]) (fun s2 => by simp only [evO, ho])
  | extract x k => exact key (evExtract k (E.ev x)) (by simp only [evO, ho]) (fun s2 => by simp only [evO, ho])
  | call c =>
    obtain ⟨cal, args, ts⟩ := c
    cases cal with
    | builtin b =>
      have e : ∀ s2 : St, evO T o E s2 = evBuiltin2 T b ts.toList s2 (evs E args.toList) := fun s2 => by simp only [evO, ho]
      rw [e s] at h
      cases hp : evs E args.toList with
      | none => rw [hp] at h; cases h
      | some ps =>
        rw [hp] at h
        simp only [evBuiltin2] at h
        have nat : ∀ n, evBuiltin T b ps ts.toList s = natV s n → (∀ s2 : St, evBuiltin T b ps ts.toList s2 = natV s2 n) → s' = s ∧ ∀ s2 : St, evO T o E s2 = some (p, s2) := fun n h1 h2 => by
          rw [h1] at h
          obtain ⟨k, rfl, rfl, rfl⟩ := natV_eq h
          exact ⟨rfl, fun s2 => by rw [e s2, hp]; simp only [evBuiltin2, h2 s2, natV]⟩
        cases b with
        | len =>
          cases ps with
          | nil => simp [evBuiltin] at h
          | cons a ps => cases ps with
            | cons a' ps => simp [evBuiltin] at h
            | nil => cases hts : ts.toList with
              | nil => rw [hts] at h; simp [evBuiltin] at h
              | cons t tl => cases tl with
                | cons t' tl => rw [hts] at h; simp [evBuiltin] at h
                | nil => rw [hts] at nat; exact nat _ rfl (fun _ => rfl)
        | cap =>
          cases ps with
          | nil => simp [evBuiltin] at h
          | cons a ps => cases ps with
            | cons a' ps => simp [evBuiltin] at h
            | nil => cases hts : ts.toList with
              | nil => rw [hts] at h; simp [evBuiltin] at h
              | cons t tl => cases tl with
                | cons t' tl => rw [hts] at h; simp [evBuiltin] at h
                | nil => rw [hts] at nat; exact nat _ rfl (fun _ => rfl)
        | min => simp [evBuiltin] at h
        | max => simp [evBuiltin] at h
        | _ => simp [loudOp, ho] at hl
    | value f => simp [evO, ho] at h
    | invoke r m => simp [evO, ho] at h
  | load t x => simp [readOp, ho] at hr
  | makeMap t r => simp [loudOp, ho] at hl
  | store t x y => simp [loudOp, ho] at hl
  | alloc t => simp [loudOp, ho] at hl
  | box t x => simp [loudOp, ho] at hl
  | buildSlice t n ps => simp [loudOp, ho] at hl
  | mapUpdate t x y z => simp [loudOp, ho] at hl
  | range t x => simp [loudOp, ho] at hl
  | next x b => simp [loudOp, ho] at hl
  | _ => simp [evO, ho] at h

/-- What is loaded does not turn the state. -/
theorem read_same (hr : readOp o = true) (h : evO T o E s = some (p, s')) : s' = s := by
  cases ho : o.op with
  | load t x => simp only [evO, ho] at h; exact (same_eq h).2
  | _ => simp [readOp, ho] at hr

end
end Go.Ev
