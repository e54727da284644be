/- Entering a function, what it hands back, and calls whose memory the caller forgets. -/
import Derived.Test.YtpkeceifnmmhcaaThFive
namespace Go.Th
open Go.RowKit

/-! ### Results -/

def RVal (P : Program) (E : Env) (H : Heap) : ResultVar → PV → Prop
  | .tmp t, p => E.get t = some p
  | .cell a t, p => ∃ d i q, P.underlying t = some d ∧ P.info? t = some i ∧ E.get a = some q ∧ loadA d i.size H q = some p

theorem RVal_cell {P : Program} {E : Env} {H : Heap} {a : Tmp} {t : TypeId} {d : TypeDesc} {size bytes : Nat} {z : List Value} {p q : PV} [hu : HasU P t d] [hi : HasI P t size bytes z] (h : E.get a = some q) (hl : loadA d size H q = some p) : RVal P E H (.cell a t) p := by
  obtain ⟨i, zv, h1, rfl, _⟩ := hi.i
  exact ⟨d, i, q, hu.u, h1, h, hl⟩

def RVals (P : Program) (E : Env) (H : Heap) : List ResultVar → List PV → Prop
  | [], [] => True
  | r :: rs, p :: ps => RVal P E H r p ∧ RVals P E H rs ps
  | _, _ => False

def resP : List PV → PV
  | [p] => p
  | ps => .tup ps

def rvRun (a : Act) : ResultVar → Sem Value
  | .tmp t => pure (a.tmps.getD t undef)
  | .cell x t => do loadVar t (← asAddr (a.tmps.getD x undef))

theorem results_eq (fn : Func) (a : Act) : results fn a.tmps = (do let vs ← fn.results.mapM (rvRun a); pure (if h : vs.size = 1 then vs[0] else .tuple vs)) := rfl

theorem run_results {P : Program} {m : Mp} {E : Env} {H : Heap} {a : Act} {w : World} (hR : R m H w) (hF : FR m w E a) {fn : Func} {ps : List PV} (h : RVals P E H fn.results.toList ps) :
    ∃ v, (results fn a.tmps).run P w = .ok v w ∧ Rep m w (resP ps) v := by
  have key : ∀ (rs : List ResultVar) (ps : List PV), RVals P E H rs ps → ∃ vs : List Value, (rs.mapM (rvRun a)).run P w = .ok vs w ∧ CR m w ps vs := by
    intro rs
    induction rs with
    | nil =>
      intro ps h
      cases ps with
      | nil => exact ⟨[], by simp, rfl, fun j c hj => by simp at hj⟩
      | cons p ps => exact h.elim
    | cons r rs ih =>
      intro ps h
      cases ps with
      | nil => exact h.elim
      | cons p ps =>
        obtain ⟨h1, h2⟩ := h
        obtain ⟨vs, hv, hc⟩ := ih ps h2
        have hone : ∃ v, (rvRun a r).run P w = .ok v w ∧ Rep m w p v := by
          cases r with
          | tmp t => exact ⟨_, rfl, hF t p h1⟩
          | cell x t =>
            obtain ⟨d, i, q, hd, hi, hq, hl⟩ := h1
            obtain ⟨ad, u, e, hrun, hr⟩ := run_loadVar hR hd hi (hF x q hq) hl
            exact ⟨u, by simp [rvRun, e, asAddr, hrun], hr⟩
        obtain ⟨v, hv1, hr⟩ := hone
        refine ⟨v :: vs, ?_, by simp [hc.1], fun j c hj => ?_⟩
        · rw [List.mapM_cons]
          simp only [Sem.run_bind, hv1, Result.andThen_ok, hv, Sem.run_pure]
        · cases j with
          | zero => simp at hj; subst hj; exact ⟨v, rfl, hr⟩
          | succ j => simpa using hc.2 j c (by simpa using hj)
  obtain ⟨vs, hv, hc⟩ := key _ _ h
  refine ⟨if h : vs.toArray.size = 1 then vs.toArray[0] else .tuple vs.toArray, ?_, ?_⟩
  · rw [results_eq, Array.mapM_eq_mapM_toList]
    simp only [Sem.run_bind, Sem.run_map, hv, Result.andThen_ok, Sem.run_pure]
  · by_cases h1 : vs.toArray.size = 1
    · rw [dif_pos h1]
      have hl : ps.length = 1 := by have := hc.1; simp at h1; omega
      match ps, hl with
      | [p], _ =>
        obtain ⟨u, hu, hr⟩ := hc.2 0 p rfl
        have hvl : vs.length = 1 := by simpa using h1
        obtain ⟨x, rfl⟩ := List.length_eq_one_iff.1 hvl
        have : x = u := by simpa using hu
        subst this
        exact hr
    · rw [dif_neg h1]
      have hl : ps.length ≠ 1 := by have := hc.1; simp at h1; omega
      have e : resP ps = .tup ps := by
        match ps, hl with
        | [], _ => rfl
        | [p], h => exact absurd rfl h
        | _ :: _ :: _, _ => rfl
      rw [e]
      refine .tup vs.toArray (by simp [hc.1]) fun j c hj => ?_
      obtain ⟨u, hu, hr⟩ := hc.2 j c hj
      simpa [Array.getD_eq_getD_getElem?, hu] using hr

def postA (P : Program) (fn : Func) (Q : PV → Heap → Prop) : QA := fun e E H => (e = .normal ∨ e = .ret) ∧ ∃ ps, RVals P E H fn.results.toList ps ∧ Q (resP ps) H

theorem AC_enter {P : Program} {f : FuncId} {fn : Func} {c : Code} {args : List PV} {H : Heap} {Q : PV → Heap → Prop} (hf : P.funcs[f]? = some fn) (hb : fn.body = some c) (hname : (fn.name == "runtime.NumGoroutine") = false)
    (hsz : Nat.ble args.length fn.ntmps = true) (h : wpA P fn.ntmps c (postA P fn Q) (envFrom 0 args) H) : AC P f args H Q := by
  refine ⟨⟨fn, hf, hname, by rw [hb]; rfl⟩, fun m w vals hR hv => ?_⟩
  have hsz := Nat.le_of_ble_eq_true hsz
  have hvs : vals.size = args.length := hv.1
  refine calls_of_wp hf hb (wp_mono (h m w _ w ⟨by simp; omega, rfl, m, Le.refl m w, hR, fun t p ht => ?_⟩) ?_)
  · obtain ⟨_, ht'⟩ := envFrom_get args 0 t p ht
    simp only [Nat.sub_zero] at ht'
    have hlt : t < vals.size := by rw [hvs]; exact (List.getElem?_eq_some_iff.1 ht').1
    have := hv.2 t p ht'
    simpa [Array.getD_eq_getD_getElem?, Array.getElem?_append_left hlt] using this
  · rintro e a w' ⟨E', H', ⟨he, ps, hps, hq⟩, _, hd, m', hle, hR', hF'⟩
    obtain ⟨v, hrun, hr⟩ := run_results hR' hF' hps
    rcases he with rfl | rfl
    · exact ⟨hd, v, hrun, v, _, H', m', rfl, hq, hr, hR', hle⟩
    · exact ⟨hd, v, hrun, v, _, H', m', rfl, hq, hr, hR', hle⟩

/-! ### What needs no id -/

def Tree (p : PV) : Prop := ∀ m w v, Rep m w p v → Rep { m with blk := fun _ => none } w p v

theorem Tree.v (x : Value) : Tree (.v x) := fun m w v h => by cases h with | v _ hx => exact .v _ hx
theorem Tree.tr {cells : List PV} {len sz : Nat} (h : ∀ c ∈ cells, Tree c) : Tree (.tr cells len sz) := fun m w v hr => by
  cases hr with
  | tr f a b c d e g => exact .tr f a b c d e fun j q hj => h q (List.mem_of_getElem? hj) m w _ (g j q hj)
  | tr0 a b => exact .tr0 a b
  | trn => exact .trn
theorem Tree.ept {cells : List PV} {off : Nat} (h : ∀ c ∈ cells, Tree c) : Tree (.ept cells off) := fun m w v hr => by
  cases hr with
  | ept f a b c => exact .ept f a b fun j q hj => h q (List.mem_of_getElem? hj) m w _ (c j q hj)
theorem Tree.agg {cells : List PV} (h : ∀ c ∈ cells, Tree c) : Tree (.agg cells) := fun m w v hr => by
  cases hr with
  | agg vs a b => exact .agg vs a fun j q hj => h q (List.mem_of_getElem? hj) m w _ (b j q hj)
theorem Tree.tup {cells : List PV} (h : ∀ c ∈ cells, Tree c) : Tree (.tup cells) := fun m w v hr => by
  cases hr with
  | tup vs a b => exact .tup vs a fun j q hj => h q (List.mem_of_getElem? hj) m w _ (b j q hj)
theorem Tree.fn {f : Fn} {cells : List PV} (h : ∀ c ∈ cells, Tree c) : Tree (.fn f cells) := fun m w v hr => by
  cases hr with
  | fn vs a b => exact .fn vs a fun j q hj => h q (List.mem_of_getElem? hj) m w _ (b j q hj)

theorem trees_nil : ∀ c ∈ ([] : List PV), Tree c := fun _ h => by cases h
theorem trees_cons {p : PV} {ps : List PV} (h : Tree p) (k : ∀ c ∈ ps, Tree c) : ∀ c ∈ p :: ps, Tree c := fun c hc => by
  rcases List.mem_cons.1 hc with rfl | h'
  · exact h
  · exact k c h'

/-- What a value reads as where nothing will be written any more: slices by id become slices of cells. -/
inductive Conv (H : Heap) : PV → PV → Prop
  | refl (p : PV) : Conv H p p
  | sl {id off len sz : Nat} {B : Blk} {cs ds : List PV} (hB : H[id]? = some (some B)) (h : takeN (len * sz) (B.cells.drop off) = some cs) (hl : ds.length = cs.length) (hc : ∀ (j : Nat) (c d : PV), cs[j]? = some c → ds[j]? = some d → Conv H c d) :
      Conv H (.sl id off len sz) (.tr ds len sz)
  | agg {cs ds : List PV} (hl : ds.length = cs.length) (hc : ∀ (j : Nat) (c d : PV), cs[j]? = some c → ds[j]? = some d → Conv H c d) : Conv H (.agg cs) (.agg ds)
  | tup {cs ds : List PV} (hl : ds.length = cs.length) (hc : ∀ (j : Nat) (c d : PV), cs[j]? = some c → ds[j]? = some d → Conv H c d) : Conv H (.tup cs) (.tup ds)

/-- Every block is closed: it will not be written any more. -/
def closed (m : Mp) (H : Heap) : Mp := { m with ro := fun b => m.ro b ∨ ∃ id B d lim, H[id]? = some (some B) ∧ m.blk id = some (b, d, lim), keep := fun b => m.keep b ∨ ∃ id B d lim, H[id]? = some (some B) ∧ m.blk id = some (b, d, lim) }

theorem closed_le {m : Mp} {H : Heap} {w : World} (h : R m H w) : Le m w (closed m H) w :=
  ⟨fun _ _ h => h, fun _ h => .inl h, fun _ h => .inl h, fun _ _ => rfl, Nat.le_refl _, rfl, rfl, rfl, fun b hb => by
    rcases hb with hb | ⟨id, B, d, lim, hB, hm⟩
    · exact .inl hb
    · obtain ⟨_, _, h1, h2⟩ := h.blk id B b d lim hB hm
      cases ho : B.own with
      | true => exact .inr (h1 ho)
      | false => exact .inl (h2 ho)⟩

theorem Conv.rep {m : Mp} {H : Heap} {w : World} (h : R m H w) {p q : PV} (hc : Conv H p q) : ∀ {v : Value}, Rep (closed m H) w p v → Rep (closed m H) w q v := by
  induction hc with
  | refl p => exact fun hr => hr
  | @sl id off len sz B cs ds hB ht hl hc ih =>
    intro v hr
    obtain ⟨t1, rfl⟩ := (takeN_eq _ _ _).1 ht
    have hcl : ((B.cells.drop off).take (len * sz)).length = len * sz := by simp only [List.length_take]; omega
    cases hr with
    | @sl _ _ _ _ b d lim cap hm a1 a2 a3 =>
      obtain ⟨_, ⟨cur, c1, c2, c3, c4⟩, _⟩ := h.blk id B b d lim hB hm
      refine .tr (b := b) (o := d + off) (fun j => cur.getD (d + off + j) undef) (.inr ⟨id, B, d, lim, hB, hm⟩) (by omega) a1 a2 (fun j q hj => ?_) (fun j q hj => ?_)
      all_goals
        have hlt : j < ((B.cells.drop off).take (len * sz)).length := by rw [← hl]; exact (List.getElem?_eq_some_iff.1 hj).1
        have hj' := List.getElem?_eq_getElem hlt
        have hj2 := hj'
        rw [List.getElem?_take, if_pos (by omega), List.getElem?_drop] at hj2
        obtain ⟨u, u1, u2, _⟩ := c4 _ _ hj2
        have u1' : cur[d + off + j]? = some u := by rw [Nat.add_assoc]; exact u1
        have hg : cur.getD (d + off + j) undef = u := by rw [Array.getD_eq_getD_getElem?, u1']; rfl
      · rw [cell_of_row w b _ cur B.elem (0, 0) c1, u1', hg]
      · simp only [hg]
        exact ih j _ q hj' hj (u2.mono h.rk (closed_le h))
    | sl0 a =>
      have hds : ds = [] := List.eq_nil_of_length_eq_zero (by rw [hl]; simp)
      subst hds
      cases a with
      | some a => exact .tr0 a (by simp [maxLen])
      | none => exact .trn
  | agg hl hc ih =>
    intro v hr
    cases hr with
    | agg vs a b =>
      refine .agg vs (a.trans hl.symm) fun j q hj => ?_
      have hlt := (List.getElem?_eq_some_iff.1 hj).1
      rw [hl] at hlt
      exact ih j _ q (List.getElem?_eq_getElem hlt) hj (b j _ (List.getElem?_eq_getElem hlt))
  | tup hl hc ih =>
    intro v hr
    cases hr with
    | tup vs a b =>
      refine .tup vs (a.trans hl.symm) fun j q hj => ?_
      have hlt := (List.getElem?_eq_some_iff.1 hj).1
      rw [hl] at hlt
      exact ih j _ q (List.getElem?_eq_getElem hlt) hj (b j _ (List.getElem?_eq_getElem hlt))

/-! ### A call whose memory is its own -/

/-- Function f, called with values that need no id: it hands back a value that needs none. What it does to memory is nobody's business. -/
def Iso (P : Program) (f : FuncId) (args : List PV) (Q : PV → Prop) : Prop :=
  (∃ fn, P.funcs[f]? = some fn ∧ (fn.name == "runtime.NumGoroutine") = false ∧ fn.body.isNone = false) ∧
  ∀ m w vals, (∀ b, m.ro b → m.keep b) → (∀ b, m.keep b → b < w.heap.size) → (∀ id, m.blk id = none) → RepL m w args vals →
    Calls P f vals w fun e w' => ∃ v p m', e = .returned v ∧ Q p ∧ Rep m' w' p v ∧ (∀ id, m'.blk id = none) ∧ Le m w m' w' ∧ (∀ b, m'.ro b → m'.keep b) ∧ (∀ b, m'.keep b → b < w'.heap.size)

def postI (P : Program) (fn : Func) (Q : PV → Prop) : QA := fun e E H => (e = .normal ∨ e = .ret) ∧ ∃ ps q, RVals P E H fn.results.toList ps ∧ Conv H (resP ps) q ∧ Tree q ∧ Q q

theorem Iso_enter {P : Program} {f : FuncId} {fn : Func} {c : Code} {args : List PV} {Q : PV → Prop} (hf : P.funcs[f]? = some fn) (hb : fn.body = some c) (hname : (fn.name == "runtime.NumGoroutine") = false)
    (hsz : Nat.ble args.length fn.ntmps = true) (h : wpA P fn.ntmps c (postI P fn Q) (envFrom 0 args) []) : Iso P f args Q := by
  refine ⟨⟨fn, hf, hname, by rw [hb]; rfl⟩, fun m w vals h1 h2 h3 hv => ?_⟩
  have hR : R m [] w := R.nil h1 h2 h3
  have hsz := Nat.le_of_ble_eq_true hsz
  have hvs : vals.size = args.length := hv.1
  refine calls_of_wp hf hb (wp_mono (h m w _ w ⟨by simp; omega, rfl, m, Le.refl m w, hR, fun t p ht => ?_⟩) ?_)
  · obtain ⟨_, ht'⟩ := envFrom_get args 0 t p ht
    simp only [Nat.sub_zero] at ht'
    have hlt : t < vals.size := by rw [hvs]; exact (List.getElem?_eq_some_iff.1 ht').1
    have := hv.2 t p ht'
    simpa [Array.getD_eq_getD_getElem?, Array.getElem?_append_left hlt] using this
  · rintro e a w' ⟨E', H', ⟨he, ps, q, hps, hconv, htree, hq⟩, _, hd, m', hle, hR', hF'⟩
    obtain ⟨v, hrun, hr⟩ := run_results hR' hF' hps
    have hcl := closed_le hR'
    have hrep := htree _ w' v (hconv.rep hR' (hr.mono hR'.rk hcl))
    have hle2 := hle.trans hcl
    have fin : ∃ v1 p m', Ending.returned v = .returned v1 ∧ Q p ∧ Rep m' w' p v1 ∧ (∀ id, m'.blk id = none) ∧ Le m w m' w' ∧ (∀ b, m'.ro b → m'.keep b) ∧ (∀ b, m'.keep b → b < w'.heap.size) := by
      refine ⟨v, q, { closed m' H' with blk := fun _ => none }, rfl, hq, hrep, fun _ => rfl, ?_, fun b hb => ?_, fun b hb => ?_⟩
      · exact ⟨(fun id x hx => by rw [h3 id] at hx; cases hx), hle2.ro, hle2.keep, hle2.same, hle2.size, hle2.os, hle2.tape, hle2.output, hle2.fresh⟩
      · rcases hb with hb | hb
        · exact .inl (hR'.rk b hb)
        · exact .inr hb
      · rcases hb with hb | ⟨id, B, d, lim, hB, hm⟩
        · exact hR'.kl b hb
        · exact hR'.lt hB hm
    rcases he with rfl | rfl
    · exact ⟨hd, v, hrun, fin⟩
    · exact ⟨hd, v, hrun, fin⟩

section
variable {P : Program} {n : Nat} {Q : QA} {E : Env} {H : Heap} {ops : Array Oper} {rest : List Oper}

theorem Iso.mono {f : FuncId} {args : List PV} {Q Q' : PV → Prop} (h : Iso P f args Q) (hq : ∀ p, Q p → Q' p) : Iso P f args Q' :=
  ⟨h.1, fun m w vals h1 h2 h3 h4 => (h.2 m w vals h1 h2 h3 h4).mono fun _ _ ⟨v, p, m', a, b, c⟩ => ⟨v, p, m', a, hq _ b, c⟩⟩

/-- The caller's side: nothing that the caller knows of has turned. -/
theorem Iso.AC {f : FuncId} {args : List PV} {Q : PV → Prop} (h : Iso P f args Q) (ht : ∀ c ∈ args, Tree c) : AC P f args H (fun p H' => Q p ∧ H' = H) := by
  refine ⟨h.1, fun m w vals hR hv => ?_⟩
  have hv' : RepL { blk := fun _ => none, ro := m.ro, keep := fun b => b < w.heap.size } w args vals := ⟨hv.1, fun j c hj => by
    have h1 := ht c (List.mem_of_getElem? hj) m w _ (hv.2 j c hj)
    exact Rep.mono' (m := { blk := fun _ => none, ro := m.ro, keep := m.keep }) (m' := { blk := fun _ => none, ro := m.ro, keep := fun b => b < w.heap.size }) (w' := w) (fun _ _ h => h) (fun _ h => h) (fun _ _ _ => rfl) h1⟩
  refine (h.2 { blk := fun _ => none, ro := m.ro, keep := fun b => b < w.heap.size } w vals (fun b hb => hR.kl b (hR.rk b hb)) (fun b hb => hb) (fun _ => rfl) hv').mono ?_
  rintro e w' ⟨v, p, m', rfl, hq, hr, hn, hle, hk1, hk2⟩
  have hfresh : ∀ b, m'.ro b → m.ro b ∨ w.heap.size ≤ b := fun b hb => (hle.fresh b hb).elim .inl (fun h => .inr (Nat.le_of_not_lt h))
  have hsame : ∀ b, b < w.heap.size → w'.heap[b]? = w.heap[b]? := fun b hb => hle.same b hb
  have hlek : Le m w { blk := m.blk, ro := m'.ro, keep := fun b => m.keep b ∨ m'.ro b } w' :=
    ⟨fun _ _ h => h, fun b hb => hle.ro b hb, fun b hb => .inl hb, fun b hb => hsame b (hR.kl b hb), hle.size, hle.os, hle.tape, hle.output, fun b hb => (hfresh b hb).elim .inl (fun h1 => .inr fun h2 => by have := hR.kl b h2; omega)⟩
  refine ⟨v, p, H, { blk := m.blk, ro := m'.ro, keep := fun b => m.keep b ∨ m'.ro b }, rfl, ⟨hq, rfl⟩, ?_, ?_, hlek⟩
  · refine Rep.mono' (m := m') (m' := { blk := m.blk, ro := m'.ro, keep := fun b => m.keep b ∨ m'.ro b }) (w := w') (w' := w') (fun id x hx => ?_) (fun _ h => h) (fun _ _ _ => rfl) hr
    rw [hn id] at hx; cases hx
  · refine ⟨fun b hb => .inr hb, fun b hb => ?_, hR.dom, fun id B b d lim hi hm => ?_, hR.inj⟩
    · rcases hb with hb | hb
      · have := hR.kl b hb; have := hle.size; omega
      · exact hk2 b (hk1 b hb)
    · obtain ⟨h0, ⟨cur, c1, c2, c3, c4⟩, h5, h6⟩ := hR.blk id B b d lim hi hm
      have hlt := hR.lt hi hm
      refine ⟨h0, ⟨cur, by rw [hsame b hlt]; exact c1, c2, c3, fun j c hj => let ⟨u, u1, u2, u3⟩ := c4 j c hj; ⟨u, u1, u2.mono hR.rk hlek, u3⟩⟩, fun ho hk => ?_, fun ho => hle.ro b (h6 ho)⟩
      rcases hk with hk | hk
      · exact h5 ho hk
      · rcases hfresh b hk with hk | hk
        · exact h5 ho (hR.rk b hk)
        · omega

theorem wpL_iso {o : Oper} {c : Call} {x : Operand} {g : FuncId} {cap args : List PV} {QC : PV → Prop} (hg : o.guard = none) (ho : o.op = .call c) (hc : c.callee = .value x) (hx : E.ev x = some (.fn (.func g) cap))
    (ha : evs E c.args.toList = some args) (h : Iso P g (args ++ cap) QC) (ht : ∀ c ∈ args ++ cap, Tree c)
    (hd : match o.dst with | some d => d < n | none => True)
    (k : ∀ p, QC p → wpL P n ops rest Q (match o.dst with | some d => (d, p) :: E | none => E) H) : wpL P n ops (o :: rest) Q E H :=
  wpL_call hg ho hc hx ha (h.AC ht) hd fun p _ ⟨hq, e⟩ => e ▸ k p hq

end
end Go.Th
