/- The operations of the translation, each over an abstract heap. -/
import Derived.Test.YtpkeceifnmmhcaaThTwo
namespace Go.Th
open Go.RowKit

class HasU (P : Program) (t : TypeId) (d : outParam TypeDesc) : Prop where
  u : P.underlying t = some d
class HasI (P : Program) (t : TypeId) (size bytes : outParam Nat) (z : outParam (List Value)) : Prop where
  i : ∃ i zv, P.info? t = some i ∧ i.size = size ∧ i.bytes = bytes ∧ i.zero = some zv ∧ zv.cells.toList = z
/-- A struct's fields: where each lies and how many cells it takes. -/
class HasB (P : Program) (t : TypeId) (places : outParam (List (Nat × Nat))) : Prop where
  b : ∃ fields, P.underlying t = some (.struct fields) ∧ fields.toList.map (fun f => (f.offset, (P.info? f.type).map (·.size))) = places.map (fun x => (x.1, some x.2))

theorem places_run {P : Program} : ∀ (fs : List Field) (places : List (Nat × Nat)), fs.map (fun f => (f.offset, (P.info? f.type).map (·.size))) = places.map (fun x => (x.1, some x.2)) →
    ∀ w, (fs.mapM fun f => (do pure (f.offset, ← sizeOf f.type) : Sem (Nat × Nat))).run P w = .ok places w
  | [], [], _, w => by simp
  | [], _ :: _, h, _ => by simp at h
  | _ :: _, [], h, _ => by simp at h
  | f :: fs, x :: places, h, w => by
    simp only [List.map_cons, List.cons.injEq, Prod.mk.injEq] at h
    obtain ⟨⟨h1, h2⟩, h3⟩ := h
    obtain ⟨i, hi, hs⟩ := Option.map_eq_some_iff.1 h2
    have hone : (do pure (f.offset, ← sizeOf f.type) : Sem (Nat × Nat)).run P w = .ok x w := by
      simp [sizeOf, typeInfo, hi, h1, hs]
    rw [List.mapM_cons]
    simp only [Sem.run_bind] at hone ⊢
    rw [hone]
    simp only [Result.andThen_ok]
    rw [places_run fs places h3 w]
    rfl

theorem HasB.run {P : Program} {t : TypeId} {places : List (Nat × Nat)} [hb : HasB P t places] : ∃ fields, P.underlying t = some (.struct fields) ∧ ∀ w, (fields.mapM fun f => (do pure (f.offset, ← sizeOf f.type) : Sem (Nat × Nat))).run P w = .ok places.toArray w := by
  obtain ⟨fields, h1, h2⟩ := hb.b
  refine ⟨fields, h1, fun w => ?_⟩
  rw [Array.mapM_eq_mapM_toList]
  simp only [Sem.run_map, places_run _ _ h2 w, Result.andThen_ok]

theorem HasB.spot {P : Program} {t : TypeId} {places : List (Nat × Nat)} [hb : HasB P t places] {k off sz : Nat} (hk : places[k]? = some (off, sz)) : ∃ fields fl i, P.underlying t = some (.struct fields) ∧ fields[k]? = some fl ∧ fl.offset = off ∧ P.info? fl.type = some i ∧ i.size = sz := by
  obtain ⟨fields, h1, h2⟩ := hb.b
  have := congrArg (·[k]?) h2
  simp only [List.getElem?_map, hk, Option.map_some] at this
  obtain ⟨fl, hf, he⟩ := Option.map_eq_some_iff.1 this
  simp only [Prod.mk.injEq] at he
  obtain ⟨i, hi, hs⟩ := Option.map_eq_some_iff.1 he.2
  exact ⟨fields, fl, i, h1, by simpa using hf, he.1, hi, hs⟩

def cellsOf : PV → List PV
  | .agg cs => cs
  | p => [p]

def pvOne : PV → Bool
  | .v x => x.oneCell'
  | .agg _ => false
  | .tup _ => false
  | _ => true

theorem pvOne_rep {m : Mp} {w : World} {p : PV} {v : Value} (h : Rep m w p v) (hp : pvOne p = true) : v.oneCell' = true := by
  cases h <;> first | rfl | (simp [pvOne] at hp; done) | (simpa [pvOne] using hp)

/-- Cells that stand for cells. -/
def CR (m : Mp) (w : World) (ps : List PV) (vs : List Value) : Prop := vs.length = ps.length ∧ ∀ (j : Nat) (c : PV), ps[j]? = some c → ∃ u, vs[j]? = some u ∧ Rep m w c u

theorem cellsOf_rep {m : Mp} {w : World} {p : PV} {v : Value} (h : Rep m w p v) : CR m w (cellsOf p) v.cells.toList := by
  cases h with
  | agg vs hl hh =>
    refine ⟨by simp [cellsOf, Value.cells, hl], fun j c hj => ?_⟩
    have hlt : j < vs.size := by rw [hl]; exact (List.getElem?_eq_some_iff.1 hj).1
    exact ⟨vs[j], by simp [Value.cells, hlt], by simpa [Array.getD_eq_getD_getElem?, hlt] using hh j c hj⟩
  | v _ hx =>
    have e : v.cells = #[v] := by cases v <;> first | rfl | (simp [noAgg] at hx)
    refine ⟨by simp [cellsOf, e], fun j c hj => ?_⟩
    cases j with
    | zero => simp [cellsOf] at hj; subst hj; exact ⟨v, by simp [e], .v v hx⟩
    | succ j => simp [cellsOf] at hj
  | ptr hb => exact ⟨rfl, fun j c hj => by cases j with | zero => simp [cellsOf] at hj; subst hj; exact ⟨_, rfl, .ptr hb⟩ | succ j => simp [cellsOf] at hj⟩
  | ept f a b d => exact ⟨rfl, fun j c hj => by cases j with | zero => simp [cellsOf] at hj; subst hj; exact ⟨_, rfl, .ept f a b d⟩ | succ j => simp [cellsOf] at hj⟩
  | sl a b c d => exact ⟨rfl, fun j c hj => by cases j with | zero => simp [cellsOf] at hj; subst hj; exact ⟨_, rfl, .sl a b ‹_› d⟩ | succ j => simp [cellsOf] at hj⟩
  | sl0 a => exact ⟨rfl, fun j c hj => by cases j with | zero => simp [cellsOf] at hj; subst hj; exact ⟨_, rfl, .sl0 a⟩ | succ j => simp [cellsOf] at hj⟩
  | tr f a b c d e g => exact ⟨rfl, fun j c hj => by cases j with | zero => simp [cellsOf] at hj; subst hj; exact ⟨_, rfl, .tr f a b ‹_› d e g⟩ | succ j => simp [cellsOf] at hj⟩
  | tr0 a b => exact ⟨rfl, fun j c hj => by cases j with | zero => simp [cellsOf] at hj; subst hj; exact ⟨_, rfl, .tr0 a b⟩ | succ j => simp [cellsOf] at hj⟩
  | trn => exact ⟨rfl, fun j c hj => by cases j with | zero => simp [cellsOf] at hj; subst hj; exact ⟨_, rfl, .trn⟩ | succ j => simp [cellsOf] at hj⟩
  | fn vs hl hh => exact ⟨rfl, fun j c hj => by cases j with | zero => simp [cellsOf] at hj; subst hj; exact ⟨_, rfl, .fn vs hl hh⟩ | succ j => simp [cellsOf] at hj⟩
  | tup vs hl hh => exact ⟨rfl, fun j c hj => by cases j with | zero => simp [cellsOf] at hj; subst hj; exact ⟨_, rfl, .tup vs hl hh⟩ | succ j => simp [cellsOf] at hj⟩

def setAll : List PV → Nat → List PV → List PV
  | l, _, [] => l
  | l, off, c :: cs => setAll (l.set off c) (off + 1) cs

theorem setAll_length : ∀ (cs l : List PV) (off : Nat), (setAll l off cs).length = l.length
  | [], l, off => rfl
  | c :: cs, l, off => by simp [setAll, setAll_length cs]

theorem setAll_get : ∀ (cs l : List PV) (off j : Nat), off + cs.length ≤ l.length → (setAll l off cs)[j]? = if off ≤ j ∧ j < off + cs.length then cs[j - off]? else l[j]?
  | [], l, off, j, _ => by
    simp only [setAll, List.length_nil, Nat.add_zero]
    rw [if_neg (by omega)]
  | c :: cs, l, off, j, h => by
    simp only [List.length_cons] at h
    simp only [setAll]
    rw [setAll_get cs (l.set off c) (off + 1) j (by simp; omega)]
    simp only [List.length_cons]
    by_cases e : j = off
    · subst e
      rw [if_neg (by omega), if_pos (by omega)]
      simp only [Nat.sub_self, List.getElem?_cons_zero]
      rw [List.getElem?_set_self (by omega)]
    · by_cases e2 : off + 1 ≤ j ∧ j < off + 1 + cs.length
      · rw [if_pos e2, if_pos (by omega)]
        rw [show j - off = (j - (off + 1)) + 1 from by omega]
        simp
      · rw [if_neg e2, if_neg (by omega), List.getElem?_set_ne (by omega)]

section
variable {P : Program} {E : Env} {H : Heap} {o : Oper} {t s e : TypeId} {d : TypeDesc} {size bytes sz : Nat} {z : List Value} {fields : Array Field} {k : IntKind}

/-- A value that is known to the last bit. -/
theorem OpV.same {p q : PV} (h : OpV P o E H p) (e : p = q) : OpV P o E H q := e ▸ h

theorem rep_v {m : Mp} {w : World} {x v : Value} (h : Rep m w (.v x) v) : v = x := by cases h; rfl

theorem OpV_move {x : Operand} {p : PV} (ho : o.op = .move x) (hx : E.ev x = some p) : OpV P o E H p := fun m w ρ _ hρ =>
  ⟨ρ x, by simp [execOp, ho], hρ x p hx⟩

theorem OpV_assign {x : Operand} {p : PV} (ho : o.op = .assign x) (hx : E.ev x = some p) : OpV P o E H p := fun m w ρ _ hρ =>
  ⟨ρ x, by simp [execOp, ho], hρ x p hx⟩

theorem OpV_pick_t {c a b : Operand} {t : Bool} {p : PV} (ho : o.op = .pick c a b) (hc : E.ev c = some (.v (.bool t))) (ht : t = true) (ha : E.ev a = some p) : OpV P o E H p := fun m w ρ _ hρ => by
  have h1 := rep_v (hρ c _ hc)
  refine ⟨ρ a, by simp [execOp, ho, h1, asBool, ht], hρ a p ha⟩

theorem OpV_pick_f {c a b : Operand} {t : Bool} {p : PV} (ho : o.op = .pick c a b) (hc : E.ev c = some (.v (.bool t))) (ht : t = false) (hb : E.ev b = some p) : OpV P o E H p := fun m w ρ _ hρ => by
  have h1 := rep_v (hρ c _ hc)
  refine ⟨ρ b, by simp [execOp, ho, h1, asBool, ht], hρ b p hb⟩

/-- Two operands whose values are known. -/
def toV : PV → Option Value
  | .v x => some x
  | .agg cs => match cs.mapM (fun | .v x => some x | _ => none) with
    | some xs => some (.agg xs.toArray)
    | none => none
  | _ => none

theorem mapM_v : ∀ (cs : List PV) (xs : List Value), cs.mapM (fun (p : PV) => match p with | .v x => some x | _ => none) = some xs → cs = xs.map PV.v
  | [], xs, h => by simp at h; subst h; rfl
  | c :: cs, xs, h => by
    rw [List.mapM_cons] at h
    cases c with
    | v x =>
      simp only [Option.bind_eq_bind, Option.bind_some, Option.bind_eq_some_iff, Option.pure_def, Option.some.injEq] at h
      obtain ⟨ys, hy, rfl⟩ := h
      rw [mapM_v cs ys hy]; rfl
    | _ => simp at h

theorem toV_rep {m : Mp} {w : World} {p : PV} {x v : Value} (h : Rep m w p v) (hp : toV p = some x) : v = x := by
  cases p with
  | v y => simp only [toV] at hp; cases hp; exact rep_v h
  | agg cs =>
    simp only [toV] at hp
    split at hp
    · rename_i xs hx
      cases hp
      have e := mapM_v cs xs hx
      subst e
      cases h with
      | agg vs hl hh =>
        congr 1
        apply Array.ext
        · simpa using hl
        · intro i h1 h2
          simp only [List.size_toArray] at h2
          have := hh i (.v xs[i]) (by simp [h2])
          have := rep_v this
          simpa [Array.getD_eq_getD_getElem?, h1] using this
    · cases hp
  | _ => simp [toV] at hp

theorem OpV_bin {op : BinOp} {t ty : TypeId} {x y : Operand} {px py : PV} {vx vy r : Value} (ho : o.op = .binOp op t x y ty) (hx : E.ev x = some px) (hy : E.ev y = some py) (hvx : toV px = some vx) (hvy : toV py = some vy)
    (h : ∀ w, (do eqGuard op t x y vx vy; binOp op t vx vy : Sem Value).run P w = .ok r w) (hr : noAgg r = true) : OpV P o E H (.v r) := fun m w ρ _ hρ => by
  have h1 := toV_rep (hρ x _ hx) hvx
  have h2 := toV_rep (hρ y _ hy) hvy
  refine ⟨r, ?_, .v r hr⟩
  have := h w
  simp only [execOp, ho, h1, h2, Sem.run_bind] at this ⊢
  rw [this]
  rfl

theorem OpV_cmp {op : BinOp} {t ty : TypeId} {x y : Operand} {k : IntKind} {a b : Int} {r : Bool} (ho : o.op = .binOp op t x y ty) (hx : E.ev x = some (.v (.int k a))) (hy : E.ev y = some (.v (.int k b)))
    (hr : (match op with | .eql => some (decide (a = b)) | .neq => some (!decide (a = b)) | .lss => some (decide (a < b)) | .leq => some (decide (a ≤ b)) | .gtr => some (decide (b < a)) | .geq => some (decide (b ≤ a)) | _ => none) = some r) :
    OpV P o E H (.v (.bool r)) := OpV_bin ho hx hy rfl rfl (fun w => by
  cases op <;> simp only at hr <;> cases hr
  · simp [eqGuard_at_int, binOp_eql]; rfl
  · simp [eqGuard_at_int, binOp_neq]; rfl
  · simp [eqGuard_at_int, binOp_lss]
  · simp [eqGuard_at_int, binOp_leq]
  · simp [eqGuard_at_int, binOp_gtr]
  · simp [eqGuard_at_int, binOp_geq]) rfl

theorem OpV_add {t ty : TypeId} {x y : Operand} {a b : Int} (ho : o.op = .binOp .add t x y ty) (hx : E.ev x = some (.v (.int .i64 a))) (hy : E.ev y = some (.v (.int .i64 b)))
    (h : -9223372036854775808 ≤ a + b ∧ a + b ≤ 9223372036854775807) : OpV P o E H (.v (.int .i64 (a + b))) := OpV_bin ho hx hy rfl rfl (fun w => by
  have e : IntKind.i64.wrap (a + b) = a + b := by rw [IntKind.wrap_i64]; omega
  simp [eqGuard_at_int, binOp_add, Op.intArith, e]) rfl

theorem OpV_sub {t ty : TypeId} {x y : Operand} {a b : Int} (ho : o.op = .binOp .sub t x y ty) (hx : E.ev x = some (.v (.int .i64 a))) (hy : E.ev y = some (.v (.int .i64 b)))
    (h : -9223372036854775808 ≤ a - b ∧ a - b ≤ 9223372036854775807) : OpV P o E H (.v (.int .i64 (a - b))) := OpV_bin ho hx hy rfl rfl (fun w => by
  have e : IntKind.i64.wrap (a - b) = a - b := by rw [IntKind.wrap_i64]; omega
  simp [eqGuard_at_int, binOp_sub, Op.intArith, e]) rfl

theorem OpV_mul {t ty : TypeId} {x y : Operand} {a b : Int} (ho : o.op = .binOp .mul t x y ty) (hx : E.ev x = some (.v (.int .i64 a))) (hy : E.ev y = some (.v (.int .i64 b)))
    (h : -9223372036854775808 ≤ a * b ∧ a * b ≤ 9223372036854775807) : OpV P o E H (.v (.int .i64 (a * b))) := OpV_bin ho hx hy rfl rfl (fun w => by
  have e : IntKind.i64.wrap (a * b) = a * b := by rw [IntKind.wrap_i64]; generalize a * b = c at *; omega
  simp [eqGuard_at_int, binOp_mul, Op.intArith, e]) rfl

theorem OpV_rem {t ty : TypeId} {x y : Operand} {k : IntKind} {a b : Int} (ho : o.op = .binOp .rem t x y ty) (hx : E.ev x = some (.v (.int k a))) (hy : E.ev y = some (.v (.int k b)))
    (h : b ≠ 0) : OpV P o E H (.v (.int k (a.tmod b))) := OpV_bin ho hx hy rfl rfl (fun w => by
  simp [eqGuard_at_int, binOp_rem, Op.intDiv, h]) rfl

theorem OpV_beq [hu : HasU P t .bool] {ty : TypeId} {x y : Operand} {a b : Bool} (ho : o.op = .binOp .eql t x y ty) (hx : E.ev x = some (.v (.bool a))) (hy : E.ev y = some (.v (.bool b))) :
    OpV P o E H (.v (.bool (a == b))) := OpV_bin ho hx hy rfl rfl (fun w => by
  simp [eqGuard_at_bool, run_eql_bool _ _ _ _ hu.u]) rfl

theorem OpV_bne [hu : HasU P t .bool] {ty : TypeId} {x y : Operand} {a b : Bool} (ho : o.op = .binOp .neq t x y ty) (hx : E.ev x = some (.v (.bool a))) (hy : E.ev y = some (.v (.bool b))) :
    OpV P o E H (.v (.bool (!(a == b)))) := OpV_bin ho hx hy rfl rfl (fun w => by
  have h : ∀ n, (Op.equalIn (n + 1) t (.bool a) (.bool b)).run P w = .ok (a == b) w := fun n => run_equalIn_bool' w n t a b hu.u
  simp [eqGuard_at_bool, binOp, Op.equal, Op.maxDepth, h 9999]) rfl

/-- 'x != nil', 'x == nil' at a pointer's type. -/
theorem OpV_nilptr [hu : HasU P t (.pointer e)] {op : BinOp} {ty : TypeId} {x : Operand} {p : PV} {r : Bool} (ho : o.op = .binOp op t x (.const (.pointer none)) ty) (hx : E.ev x = some p)
    (hr : (match op, p with | .eql, .ptr _ _ => some false | .eql, .ept _ _ => some false | .eql, .v (.pointer none) => some true | .neq, .ptr _ _ => some true | .neq, .ept _ _ => some true | .neq, .v (.pointer none) => some false | _, _ => none) = some r) :
    OpV P o E H (.v (.bool r)) := fun m w ρ _ hρ => by
  have h1 := hρ x p hx
  have h2 := rep_v (hρ (.const (.pointer none)) _ rfl)
  refine ⟨.bool r, ?_, .v _ rfl⟩
  have key : ∃ q, ρ x = .pointer q ∧ ((op = .eql ∧ r = q.isNone) ∨ (op = .neq ∧ r = !q.isNone)) := by
    generalize ρ x = v at h1
    cases h1 with
    | ptr hb => cases op <;> simp only at hr <;> cases hr <;> exact ⟨_, rfl, by simp⟩
    | ept f a b c => cases op <;> simp only at hr <;> cases hr <;> exact ⟨_, rfl, by simp⟩
    | v _ hy =>
      cases v with
      | pointer q =>
        cases q with
        | none => cases op <;> simp only at hr <;> cases hr <;> exact ⟨_, rfl, by simp⟩
        | some q => cases op <;> simp at hr
      | _ => cases op <;> simp at hr
    | _ => cases op <;> simp at hr
  obtain ⟨q, e1, he⟩ := key
  have hp : P.underlying t = some (.pointer (P.pointee t)) := by simp [Program.pointee, hu.u]
  rcases he with ⟨rfl, rfl⟩ | ⟨rfl, rfl⟩
  · simp [execOp, ho, e1, h2, eqGuard_at_pointer, run_eql_pointer_nil _ _ _ hp]
  · simp [execOp, ho, e1, h2, eqGuard_at_pointer, run_neq_pointer_nil _ _ _ hp]

theorem OpV_not {t : TypeId} {x : Operand} {b : Bool} (ho : o.op = .unOp .not t x) (hx : E.ev x = some (.v (.bool b))) : OpV P o E H (.v (.bool (!b))) := fun m w ρ _ hρ => by
  have h1 := rep_v (hρ x _ hx)
  exact ⟨.bool (!b), by simp [execOp, ho, h1, Op.unary], .v _ rfl⟩

def lenA : PV → Option Nat
  | .sl _ _ len _ => some len
  | .tr _ len _ => some len
  | .v (.slice none n _) => some n
  | _ => none

theorem lenA_rep {m : Mp} {w : World} {p : PV} {n : Nat} {v : Value} (h : Rep m w p v) (hl : lenA p = some n) : ∃ a c, v = .slice a n c := by
  cases h with
  | sl _ _ _ _ => simp only [lenA] at hl; cases hl; exact ⟨_, _, rfl⟩
  | sl0 a => simp only [lenA] at hl; cases hl; exact ⟨_, _, rfl⟩
  | tr f _ _ _ _ _ _ => simp only [lenA] at hl; cases hl; exact ⟨_, _, rfl⟩
  | tr0 a _ => simp only [lenA] at hl; cases hl; exact ⟨_, _, rfl⟩
  | trn => simp only [lenA] at hl; cases hl; exact ⟨_, _, rfl⟩
  | v _ hx => cases v with
    | slice a k c => cases a with
      | none => simp only [lenA] at hl; cases hl; exact ⟨_, _, rfl⟩
      | some a => simp [lenA] at hl
    | _ => simp [lenA] at hl
  | _ => simp [lenA] at hl

theorem OpV_len [hu : HasU P t (.slice e)] {x : Operand} {p : PV} {n : Nat} (ho : o.op = .call { callee := .builtin .len, args := #[x], argTypes := #[t] }) (hx : E.ev x = some p) (hl : lenA p = some n) :
    OpV P o E H (.v (.int .i64 (n : Int))) := fun m w ρ _ hρ => by
  obtain ⟨a, c, h⟩ := lenA_rep (hρ x p hx) hl
  refine ⟨.int .i64 n, ?_, .v _ rfl⟩
  simp [execOp, ho, resolve, invoke, builtin, h, Builtin.len_, run_underlying hu.u, goInt]

theorem OpV_load [hu : HasU P t d] [hi : HasI P t size bytes z] {x : Operand} {p q : PV} (ho : o.op = .load t x) (hx : E.ev x = some p) (hl : loadA d size H p = some q) : OpV P o E H q := fun m w ρ hR hρ => by
  obtain ⟨i, zv, h1, rfl, _⟩ := hi.i
  obtain ⟨a, u, e, hrun, hr⟩ := run_loadVar hR hu.u h1 (hρ x p hx) hl
  refine ⟨u, ?_, hr⟩
  simp [execOp, ho, e, Instr.loadAt, Instr.sureAddr, hrun]

def shiftA (p : PV) (k : Nat) : Option PV :=
  match p with
  | .ptr id off => some (.ptr id (off + k))
  | .ept cells off => some (.ept cells (off + k))
  | _ => none

theorem shiftA_rep {m : Mp} {w : World} {p q : PV} {k : Nat} {v : Value} (h : Rep m w p v) (hs : shiftA p k = some q) : ∃ a, v = .pointer (some a) ∧ Rep m w q (.pointer (some (a.add k))) := by
  cases h with
  | ptr hb => simp only [shiftA] at hs; cases hs; exact ⟨_, rfl, by rw [Addr.add_mk, Nat.add_assoc]; exact .ptr hb⟩
  | ept f a b c => simp only [shiftA] at hs; cases hs; exact ⟨_, rfl, by rw [Addr.add_mk, Nat.add_assoc]; exact .ept f a b c⟩
  | _ => simp [shiftA] at hs

theorem OpV_fieldAddr {places : List (Nat × Nat)} [hb : HasB P s places] {x : Operand} {k off sz : Nat} {p q : PV} (ho : o.op = .fieldAddr s x k) (hx : E.ev x = some p) (hf : places[k]? = some (off, sz + 1))
    (hq : shiftA p off = some q) : OpV P o E H q := fun m w ρ hR hρ => by
  obtain ⟨a, e, hr⟩ := shiftA_rep (hρ x p hx) hq
  obtain ⟨fields, fl, i, h1, h2, h3, h4, h5⟩ := HasB.spot (P := P) (t := s) hf
  subst h3
  refine ⟨_, ?_, hr⟩
  simp [execOp, ho, e, Instr.fieldAt, run_underlying h1, h2, Instr.sureAddr, fieldPlace, run_sizeOf h4, h5]

theorem OpV_nilCheck {x : Operand} {p : PV} (ho : o.op = .nilCheck x) (hx : E.ev x = some p) (hp : (match p with | .ptr _ _ => true | .ept _ _ => true | _ => false) = true) : OpV P o E H p := fun m w ρ hR hρ => by
  have h := hρ x p hx
  refine ⟨ρ x, ?_, h⟩
  generalize hv : ρ x = v at h
  cases h <;> simp at hp <;> simp [execOp, ho, hv]

/-- The address of an element. -/
def indexA (p : PV) (sz : Nat) (i : Nat) : Option PV :=
  match p with
  | .sl id off _ _ => some (.ptr id (off + i * sz))
  | .tr cells _ _ => some (.ept cells (i * sz))
  | _ => none

theorem OpV_indexAddr [hu : HasU P t (.slice e)] [hi : HasI P e sz bytes z] {x y : Operand} {k : IntKind} {i : Int} {n : Nat} {p q : PV} (ho : o.op = .indexAddr t x y) (hx : E.ev x = some p) (hy : E.ev y = some (.v (.int k i)))
    (hn : lenA p = some n) (hq : indexA p sz i.toNat = some q) (h : 0 ≤ i ∧ i < n) : OpV P o E H q := fun m w ρ hR hρ => by
  have h1 := hρ x p hx
  have h2 := rep_v (hρ y _ hy)
  obtain ⟨inf, zv, h3, h4, _⟩ := hi.i
  have key : ∃ a c, ρ x = .slice (some a) n c ∧ Rep m w q (.pointer (some (a.add (i.toNat * sz)))) := by
    generalize ρ x = v at h1
    cases h1 with
    | sl hb a1 a2 a3 =>
      simp only [lenA] at hn; cases hn
      simp only [indexA] at hq; cases hq
      exact ⟨_, _, rfl, by rw [Addr.add_mk, Nat.add_assoc]; exact .ptr hb⟩
    | sl0 a => simp only [lenA] at hn; cases hn; omega
    | tr f a1 a2 a3 a4 a5 a6 =>
      simp only [lenA] at hn; cases hn
      simp only [indexA] at hq; cases hq
      exact ⟨_, _, rfl, by rw [Addr.add_mk]; exact .ept f a1 a5 a6⟩
    | tr0 a a2 => simp only [lenA] at hn; cases hn; omega
    | trn => simp only [lenA] at hn; cases hn; omega
    | v x hx => simp [indexA] at hq
    | _ => simp [indexA] at hq
  obtain ⟨a, c, e1, hr⟩ := key
  refine ⟨_, ?_, hr⟩
  simp [execOp, ho, e1, h2, Instr.indexAt, run_underlying hu.u, asIntOf, h, run_sizeOf h3, h4]

theorem OpV_extract {x : Operand} {ps : List PV} {k : Nat} {p : PV} (ho : o.op = .extract x k) (hx : E.ev x = some (.tup ps)) (hk : ps[k]? = some p) : OpV P o E H p := fun m w ρ hR hρ => by
  have h := hρ x _ hx
  generalize hv : ρ x = v at h
  cases h with
  | tup vs hl hh =>
    have hlt : k < vs.size := by rw [hl]; exact (List.getElem?_eq_some_iff.1 hk).1
    refine ⟨vs[k], ?_, by simpa [Array.getD_eq_getD_getElem?, hlt] using hh k p hk⟩
    simp [execOp, ho, hv, Instr.extract, hlt]

theorem OpV_max {ts : Array TypeId} {x y : Operand} {k : IntKind} {a b : Int} (ho : o.op = .call { callee := .builtin .max, args := #[x, y], argTypes := ts }) (hx : E.ev x = some (.v (.int k a))) (hy : E.ev y = some (.v (.int k b))) :
    OpV P o E H (.v (.int k (max a b))) := fun m w ρ hR hρ => by
  have h1 := rep_v (hρ x _ hx)
  have h2 := rep_v (hρ y _ hy)
  refine ⟨_, ?_, .v _ rfl⟩
  have e : (if b > a then b else a) = max a b := by split <;> omega
  simp [execOp, ho, resolve, invoke, builtin, h1, h2, run_max_int2, e]

theorem OpV_min {ts : Array TypeId} {x y : Operand} {k : IntKind} {a b : Int} (ho : o.op = .call { callee := .builtin .min, args := #[x, y], argTypes := ts }) (hx : E.ev x = some (.v (.int k a))) (hy : E.ev y = some (.v (.int k b))) :
    OpV P o E H (.v (.int k (min a b))) := fun m w ρ hR hρ => by
  have h1 := rep_v (hρ x _ hx)
  have h2 := rep_v (hρ y _ hy)
  refine ⟨_, ?_, .v _ rfl⟩
  have e : (if b < a then b else a) = min a b := by split <;> omega
  simp [execOp, ho, resolve, invoke, builtin, h1, h2, run_min_int2, e]

theorem OpV_convert [hs : HasU P s d] [hd : HasU P t (.int k)] {x : Operand} {j : IntKind} {a : Int} {b : Int} (ho : o.op = .convert s t x) (hx : E.ev x = some (.v (.int j a))) (hb : k.wrap a = b) :
    OpV P o E H (.v (.int k b)) := fun m w ρ hR hρ => by
  have h1 := rep_v (hρ x _ hx)
  refine ⟨.int k b, ?_, .v _ rfl⟩
  simp [execOp, ho, h1, convert, run_underlying hs.u, run_underlying hd.u, Conv.intToInt, hb]

theorem OpV_makeFunc {f : Fn} {caps : Array Operand} {ps : List PV} (ho : o.op = .makeFunc f #[] caps) (hp : evs E caps.toList = some ps) : OpV P o E H (.fn f ps) := fun m w ρ hR hρ => by
  obtain ⟨e1, e2⟩ := evs_rep (m := m) (w := w) hρ caps.toList ps hp
  refine ⟨.func f #[] (caps.map ρ), by simp [execOp, ho, Instr.makeFunc], .fn _ (by simp [e1]) fun j c hj => ?_⟩
  have := e2 j c hj
  simpa [Array.getD_eq_getD_getElem?, List.getD_eq_getElem?_getD] using this

end
end Go.Th
