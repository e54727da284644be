/- Loops by what the slots say, blocks that are known among unknown ones. -/
import Derived.Test.YtpkeceifnmmhcaaThTen
namespace Go.Th
open Go.RowKit

def Sub (E' E : Env) : Prop := ∀ t p, E'.get t = some p → E.get t = some p
theorem Sub.nil (E : Env) : Sub [] E := fun t p h => by simp [Env.get] at h
theorem Sub.cons {E' E : Env} {t : Nat} {p : PV} (h : E.get t = some p) (k : Sub E' E) : Sub ((t, p) :: E') E := fun t' q hq => by
  rw [Env.get_cons] at hq
  by_cases e : t = t'
  · subst e; rw [if_pos rfl] at hq; cases hq; exact h
  · rw [if_neg e] at hq; exact k t' q hq

section
variable {P : Program} {n : Nat} {Q : QA} {E : Env} {H : Heap} {ops : Array Oper} {rest : List Oper}

theorem wpA_sub {c : Code} (E' : Env) (hs : Sub E' E) (h : wpA P n c Q E' H) : wpA P n c Q E H := wpA_weaken hs h

/-- A loop, by a state of the mind: what the slots say of it, what the heap says of it, a measure. -/
theorem wpA_loopS {S : Type} {c : Code} (En : S → Env) (Hp : S → Heap → Prop) (μ : S → Nat) (s0 : S) (hE : Sub (En s0) E) (hH : Hp s0 H)
    (round : ∀ s G, Hp s G → wpA P n c (thenA (fun E' G' => ∃ s', μ s' < μ s ∧ Sub (En s') E' ∧ Hp s' G') Q) (En s) G) : wpA P n (.loop c) Q E H := by
  refine wpA_loop (fun k E G => ∃ s, μ s = k ∧ Sub (En s) E ∧ Hp s G) (k := μ s0) ⟨s0, rfl, hE, hH⟩ ?_
  rintro k E1 G ⟨s, rfl, hs, hg⟩
  refine wpA_weaken hs (wpA_mono (round s G hg) ?_)
  intro e E2 G2 hq
  cases e with
  | normal =>
    obtain ⟨s', h1, h2, h3⟩ := hq
    exact ⟨μ s', h1, s', rfl, h2, h3⟩
  | exit id => exact hq
  | goto l => exact hq
  | ret => exact hq
  | panic c => exact hq
  | outgrown => exact hq

/-- A piece of code whose ways meet again. -/
theorem wpA_cut {x y : Code} {S : Type} (En : S → Env) (Hp : S → Heap → Prop) (h : wpA P n x (thenA (fun E' H' => ∃ s, Sub (En s) E' ∧ Hp s H') Q) E H) (k : ∀ s H', Hp s H' → wpA P n y Q (En s) H') : wpA P n (.seq x y) Q E H :=
  wpA_seq_cut (fun E' H' => ∃ s, Sub (En s) E' ∧ Hp s H') h fun _ H' ⟨s, h1, h2⟩ => wpA_weaken h1 (k s H' h2)
end

/-! ### Blocks that are known -/

/-- H' is H with new blocks. -/
def HExt (H H' : Heap) : Prop := H.length ≤ H'.length ∧ ∀ i, i < H.length → H'[i]? = H[i]?
/-- The same, but for block id. -/
def HBut (id : Nat) (H H' : Heap) : Prop := H.length ≤ H'.length ∧ ∀ i, i < H.length → i ≠ id → H'[i]? = H[i]?

theorem HExt.refl (H : Heap) : HExt H H := ⟨Nat.le_refl _, fun _ _ => rfl⟩
theorem HExt.trans {A B C : Heap} (h : HExt A B) (k : HExt B C) : HExt A C := ⟨Nat.le_trans h.1 k.1, fun i hi => (k.2 i (Nat.lt_of_lt_of_le hi h.1)).trans (h.2 i hi)⟩
theorem HExt.app (H t : Heap) : HExt H (H ++ t) := ⟨by simp, fun i hi => List.getElem?_append_left hi⟩
theorem HExt.get {H H' : Heap} (h : HExt H H') {i : Nat} {b : Option Blk} (hi : H[i]? = some b) : H'[i]? = some b := by
  have := (List.getElem?_eq_some_iff.1 hi).1
  rw [h.2 i this]; exact hi
theorem HBut.refl (id : Nat) (H : Heap) : HBut id H H := ⟨Nat.le_refl _, fun _ _ _ => rfl⟩
theorem HBut.trans {id : Nat} {A B C : Heap} (h : HBut id A B) (k : HBut id B C) : HBut id A C := ⟨Nat.le_trans h.1 k.1, fun i hi hne => (k.2 i (Nat.lt_of_lt_of_le hi h.1) hne).trans (h.2 i hi hne)⟩
theorem HExt.but {H H' : Heap} (h : HExt H H') (id : Nat) : HBut id H H' := ⟨h.1, fun i hi _ => h.2 i hi⟩
theorem HBut.set (id : Nat) (H : Heap) (b : Option Blk) : HBut id H (H.set id b) := ⟨by simp, fun i hi hne => by rw [List.getElem?_set_ne (fun e => hne e.symm)]⟩
theorem HBut.get {id : Nat} {H H' : Heap} (h : HBut id H H') {i : Nat} {b : Option Blk} (hi : H[i]? = some b) (hne : i ≠ id) : H'[i]? = some b := by
  have := (List.getElem?_eq_some_iff.1 hi).1
  rw [h.2 i this hne]; exact hi
/-- A block of one's own that has turned is new to the caller. -/
theorem HBut.ext {id : Nat} {H H' : Heap} {G : Heap} (h : HBut id H H') (k : HExt G H) (hid : G.length ≤ id) : HExt G H' :=
  ⟨Nat.le_trans k.1 h.1, fun i hi => (h.2 i (Nat.lt_of_lt_of_le hi k.1) (by omega)).trans (k.2 i hi)⟩

theorem get_app {H : Heap} {t : Heap} {i : Nat} {b : Option Blk} (h : H[i]? = some b) : (H ++ t)[i]? = some b := (HExt.app H t).get h
theorem get_new (H : Heap) (b : Option Blk) : (H ++ [b])[H.length]? = some b := by simp
theorem get_set {H : Heap} {i : Nat} {b c : Option Blk} (h : H[i]? = some b) : (H.set i c)[i]? = some c := by
  have := (List.getElem?_eq_some_iff.1 h).1
  simp [this]
theorem get_set_ne {H : Heap} {i j : Nat} {b c : Option Blk} (h : H[i]? = some b) (hne : j ≠ i) : (H.set j c)[i]? = some b := by
  rw [List.getElem?_set_ne hne]; exact h
theorem lt_of_get {H : Heap} {i : Nat} {b : Option Blk} (h : H[i]? = some b) : i < H.length := (List.getElem?_eq_some_iff.1 h).1

def loadC (d : TypeDesc) (size : Nat) (cells : List PV) (off : Nat) : Option PV :=
  match isAggD d with
  | true => match takeN size (cells.drop off) with
    | some cs => some (.agg cs)
    | none => none
  | false => match takeN 1 (cells.drop off) with
    | some [c] => some c
    | _ => none

section
variable {P : Program} {E : Env} {H : Heap} {o : Oper} {t : TypeId} {d : TypeDesc} {size bytes : Nat} {z : List Value} {id off : Nat} {B : Blk}

theorem OpV_load_at [hu : HasU P t d] [hi : HasI P t size bytes z] {x : Operand} {q : PV} (ho : o.op = .load t x) (hx : E.ev x = some (.ptr id off)) (hB : H[id]? = some (some B)) (hl : loadC d size B.cells off = some q) : OpV P o E H q :=
  OpV_load ho hx (by
    have e : loadA d size H (.ptr id off) = loadC d size B.cells off := by simp only [loadA, readA, hB]; rfl
    rw [e]; exact hl)

theorem OpS_store_at [hi : HasI P t size bytes z] {x y : Operand} {q : PV} {cs : List PV} (ho : o.op = .store t x y) (hx : E.ev x = some (.ptr id off)) (hy : E.ev y = some q) (hB : H[id]? = some (some B)) (hsz : Nat.beq (cellsOf q).length size = true) (h1 : (cellsOf q).all pvOne = true)
    (hown : B.own = true) (hle : Nat.ble (off + (cellsOf q).length) B.cells.length = true) (hcs : setAll B.cells off (cellsOf q) = cs) : OpS P o E H (H.set id (some { B with cells := cs })) :=
  OpS_store ho hx hy hsz h1 (by simp only [storeA, hB, hown, hle, Bool.and_self, hcs])

theorem sliceCells_at {sz len : Nat} {cs : List PV} (hB : H[id]? = some (some B)) (hc : takeN (len * sz) (B.cells.drop off) = some cs) : sliceCells H sz (.sl id off len sz) = some (len, cs) := by
  simp [sliceCells, hB, hc]

theorem appendA_at {e sz len k : Nat} {xs : List PV} (hB : H[id]? = some (some B)) (hown : B.own = true) (he : Nat.beq B.elem e = true) (hl : Nat.beq B.cells.length (len * sz) = true) :
    appendA H e sz (.sl id 0 len sz) k xs = some (len + k, .sl H.length 0 (len + k) sz, H.set id none ++ [some ⟨B.cells ++ xs, e, true⟩]) := by
  simp [appendA, hB, hown, he, hl]
end
/-! ### Regions that draw their order and write -/

def hsL (L : List Heap) (k : Nat) : Heap := L.getD k []

theorem wpA_dL {P : Program} {n : Nat} {l : List Oper} {E0 : Env} {Q : QA} {id : Nat} {G : Heap} (L : List Heap) (G' : Heap) {N : Nat} (hm : P.follows .mixedOrders = true) (hB : drawB l = true) (hN : nLoud l l.length = N) (hG : hsL (G :: L) N = G')
    (h : DX P n l (hsL (G :: L)) 0 l [] E0 (fun E => Q .normal E G')) : wpA P n (.region id l.toArray true) Q E0 G := by
  subst hN
  subst hG
  exact wpA_dx (Hs := hsL (G :: L)) hm hB h

end Go.Th
