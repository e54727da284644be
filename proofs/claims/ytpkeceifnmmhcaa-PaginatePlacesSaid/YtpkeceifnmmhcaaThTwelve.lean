/- A store into the newest block; a heap by another name. -/
import Derived.Test.YtpkeceifnmmhcaaThEleven
namespace Go.Th
open Go.RowKit

theorem setAll_zero : ∀ (cs l pre : List PV), cs.length = l.length → setAll (pre ++ l) pre.length cs = pre ++ cs
  | [], l, pre, h => by
    have : l = [] := List.length_eq_zero_iff.1 h.symm
    subst this; rfl
  | c :: cs, [], pre, h => by simp at h
  | c :: cs, a :: l, pre, h => by
    have e : (pre ++ a :: l).set pre.length c = (pre ++ [c]) ++ l := by
      rw [List.set_append_right _ _ (Nat.le_refl _)]; simp
    have e2 : pre.length + 1 = (pre ++ [c]).length := by simp
    rw [setAll, e, e2, setAll_zero cs l (pre ++ [c]) (by simpa using h)]
    simp

theorem set_new (H : Heap) (a b : Option Blk) : (H ++ [a]).set H.length b = H ++ [b] := by
  rw [List.set_append_right _ _ (Nat.le_refl _)]; simp

section
variable {P : Program} {n : Nat} {Q : QA} {E : Env} {H : Heap} {o : Oper} {t : TypeId} {size bytes : Nat} {z : List Value} {B : Blk}

theorem OpS_store_new [hi : HasI P t size bytes z] {x y : Operand} {cs : List PV} (ho : o.op = .store t x y) (hx : E.ev x = some (.ptr H.length 0)) (hy : E.ev y = some (.agg cs)) (hsz : Nat.beq cs.length size = true) (h1 : cs.all pvOne = true)
    (hown : B.own = true) (hle : Nat.beq cs.length B.cells.length = true) : OpS P o E (H ++ [some B]) (H ++ [some ⟨cs, B.elem, true⟩]) := by
  have hl := Nat.eq_of_beq_eq_true hle
  have h2 := OpS_store_at (P := P) (o := o) (E := E) (H := H ++ [some B]) (B := B) (cs := cs) (hi := hi) ho hx hy (get_new H (some B)) hsz h1 hown (by simp [cellsOf, hl]) (setAll_zero cs B.cells [] hl)
  rw [set_new] at h2
  obtain ⟨b1, b2, b3⟩ := B
  simp only at hown
  subst hown
  exact h2

theorem OpS_store_new1 [hi : HasI P t 1 bytes z] {x y : Operand} {q : PV} (ho : o.op = .store t x y) (hx : E.ev x = some (.ptr H.length 0)) (hy : E.ev y = some q) (hq : cellsOf q = [q]) (h1 : pvOne q = true)
    (hown : B.own = true) (hle : Nat.beq 1 B.cells.length = true) : OpS P o E (H ++ [some B]) (H ++ [some ⟨[q], B.elem, true⟩]) := by
  have hl := Nat.eq_of_beq_eq_true hle
  have h2 := OpS_store_at (P := P) (o := o) (E := E) (H := H ++ [some B]) (B := B) (cs := [q]) (hi := hi) ho hx hy (get_new H (some B)) (by rw [hq]; rfl) (by rw [hq]; simp [h1]) hown (by simp [hq, hl]) (by rw [hq]; exact setAll_zero [q] B.cells [] hl)
  rw [set_new] at h2
  obtain ⟨b1, b2, b3⟩ := B
  simp only at hown
  subst hown
  exact h2

theorem wpA_heq {c : Code} {G G' : Heap} (e : G = G') (h : wpA P n c Q E G') : wpA P n c Q E G := e ▸ h

variable {l : List Oper} {acc : List PV} {Hs : Nat → Heap} {i : Nat} {os : List Oper} {p : PV} {d : Nat} {K : Env → Prop}

/-- A call, in a region that draws its order. -/
theorem D_c {H H' : Heap} (c : Nat) (hc : nLoud l i = c) (h1 : Hs c = H) (hg : o.guard = none) (hl : loudOp o = true) (hd : o.dst = some d) (hn : d < n) (h : OpK P o (opEnv o E) H p H') (h2 : Hs (c + 1) = H') (k : DX P n l Hs (i + 1) os (acc ++ [p]) ((d, p) :: E) K) : DX P n l Hs i (o :: os) acc E K := by
  refine ⟨p, ⟨fun d' hd' => by rw [hd] at hd'; cases hd'; exact hn, ?_⟩, by rw [hd]; exact k⟩
  rw [hg, hl, hc, h1, h2]
  exact h
end

theorem set_app {H : Heap} {i : Nat} (h : i < H.length) (c : Option Blk) (t : Heap) : (H ++ t).set i c = H.set i c ++ t := List.set_append_left _ _ h
theorem set_self {H : Heap} {i : Nat} {b : Option Blk} (h : H[i]? = some b) : H.set i b = H := by
  have := lt_of_get h
  apply List.ext_getElem?
  intro j
  by_cases e : i = j
  · subst e; rw [List.getElem?_set_self this, h]
  · rw [List.getElem?_set_ne e]

section
variable {P : Program} {n : Nat} {Q : QA} {E : Env} {H : Heap} {ops : Array Oper} {rest : List Oper}
theorem wpL_ac {o : Oper} {c : Call} {x : Operand} {g : FuncId} {cap args : List PV} {QC : PV → Heap → Prop} {d : Nat} (hg : o.guard = none) (ho : o.op = .call c) (hc : c.callee = .value x) (hx : E.ev x = some (.fn (.func g) cap))
    (ha : evs E c.args.toList = some args) (hdd : o.dst = some d) (hd : d < n) (h : AC P g (args ++ cap) H QC)
    (k : ∀ p H', QC p H' → wpL P n ops rest Q ((d, p) :: E) H') : wpL P n ops (o :: rest) Q E H :=
  wpL_call hg ho hc hx ha h (by rw [hdd]; exact hd) fun p H' hq => by rw [hdd]; exact k p H' hq
theorem wpL_is {o : Oper} {c : Call} {x : Operand} {g : FuncId} {cap args : List PV} {QC : PV → Prop} {d : Nat} (hg : o.guard = none) (ho : o.op = .call c) (hc : c.callee = .value x) (hx : E.ev x = some (.fn (.func g) cap))
    (ha : evs E c.args.toList = some args) (hdd : o.dst = some d) (hd : d < n) (h : Iso P g (args ++ cap) QC) (ht : ∀ c ∈ args ++ cap, Tree c)
    (k : ∀ p, QC p → wpL P n ops rest Q ((d, p) :: E) H) : wpL P n ops (o :: rest) Q E H :=
  wpL_iso hg ho hc hx ha h ht (by rw [hdd]; exact hd) fun p hq => by rw [hdd]; exact k p hq
end

theorem wpA_cut2 {P : Program} {n : Nat} {Q Q2 : QA} {E : Env} {H : Heap} {x y : Code} {S : Type} (En : S → Env) (Hp : S → Heap → Prop) (h : wpA P n x (thenA (fun E' H' => ∃ s, Sub (En s) E' ∧ Hp s H') Q2) E H) (k : ∀ s H', Hp s H' → wpA P n y Q (En s) H') : wpA P n x (thenA (wpA P n y Q) Q2) E H := by
  refine wpA_mono h ?_
  intro e E2 G2 hq
  cases e with
  | normal =>
    obtain ⟨s, h1, h2⟩ := hq
    exact wpA_weaken h1 (k s _ h2)
  | exit id => exact hq
  | goto l => exact hq
  | ret => exact hq
  | panic c => exact hq
  | outgrown => exact hq

theorem TreeL.nil : ∀ c ∈ ([] : List PV), Tree c := fun c h => by simp at h
theorem TreeL.cons {p : PV} {l : List PV} (h : Tree p) (k : ∀ c ∈ l, Tree c) : ∀ c ∈ p :: l, Tree c := fun c hc => by
  rcases List.mem_cons.1 hc with rfl | hc
  · exact h
  · exact k c hc
end Go.Th
