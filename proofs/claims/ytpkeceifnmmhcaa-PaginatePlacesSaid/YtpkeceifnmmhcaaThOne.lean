/- Abstract values and heaps, how they stand for Go's values in a world, and what a step may change: definitions and their laws. No program in sight. -/
import Derived.WalkKit
namespace Go.Th
open Go.RowKit

/-- An abstract value. 'v x': x itself. 'ptr id off': a cell of block id. 'ept cells off': a cell among cells that never change. 'sl', 'tr': a slice of block id, a slice of cells that never change (len elements of sz cells). -/
inductive PV where
  | v (x : Value)
  | ptr (id off : Nat)
  | ept (cells : List PV) (off : Nat)
  | sl (id off len sz : Nat)
  | tr (cells : List PV) (len sz : Nat)
  | fn (f : Fn) (cap : List PV)
  | agg (cells : List PV)
  | tup (vs : List PV)
  deriving Inhabited

structure Blk where
  cells : List PV
  elem : TypeId
  own : Bool

abbrev Heap := List (Option Blk)

structure Mp where
  blk : Nat → Option (Nat × Nat × Nat)
  ro : Nat → Prop
  keep : Nat → Prop

def noAgg : Value → Bool
  | .agg _ => false
  | _ => true

inductive Rep (m : Mp) (w : World) : PV → Value → Prop
  | v (x : Value) (h : noAgg x = true) : Rep m w (.v x) x
  | ptr {id off b d lim : Nat} (h : m.blk id = some (b, d, lim)) : Rep m w (.ptr id off) (.pointer (some ⟨b, d + off, none⟩))
  | ept {cells : List PV} {off b o : Nat} (f : Nat → Value) (hr : m.ro b) (hc : ∀ j c, cells[j]? = some c → w.cell? ⟨b, o + j, none⟩ = some (f j))
      (h : ∀ j c, cells[j]? = some c → Rep m w c (f j)) : Rep m w (.ept cells off) (.pointer (some ⟨b, o + off, none⟩))
  | sl {id off len sz b d lim cap : Nat} (h : m.blk id = some (b, d, lim)) (h1 : len ≤ cap) (h2 : cap ≤ maxLen) (h3 : d + off + cap * sz ≤ lim) :
      Rep m w (.sl id off len sz) (.slice (some ⟨b, d + off, none⟩) len cap)
  | sl0 {id off sz : Nat} (a : Option Addr) : Rep m w (.sl id off 0 sz) (.slice a 0 0)
  | tr {cells : List PV} {len sz b o cap : Nat} (f : Nat → Value) (hr : m.ro b) (hl : cells.length = len * sz) (h1 : len ≤ cap) (h2 : cap ≤ maxLen)
      (hc : ∀ j c, cells[j]? = some c → w.cell? ⟨b, o + j, none⟩ = some (f j)) (h : ∀ j c, cells[j]? = some c → Rep m w c (f j)) : Rep m w (.tr cells len sz) (.slice (some ⟨b, o, none⟩) len cap)
  | tr0 {sz cap : Nat} (a : Addr) (h2 : cap ≤ maxLen) : Rep m w (.tr [] 0 sz) (.slice (some a) 0 cap)
  | trn {sz : Nat} : Rep m w (.tr [] 0 sz) (.slice none 0 0)
  | fn {f : Fn} {cap : List PV} (vs : Array Value) (hl : vs.size = cap.length) (h : ∀ j c, cap[j]? = some c → Rep m w c (vs.getD j undef)) : Rep m w (.fn f cap) (.func f #[] vs)
  | agg {cells : List PV} (vs : Array Value) (hl : vs.size = cells.length) (h : ∀ j c, cells[j]? = some c → Rep m w c (vs.getD j undef)) : Rep m w (.agg cells) (.agg vs)
  | tup {cells : List PV} (vs : Array Value) (hl : vs.size = cells.length) (h : ∀ j c, cells[j]? = some c → Rep m w c (vs.getD j undef)) : Rep m w (.tup cells) (.tuple vs)

structure Le (m : Mp) (w : World) (m' : Mp) (w' : World) : Prop where
  blk : ∀ id x, m.blk id = some x → m'.blk id = some x
  ro : ∀ b, m.ro b → m'.ro b
  keep : ∀ b, m.keep b → m'.keep b
  same : ∀ b, m.keep b → w'.heap[b]? = w.heap[b]?
  size : w.heap.size ≤ w'.heap.size
  os : w'.os = w.os
  tape : w'.tape = w.tape
  output : w'.output = w.output
  fresh : ∀ b, m'.ro b → m.ro b ∨ ¬ m.keep b

theorem Le.refl (m : Mp) (w : World) : Le m w m w := ⟨fun _ _ h => h, fun _ h => h, fun _ h => h, fun _ _ => rfl, Nat.le_refl _, rfl, rfl, rfl, fun _ h => .inl h⟩

theorem Le.trans {m m1 m2 : Mp} {w w1 w2 : World} (h : Le m w m1 w1) (k : Le m1 w1 m2 w2) : Le m w m2 w2 :=
  ⟨fun i x hx => k.blk i x (h.blk i x hx), fun b hb => k.ro b (h.ro b hb), fun b hb => k.keep b (h.keep b hb), fun b hb => (k.same b (h.keep b hb)).trans (h.same b hb),
    Nat.le_trans h.size k.size, k.os.trans h.os, k.tape.trans h.tape, k.output.trans h.output,
    fun b hb => (k.fresh b hb).elim (fun h1 => h.fresh b h1) (fun h1 => .inr fun h2 => h1 (h.keep b h2))⟩

theorem Le.cell {m m' : Mp} {w w' : World} (h : Le m w m' w') {b o : Nat} (hb : m.keep b) : w'.cell? ⟨b, o, none⟩ = w.cell? ⟨b, o, none⟩ :=
  World.cell?_of_block (w := w) (w' := w') (a := ⟨b, o, none⟩) (h.same b hb)

theorem Rep.mono' {m m' : Mp} {w w' : World} (hb : ∀ id x, m.blk id = some x → m'.blk id = some x) (hro : ∀ b, m.ro b → m'.ro b) (hcell : ∀ (b o : Nat), m.ro b → w'.cell? ⟨b, o, none⟩ = w.cell? ⟨b, o, none⟩) {p : PV} {v : Value} (r : Rep m w p v) : Rep m' w' p v := by
  induction r with
  | v x hx => exact .v x hx
  | ptr h => exact .ptr (hb _ _ h)
  | ept f hr hc _ ih => exact .ept f (hro _ hr) (fun j c hj => (hcell _ _ hr).trans (hc j c hj)) ih
  | sl h h1 h2 h3 => exact .sl (hb _ _ h) h1 h2 h3
  | sl0 a => exact .sl0 a
  | tr f hr hl h1 h2 hc _ ih => exact .tr f (hro _ hr) hl h1 h2 (fun j c hj => (hcell _ _ hr).trans (hc j c hj)) ih
  | tr0 a h2 => exact .tr0 a h2
  | trn => exact .trn
  | fn vs hl _ ih => exact .fn vs hl ih
  | agg vs hl _ ih => exact .agg vs hl ih
  | tup vs hl _ ih => exact .tup vs hl ih

theorem Rep.mono {m m' : Mp} {w w' : World} (hk : ∀ b, m.ro b → m.keep b) (h : Le m w m' w') {p : PV} {v : Value} (r : Rep m w p v) : Rep m' w' p v :=
  r.mono' h.blk h.ro fun b _ hb => h.cell (hk b hb)

/-- What one block of the abstract heap says. -/
def BlkRep (m : Mp) (w : World) (B : Blk) (b d lim : Nat) : Prop :=
  ∃ cur : Array Value, w.heap[b]? = some (.cells cur B.elem (0, 0)) ∧ cur.size = lim ∧ d + B.cells.length ≤ lim ∧
    ∀ j c, B.cells[j]? = some c → ∃ v, cur[d + j]? = some v ∧ Rep m w c v ∧ v.oneCell' = true

structure R (m : Mp) (H : Heap) (w : World) : Prop where
  rk : ∀ b, m.ro b → m.keep b
  kl : ∀ b, m.keep b → b < w.heap.size
  dom : ∀ id x, m.blk id = some x → id < H.length
  blk : ∀ id B b d lim, H[id]? = some (some B) → m.blk id = some (b, d, lim) → d = 0 ∧ BlkRep m w B b d lim ∧ (B.own = true → ¬ m.keep b) ∧ (B.own = false → m.ro b)
  inj : ∀ i j B C bi di li bj dj lj, i ≠ j → H[i]? = some (some B) → H[j]? = some (some C) → B.own = true → C.own = true → m.blk i = some (bi, di, li) → m.blk j = some (bj, dj, lj) → bi ≠ bj

theorem R.nil {m : Mp} {w : World} (h1 : ∀ b, m.ro b → m.keep b) (h2 : ∀ b, m.keep b → b < w.heap.size) (h3 : ∀ id, m.blk id = none) : R m [] w :=
  ⟨h1, h2, (fun id x h => by rw [h3 id] at h; cases h), (fun id B _ _ _ h => by simp at h), (fun i j B C _ _ _ _ _ _ _ h => by simp at h)⟩

theorem R.mono_rep {m : Mp} {H : Heap} {w : World} (h : R m H w) {m' : Mp} {w' : World} (hl : Le m w m' w') {p : PV} {v : Value} (r : Rep m w p v) : Rep m' w' p v := r.mono h.rk hl

/-- The block of a live id. -/
theorem R.lt {m : Mp} {H : Heap} {w : World} (h : R m H w) {id b d lim : Nat} {B : Blk} (hi : H[id]? = some (some B)) (hm : m.blk id = some (b, d, lim)) : b < w.heap.size := by
  obtain ⟨_, ⟨cur, hc, _⟩, _⟩ := h.blk id B b d lim hi hm
  rcases Nat.lt_or_ge b w.heap.size with hlt | hge
  · exact hlt
  · rw [Array.getElem?_eq_none hge] at hc; cases hc

/-- Another world, in which nothing that is kept or live has turned. -/
theorem R.world {m : Mp} {H : Heap} {w w' : World} (h : R m H w) (hs : w.heap.size ≤ w'.heap.size) (hos : w'.os = w.os) (ht : w'.tape = w.tape) (ho : w'.output = w.output)
    (hk : ∀ b, m.keep b → w'.heap[b]? = w.heap[b]?) (hb : ∀ id B b d lim, H[id]? = some (some B) → m.blk id = some (b, d, lim) → w'.heap[b]? = w.heap[b]?) :
    R m H w' ∧ Le m w m w' := by
  have hle : Le m w m w' := ⟨fun _ _ h => h, fun _ h => h, fun _ h => h, hk, hs, hos, ht, ho, fun _ h => .inl h⟩
  refine ⟨⟨h.rk, fun b hb => Nat.lt_of_lt_of_le (h.kl b hb) hs, h.dom, fun id B b d lim hi hm => ?_, h.inj⟩, hle⟩
  obtain ⟨h0, ⟨cur, hc, h1, h2, h3⟩, h4, h5⟩ := h.blk id B b d lim hi hm
  refine ⟨h0, ⟨cur, by rw [hb id B b d lim hi hm]; exact hc, h1, h2, fun j c hj => ?_⟩, h4, h5⟩
  obtain ⟨v, hv, hr, h1v⟩ := h3 j c hj
  exact ⟨v, hv, hr.mono h.rk hle, h1v⟩

theorem R.drew {m : Mp} {H : Heap} {w : World} (h : R m H w) : R m H w.drew ∧ Le m w m w.drew :=
  h.world (Nat.le_refl _) rfl rfl rfl (fun _ _ => rfl) (fun _ _ _ _ _ _ _ => rfl)

theorem R.alloc_any {m : Mp} {H : Heap} {w : World} (h : R m H w) (o : Obj) : R m H (w.alloc o) ∧ Le m w m (w.alloc o) :=
  h.world (by simp) rfl rfl rfl (fun b hb => Below.heap_alloc w o b (h.kl b hb)) (fun id B b d lim hi hm => Below.heap_alloc w o b (h.lt hi hm))

theorem set_get {H : Heap} {id i : Nat} {x y : Option Blk} (h : (H.set id x)[i]? = some y) : (i = id ∧ y = x) ∨ (i ≠ id ∧ H[i]? = some y) := by
  by_cases e : i = id
  · subst e
    rw [List.getElem?_set_self'] at h
    cases hh : H[i]? with
    | none => rw [hh] at h; simp at h
    | some z => rw [hh] at h; simp at h; exact .inl ⟨rfl, h.symm⟩
  · rw [List.getElem?_set_ne (fun e' => e e'.symm)] at h
    exact .inr ⟨e, h⟩

/-- Nobody speaks of block id any longer. -/
theorem R.kill {m : Mp} {H : Heap} {w : World} (h : R m H w) (id : Nat) : R m (H.set id none) w := by
  refine ⟨h.rk, h.kl, fun i x hx => by simpa using h.dom i x hx, fun i B b d lim hi hm => ?_, fun i j B C bi di li bj dj lj hne hi hj => ?_⟩
  · rcases set_get hi with ⟨_, e⟩ | ⟨_, e⟩
    · cases e
    · exact h.blk i B b d lim e hm
  · rcases set_get hi with ⟨_, e⟩ | ⟨_, ei⟩
    · cases e
    · rcases set_get hj with ⟨_, e⟩ | ⟨_, ej⟩
      · cases e
      · exact h.inj i j B C bi di li bj dj lj hne ei ej

theorem live_ext {H : Heap} {i : Nat} {B : Blk} (hi : (H ++ [none])[i]? = some (some B)) : H[i]? = some (some B) := by
  rcases Nat.lt_or_ge i H.length with hlt | hge
  · rwa [List.getElem?_append_left hlt] at hi
  · rw [List.getElem?_append_right hge] at hi
    cases hk : i - H.length with
    | zero => rw [hk] at hi; simp at hi
    | succ k => rw [hk] at hi; simp at hi

/-- A new id that nobody speaks of yet. -/
theorem R.ext {m : Mp} {H : Heap} {w : World} (h : R m H w) (x : Nat × Nat × Nat) :
    R { m with blk := fun i => if i = H.length then some x else m.blk i } (H ++ [none]) w ∧ Le m w { m with blk := fun i => if i = H.length then some x else m.blk i } w := by
  have hle : Le m w { m with blk := fun i => if i = H.length then some x else m.blk i } w :=
    ⟨fun i y hy => by
      have := h.dom i y hy
      show (if i = H.length then some x else m.blk i) = some y
      rw [if_neg (by omega)]; exact hy, fun _ h => h, fun _ h => h, fun _ _ => rfl, Nat.le_refl _, rfl, rfl, rfl, fun _ h => .inl h⟩
  have old : ∀ i B y, (H ++ [none])[i]? = some (some B) → (if i = H.length then some x else m.blk i) = some y → m.blk i = some y := fun i B y hi hy => by
    have := (List.getElem?_eq_some_iff.1 (live_ext hi)).1
    rwa [if_neg (by omega)] at hy
  refine ⟨⟨h.rk, h.kl, fun i y hy => ?_, fun i B b d lim hi hm => ?_, fun i j B C bi di li bj dj lj hne hi hj ho1 ho2 hmi hmj => ?_⟩, hle⟩
  · simp only [List.length_append, List.length_cons, List.length_nil]
    by_cases e : i = H.length
    · omega
    · have hy' : m.blk i = some y := by simpa [e] using hy
      have := h.dom i y hy'
      omega
  · obtain ⟨h0, ⟨cur, h1, h2, h3, h4⟩, h5⟩ := h.blk i B b d lim (live_ext hi) (old i B _ hi hm)
    exact ⟨h0, ⟨cur, h1, h2, h3, fun j c hj => let ⟨v, hv, hr, h1v⟩ := h4 j c hj; ⟨v, hv, hr.mono h.rk hle, h1v⟩⟩, h5⟩
  · exact h.inj i j B C _ _ _ _ _ _ hne (live_ext hi) (live_ext hj) ho1 ho2 (old i B _ hi hmi) (old j C _ hj hmj)

/-- An id begins to speak of its block (again). -/
theorem R.put {m : Mp} {H : Heap} {w : World} (h : R m H w) {id b lim : Nat} (B : Blk) (hm : m.blk id = some (b, 0, lim)) (hB : BlkRep m w B b 0 lim) (ho : B.own = true) (hk : ¬ m.keep b)
    (hfree : ∀ i C di li, i ≠ id → H[i]? = some (some C) → C.own = true → m.blk i ≠ some (b, di, li)) : R m (H.set id (some B)) w := by
  refine ⟨h.rk, h.kl, fun i x hx => by simpa using h.dom i x hx, fun i C b' d' lim' hi hm' => ?_, fun i j C D bi di li bj dj lj hne hi hj ho1 ho2 hmi hmj => ?_⟩
  · rcases set_get hi with ⟨e1, e⟩ | ⟨_, e⟩
    · cases e; subst e1
      rw [hm] at hm'; cases hm'
      exact ⟨rfl, hB, fun _ => hk, fun e => by rw [ho] at e; cases e⟩
    · exact h.blk i C b' d' lim' e hm'
  · rcases set_get hi with ⟨e1, e⟩ | ⟨n1, ei⟩
    · rcases set_get hj with ⟨e2, _⟩ | ⟨n2, ej⟩
      · omega
      · subst e1
        rw [hm] at hmi; cases hmi
        rintro rfl
        exact hfree j D dj lj n2 ej ho2 hmj
    · rcases set_get hj with ⟨e2, e⟩ | ⟨n2, ej⟩
      · subst e2
        rw [hm] at hmj; cases hmj
        rintro rfl
        exact hfree i C di li n1 ei ho1 hmi
      · exact h.inj i j C D bi di li bj dj lj hne ei ej ho1 ho2 hmi hmj

/-- A block of ours, put under a new id: what stands behind every allocation. -/
theorem R.add {m : Mp} {H : Heap} {w : World} (h : R m H w) (B : Blk) {b lim : Nat} (hB : BlkRep m w B b 0 lim) (ho : B.own = true) (hk : ¬ m.keep b)
    (hfree : ∀ i C di li, H[i]? = some (some C) → C.own = true → m.blk i ≠ some (b, di, li)) :
    R { m with blk := fun i => if i = H.length then some (b, 0, lim) else m.blk i } (H ++ [some B]) w ∧ Le m w { m with blk := fun i => if i = H.length then some (b, 0, lim) else m.blk i } w := by
  obtain ⟨h1, hle⟩ := h.ext (b, 0, lim)
  refine ⟨?_, hle⟩
  have h2 := h1.put (id := H.length) (b := b) (lim := lim) B (by simp) ?_ ho hk ?_
  · have e : (H ++ [none]).set H.length (some B) = H ++ [some B] := by
      rw [List.set_append_right _ _ (Nat.le_refl _)]
      simp
    rwa [e] at h2
  · obtain ⟨cur, a1, a2, a3, a4⟩ := hB
    exact ⟨cur, a1, a2, a3, fun j c hj => let ⟨v, hv, hr, h1v⟩ := a4 j c hj; ⟨v, hv, hr.mono h.rk hle, h1v⟩⟩
  · intro i C di li hne hi hown hmi
    have hi' : H[i]? = some (some C) := by
      rcases Nat.lt_or_ge i H.length with hlt | hge
      · rwa [List.getElem?_append_left hlt] at hi
      · have : i < (H ++ [none]).length := (List.getElem?_eq_some_iff.1 hi).1
        simp at this
        omega
    have hmi' : m.blk i = some (b, di, li) := by simpa [hne] using hmi
    exact hfree i C di li hi' hown hmi'

/-- A block of the mind alone: no id of the world's stands behind it. -/
theorem R.ghost {m : Mp} {H : Heap} {w : World} (h : R m H w) (B : Blk) : R m (H ++ [some B]) w := by
  have live : ∀ i C x, (H ++ [some B])[i]? = some (some C) → m.blk i = some x → H[i]? = some (some C) := fun i C x hi hm => by
    have := h.dom i x hm
    rwa [List.getElem?_append_left this] at hi
  refine ⟨h.rk, h.kl, fun i x hx => ?_, fun i C b d lim hi hm => h.blk i C b d lim (live i C _ hi hm) hm, fun i j C D bi di li bj dj lj hne hi hj ho1 ho2 hmi hmj => ?_⟩
  · have := h.dom i x hx
    simp only [List.length_append, List.length_cons, List.length_nil]
    omega
  · exact h.inj i j C D _ _ _ _ _ _ hne (live i C _ hi hmi) (live j D _ hj hmj) ho1 ho2 hmi hmj

/-- A new block. -/
theorem R.new {m : Mp} {H : Heap} {w : World} (h : R m H w) (cells : List PV) (e : TypeId) (cur : Array Value) (hlen : cells.length ≤ cur.size)
    (hr : ∀ (j : Nat) (c : PV), cells[j]? = some c → ∃ v : Value, cur[j]? = some v ∧ Rep m w c v ∧ v.oneCell' = true) :
    R { m with blk := fun i => if i = H.length then some (w.heap.size, 0, cur.size) else m.blk i } (H ++ [some ⟨cells, e, true⟩]) (w.alloc (.cells cur e)) ∧
    Le m w { m with blk := fun i => if i = H.length then some (w.heap.size, 0, cur.size) else m.blk i } (w.alloc (.cells cur e)) := by
  obtain ⟨h1, hle1⟩ := h.alloc_any (.cells cur e)
  have hB : BlkRep m (w.alloc (.cells cur e)) ⟨cells, e, true⟩ w.heap.size 0 cur.size := by
    refine ⟨cur, heap_alloc_new w _, rfl, by simpa using hlen, fun j c hj => ?_⟩
    obtain ⟨v, hv, hr', h1v⟩ := hr j c hj
    exact ⟨v, by simpa using hv, hr'.mono h.rk hle1, h1v⟩
  have h2 := h1.add ⟨cells, e, true⟩ hB rfl (fun hk => by
      have := h.kl _ hk; omega) (fun i C di li hi _ hmi => by have := h.lt hi hmi; omega)
  exact ⟨h2.1, hle1.trans h2.2⟩

end Go.Th
