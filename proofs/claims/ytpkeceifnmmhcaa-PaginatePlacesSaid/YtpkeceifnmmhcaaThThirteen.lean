/- Blocks that are known, in a list: the heap itself is not looked at. -/
import Derived.Test.YtpkeceifnmmhcaaThTwelve
namespace Go.Th
open Go.RowKit

/-- The heap has these blocks, at ids that differ. -/
structure Has (H : Heap) (L : List (Nat × Blk)) : Prop where
  get : ∀ (k id : Nat) (B : Blk), L[k]? = some (id, B) → H[id]? = some (some B)
  ne : ∀ (i j : Nat) (x y : Nat × Blk), i ≠ j → L[i]? = some x → L[j]? = some y → x.1 ≠ y.1

section
variable {H G : Heap} {L : List (Nat × Blk)} {k id : Nat} {B B' : Blk}

theorem Has.nil (H : Heap) : Has H [] := ⟨fun k id B h => by simp at h, fun i j x y _ h => by simp at h⟩
theorem Has.lt (h : Has H L) (hk : L[k]? = some (id, B)) : id < H.length := lt_of_get (h.get k id B hk)
theorem Has.ext (h : Has H L) (hx : HExt H G) : Has G L := ⟨fun k id B hk => hx.get (h.get k id B hk), h.ne⟩
theorem Has.app (h : Has H L) (t : Heap) : Has (H ++ t) L := h.ext (HExt.app H t)
theorem Has.cons (h : Has G L) (hx : Has H L) (hid : G[id]? = some (some B)) (hge : H.length ≤ id) : Has G ((id, B) :: L) := by
  refine ⟨fun k i C hk => ?_, fun i j x y hne hi hj => ?_⟩
  · cases k with
    | zero => simp at hk; obtain ⟨rfl, rfl⟩ := hk; exact hid
    | succ k => exact h.get k i C (by simpa using hk)
  · have hl : ∀ (k : Nat) (x : Nat × Blk), L[k]? = some x → x.1 < H.length := fun k x hk => hx.lt (k := k) (id := x.1) (B := x.2) hk
    cases i with
    | zero =>
      cases j with
      | zero => exact absurd rfl hne
      | succ j =>
        simp at hi hj; subst hi
        have := hl j y hj
        simp only; omega
    | succ i =>
      cases j with
      | zero =>
        simp at hi hj; subst hj
        have := hl i x hi
        simp only; omega
      | succ j => exact h.ne i j x y (by omega) (by simpa using hi) (by simpa using hj)
theorem Has.new (h : Has H L) (b : Blk) : Has (H ++ [some b]) ((H.length, b) :: L) := (h.app _).cons h (get_new H (some b)) (Nat.le_refl _)
theorem Has.tail {x : Nat × Blk} (h : Has H (x :: L)) : Has H L := ⟨fun k id B hk => h.get (k + 1) id B (by simpa using hk), fun i j x y hne hi hj => h.ne (i + 1) (j + 1) x y (by omega) (by simpa using hi) (by simpa using hj)⟩

theorem Has.pick {L' : List (Nat × Blk)} (h : Has H L) (is : List Nat) (hn : ∀ i, i < is.length → ∀ j, j < is.length → is[i]? = is[j]? → i = j) (he : is.map (fun i => L[i]?) = L'.map some) : Has H L' := by
  have key : ∀ (k : Nat) (x : Nat × Blk), L'[k]? = some x → ∃ i, is[k]? = some i ∧ L[i]? = some x := fun k x hk => by
    have h1 : (L'.map some)[k]? = some (some x) := by simp [hk]
    rw [← he, List.getElem?_map] at h1
    cases hi : is[k]? with
    | none => rw [hi] at h1; simp at h1
    | some i => rw [hi] at h1; exact ⟨i, rfl, by simpa using h1⟩
  refine ⟨fun k id B hk => ?_, fun i j x y hne hi hj => ?_⟩
  · obtain ⟨i, _, h2⟩ := key k _ hk
    exact h.get i id B h2
  · obtain ⟨i', a1, a2⟩ := key i x hi
    obtain ⟨j', b1, b2⟩ := key j y hj
    refine h.ne i' j' x y (fun e => hne ?_) a2 b2
    subst e
    exact hn i (List.getElem?_eq_some_iff.1 a1).1 j (List.getElem?_eq_some_iff.1 b1).1 (a1.trans b1.symm)

theorem listset {α : Type} {l : List α} {k j : Nat} {a b : α} (h : (l.set k a)[j]? = some b) : (j = k ∧ b = a) ∨ (j ≠ k ∧ l[j]? = some b) := by
  rw [List.getElem?_set] at h
  by_cases e : k = j
  · subst e
    rw [if_pos rfl] at h
    split at h
    · cases h; exact .inl ⟨rfl, rfl⟩
    · cases h
  · rw [if_neg e] at h; exact .inr ⟨fun e' => e e'.symm, h⟩

theorem Has.set (h : Has H L) (hk : L[k]? = some (id, B)) (B' : Blk) : Has (H.set id (some B')) (L.set k (id, B')) := by
  refine ⟨fun j i C hj => ?_, fun i j x y hne hi hj => ?_⟩
  · rcases listset hj with ⟨rfl, e⟩ | ⟨hne, hj⟩
    · cases e; exact get_set (h.get _ _ _ hk)
    · exact get_set_ne (h.get j i C hj) (h.ne k j _ _ (fun e => hne e.symm) hk hj)
  · rcases listset hi with ⟨rfl, rfl⟩ | ⟨_, hi2⟩ <;> rcases listset hj with ⟨rfl, rfl⟩ | ⟨_, hj2⟩
    · exact absurd rfl hne
    · exact h.ne _ j (id, B) _ hne hk hj2
    · exact h.ne i _ _ (id, B) hne hi2 hk
    · exact h.ne i j _ _ hne hi2 hj2

theorem Has.grow (h : Has H L) (hk : L[k]? = some (id, B)) (B' : Blk) : Has (H.set id none ++ [some B']) (L.set k (H.length, B')) := by
  have hl : ∀ (k : Nat) (x : Nat × Blk), L[k]? = some x → x.1 < H.length := fun k x hk => h.lt (k := k) (id := x.1) (B := x.2) hk
  refine ⟨fun j i C hj => ?_, fun i j x y hne hi hj => ?_⟩
  · rcases listset hj with ⟨rfl, e⟩ | ⟨hne, hj⟩
    · cases e
      have := get_new (H.set id none) (some B')
      rw [List.length_set] at this
      exact this
    · exact get_app (get_set_ne (h.get j i C hj) (h.ne k j _ _ (fun e => hne e.symm) hk hj))
  · rcases listset hi with ⟨rfl, rfl⟩ | ⟨_, hi2⟩ <;> rcases listset hj with ⟨rfl, rfl⟩ | ⟨_, hj2⟩
    · exact absurd rfl hne
    · have := hl _ _ hj2; simp only; omega
    · have := hl _ _ hi2; simp only; omega
    · exact h.ne i j _ _ hne hi2 hj2
end

section
variable {P : Program} {n : Nat} {Q : QA} {E : Env} {H : Heap} {ops : Array Oper} {rest : List Oper} {o : Oper} {t e : TypeId} {d size bytes sz : Nat} {z : List Value} {L : List (Nat × Blk)} {k id off : Nat} {B : Blk} {td : TypeDesc}

theorem wpL_loadH [hu : HasU P t td] [hi : HasI P t size bytes z] {x : Operand} {q : PV} (k : Nat) (hG : Has H L) (hg : o.guard = none) (hd : o.dst = some d) (hn : d < n) (ho : o.op = .load t x) (hx : E.ev x = some (.ptr id off)) (hk : L[k]? = some (id, B)) (hl : loadC td size B.cells off = some q)
    (h : wpL P n ops rest Q ((d, q) :: E) H) : wpL P n ops (o :: rest) Q E H := wpL_v hg hd hn (OpV_load_at ho hx (hG.get k id B hk) hl) h

theorem wpL_allocH [hi : HasI P t size bytes z] (hG : Has H L) (hg : o.guard = none) (hd : o.dst = some d) (hn : d < n) (ho : o.op = .alloc t) (hz : z.all (fun x => x.oneCell') = true)
    (h : ∀ id G, Has G ((id, ⟨z.map PV.v, t, true⟩) :: L) → wpL P n ops rest Q ((d, .ptr id 0) :: E) G) : wpL P n ops (o :: rest) Q E H :=
  wpL_w hg hd hn (OpW_alloc ho hz) (h _ _ (hG.new _))

theorem wpL_boxH {x : Operand} {p : PV} (hG : Has H L) (hg : o.guard = none) (hd : o.dst = some d) (hn : d < n) (ho : o.op = .box t x) (hx : E.ev x = some p) (h1 : (cellsOf p).all pvOne = true)
    (h : ∀ id G, Has G ((id, ⟨cellsOf p, t, true⟩) :: L) → wpL P n ops rest Q ((d, .ptr id 0) :: E) G) : wpL P n ops (o :: rest) Q E H :=
  wpL_w hg hd hn (OpW_box ho hx h1) (h _ _ (hG.new _))

theorem wpL_sliceH [hu : HasU P t (.slice e)] [hi : HasI P e sz bytes z] {m : Nat} {parts : Array (Nat × Operand)} {ps : List (Nat × PV)} {cs : List PV} (hG : Has H L) (hg : o.guard = none) (hd : o.dst = some d) (hn : d < n) (ho : o.op = .buildSlice t m parts) (hp : evp E parts.toList = some ps) (hz : z.all (fun x => x.oneCell') = true)
    (hzl : Nat.beq z.length sz = true) (hpos : Nat.ble 1 sz = true) (hm : Nat.ble (m * sz) 16777216 = true) (hc : fillA (fun i => some (i * sz, sz)) ((List.range (m * sz)).map fun j => .v (z.getD (j % z.length) undef)) ps = some cs) (h1 : cs.all pvOne = true)
    (h : ∀ id G, Has G ((id, ⟨cs, e, true⟩) :: L) → wpL P n ops rest Q ((d, .sl id 0 m sz) :: E) G) : wpL P n ops (o :: rest) Q E H :=
  wpL_w hg hd hn (OpW_buildSlice ho hp hz hzl hpos hm hc h1) (h _ _ (hG.new _))

theorem wpL_storeH [hi : HasI P t size bytes z] {x y : Operand} {q : PV} {cs : List PV} (k : Nat) (hG : Has H L) (hg : o.guard = none) (hd : o.dst = none) (ho : o.op = .store t x y) (hx : E.ev x = some (.ptr id off)) (hy : E.ev y = some q) (hk : L[k]? = some (id, B)) (hsz : Nat.beq (cellsOf q).length size = true) (h1 : (cellsOf q).all pvOne = true)
    (hown : B.own = true) (hle : Nat.ble (off + (cellsOf q).length) B.cells.length = true) (hcs : setAll B.cells off (cellsOf q) = cs)
    (h : ∀ G, Has G (L.set k (id, { B with cells := cs })) → wpL P n ops rest Q E G) : wpL P n ops (o :: rest) Q E H :=
  wpL_s hg hd (OpS_store_at ho hx hy (hG.get k id B hk) hsz h1 hown hle hcs) (h _ (hG.set hk _))

/-- An append of a slice of ours. -/
theorem wpL_appendH [hu : HasU P t (.slice e)] [hi : HasI P e sz bytes z] {x y : Operand} {q : PV} {m len : Nat} {xs : List PV} (k : Nat) (hG : Has H L) (hg : o.guard = none) (hd : o.dst = some d) (hn : d < n) (ho : o.op = .call { callee := .builtin .append, args := #[x, y], argTypes := #[t, t] })
    (hx : E.ev x = some (.sl id 0 len sz)) (hy : E.ev y = some q) (hk : L[k]? = some (id, B)) (hown : B.own = true) (he : Nat.beq B.elem e = true) (hl : B.cells.length = len * sz) (hzl : Nat.beq z.length sz = true) (hq : sliceCells H sz q = some (m, xs)) (h1 : xs.all pvOne = true)
    (hb : (len + m) * bytes ≤ 140737488355328) (h63 : len + m ≤ 9223372036854775807)
    (h : ∀ id' G, Has G (L.set k (id', ⟨B.cells ++ xs, e, true⟩)) → wpL P n ops rest Q ((d, .sl id' 0 (len + m) sz) :: E) G) : wpL P n ops (o :: rest) Q E H :=
  wpL_w hg hd hn (OpW_append ho hx hy hzl hq h1 (appendA_at (hG.get k id B hk) hown he (by rw [hl]; exact Nat.beq_refl _)) hb h63) (h _ _ (hG.grow hk _))

theorem Has.cellsOf {len : Nat} {cs : List PV} (hG : Has H L) (hk : L[k]? = some (id, B)) (hc : takeN (len * sz) (B.cells.drop off) = some cs) : sliceCells H sz (.sl id off len sz) = some (len, cs) := sliceCells_at (hG.get k id B hk) hc

/-! ### Nil slices as slices of ours -/

theorem R.alt {m : Mp} {w : World} (h : R m H w) (hB : H[id]? = some (some B)) (B' : Blk) (ho : B'.own = B.own) (he : B'.elem = B.elem) (hl : B'.cells.length = B.cells.length)
    (hc : ∀ (j : Nat) (c' : PV), B'.cells[j]? = some c' → ∃ c, B.cells[j]? = some c ∧ ∀ v, Rep m w c v → Rep m w c' v) : R m (H.set id (some B')) w := by
  have back : ∀ i C, (H.set id (some B'))[i]? = some (some C) → ∃ D, H[i]? = some (some D) ∧ D.own = C.own ∧ (i = id ∧ C = B' ∨ i ≠ id ∧ D = C) := fun i C hi => by
    rcases set_get hi with ⟨rfl, e⟩ | ⟨hne, hi⟩
    · cases e; exact ⟨B, hB, ho.symm, .inl ⟨rfl, rfl⟩⟩
    · exact ⟨C, hi, rfl, .inr ⟨hne, rfl⟩⟩
  refine ⟨h.rk, h.kl, fun i x hx => by simpa using h.dom i x hx, fun i C b d lim hi hm => ?_, fun i j C D bi di li bj dj lj hne hi hj h1 h2 hmi hmj => ?_⟩
  · obtain ⟨D, hD, hDo, hcase⟩ := back i C hi
    obtain ⟨q1, ⟨cur, c1, c2, c3, c4⟩, q3, q4⟩ := h.blk i D b d lim hD hm
    rcases hcase with ⟨rfl, rfl⟩ | ⟨_, rfl⟩
    · rw [hB] at hD; cases hD
      refine ⟨q1, ⟨cur, by rw [he]; exact c1, c2, by rw [hl]; exact c3, fun j c' hj => ?_⟩, by rw [ho]; exact q3, by rw [ho]; exact q4⟩
      obtain ⟨c, hcj, hcv⟩ := hc j c' hj
      obtain ⟨v, hv, hr, h1⟩ := c4 j c hcj
      exact ⟨v, hv, hcv v hr, h1⟩
    · exact ⟨q1, ⟨cur, c1, c2, c3, c4⟩, q3, q4⟩
  · obtain ⟨C', hC', hCo, _⟩ := back i C hi
    obtain ⟨D', hD', hDo, _⟩ := back j D hj
    exact h.inj i j C' D' _ _ _ _ _ _ hne hC' hD' (by rw [hCo]; exact h1) (by rw [hDo]; exact h2) hmi hmj

theorem wpA_ghostH {c : Code} (t : Nat) (e : TypeId) (sz : Nat) (hG : Has H L) (ht : E.get t = some (.v (.slice none 0 0))) (h : ∀ id G, Has G ((id, ⟨[], e, true⟩) :: L) → wpA P n c Q ((t, .sl id 0 0 sz) :: E) G) : wpA P n c Q E H :=
  wpA_ghost t e sz ht (h _ _ (hG.new _))

/-- A nil slice in a cell. -/
theorem wpA_ghostC {c : Code} (k j : Nat) (e : TypeId) (sz : Nat) (hG : Has H L) (hk : L[k]? = some (id, B)) (hc : B.cells[j]? = some (.v (.slice none 0 0)))
    (h : ∀ i G, Has G ((i, ⟨[], e, true⟩) :: L.set k (id, { B with cells := B.cells.set j (.sl i 0 0 sz) })) → wpA P n c Q E G) : wpA P n c Q E H := by
  rintro m0 w0 a w ⟨h1, h2, m, h3, h4, h5⟩
  have hB := hG.get k id B hk
  have hR : R m ((H ++ [some (Blk.mk [] e true)]).set id (some (Blk.mk (B.cells.set j (.sl H.length 0 0 sz)) B.elem B.own))) w := by
    refine (h4.ghost (Blk.mk [] e true)).alt (get_app hB) _ rfl rfl (by simp) fun j' c' hj' => ?_
    rcases listset hj' with ⟨rfl, rfl⟩ | ⟨_, hj'⟩
    · refine ⟨_, hc, fun v hv => ?_⟩
      rw [rep_v hv]
      exact .sl0 none
    · exact ⟨c', hj', fun v hv => hv⟩
  have hH : Has ((H ++ [some (Blk.mk [] e true)]).set id (some (Blk.mk (B.cells.set j (.sl H.length 0 0 sz)) B.elem B.own))) ((H.length, Blk.mk [] e true) :: L.set k (id, Blk.mk (B.cells.set j (.sl H.length 0 0 sz)) B.elem B.own)) :=
    (hG.new (Blk.mk [] e true)).set (k := k + 1) (by simpa using hk) _
  exact h _ _ hH m0 w0 a w ⟨h1, h2, m, h3, hR, h5⟩
end
end Go.Th
