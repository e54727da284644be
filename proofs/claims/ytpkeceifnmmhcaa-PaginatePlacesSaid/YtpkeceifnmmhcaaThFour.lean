/- The operations that make memory or write it, each over an abstract heap. -/
import Derived.Test.YtpkeceifnmmhcaaThThree
namespace Go.Th
open Go.RowKit

/-- Parts are laid into cells: 'Instr.fill' on cells of the mind. -/
def fillA (place : Nat → Option (Nat × Nat)) (cells : List PV) : List (Nat × PV) → Option (List PV)
  | [] => some cells
  | (i, p) :: rest => match place i with
    | none => none
    | some (off, size) => match Nat.beq (cellsOf p).length size && Nat.ble (off + (cellsOf p).length) cells.length with
      | true => fillA place (setAll cells off (cellsOf p)) rest
      | false => none

theorem foldl_set : ∀ (vs : List Value) (off k : Nat) (cs : Array Value), off + k + vs.length ≤ cs.size →
    ((vs.zipIdx k).foldl (fun cs (c, j) => cs.setIfInBounds (off + j) c) cs).size = cs.size ∧
    ∀ j : Nat, ((vs.zipIdx k).foldl (fun cs (c, j) => cs.setIfInBounds (off + j) c) cs)[j]? = if off + k ≤ j ∧ j < off + k + vs.length then vs[j - (off + k)]? else cs[j]?
  | [], off, k, cs, _ => by
    refine ⟨rfl, fun j => ?_⟩
    simp only [List.zipIdx_nil, List.foldl_nil, List.length_nil, Nat.add_zero]
    rw [if_neg (by omega)]
  | v :: vs, off, k, cs, h => by
    simp only [List.length_cons] at h
    obtain ⟨h1, h2⟩ := foldl_set vs off (k + 1) (cs.setIfInBounds (off + k) v) (by simp; omega)
    simp only [List.zipIdx_cons, List.foldl_cons]
    refine ⟨by rw [h1]; simp, fun j => ?_⟩
    rw [h2 j]
    simp only [List.length_cons]
    by_cases e : j = off + k
    · subst e
      rw [if_neg (by omega), if_pos (by omega)]
      simp only [Nat.sub_self, List.getElem?_cons_zero]
      rw [Array.getElem?_setIfInBounds_self_of_lt (by omega)]
    · by_cases e2 : off + (k + 1) ≤ j ∧ j < off + (k + 1) + vs.length
      · rw [if_pos e2, if_pos (by omega)]
        rw [show j - (off + k) = (j - (off + (k + 1))) + 1 from by omega]
        simp
      · rw [if_neg e2, if_neg (by omega), Array.getElem?_setIfInBounds_ne (by omega)]

theorem fillA_rep {m : Mp} {w : World} {place : Nat → Option (Nat × Nat)} : ∀ (parts : List (Nat × PV)) (vparts : List (Nat × Value)) (cells cs : List PV) (vcells : Array Value),
    parts.length = vparts.length → (∀ (j : Nat) (x : Nat × PV) (y : Nat × Value), parts[j]? = some x → vparts[j]? = some y → x.1 = y.1 ∧ Rep m w x.2 y.2) → CR m w cells vcells.toList → fillA place cells parts = some cs →
    ∃ vs, Instr.fill place vcells vparts = some vs ∧ CR m w cs vs.toList
  | [], [], cells, cs, vcells, _, _, hc, h => by simp only [fillA] at h; cases h; exact ⟨vcells, rfl, hc⟩
  | [], _ :: _, _, _, _, hl, _, _, _ => by simp at hl
  | _ :: _, [], _, _, _, hl, _, _, _ => by simp at hl
  | (i, p) :: parts, (i', v) :: vparts, cells, cs, vcells, hl, hp, hc, h => by
    obtain ⟨e, hr⟩ := hp 0 (i, p) (i', v) rfl rfl
    simp only at e hr
    subst e
    simp only [fillA] at h
    cases hpl : place i with
    | none => rw [hpl] at h; cases h
    | some x =>
      obtain ⟨off, size⟩ := x
      rw [hpl] at h
      simp only at h
      split at h
      · rename_i hb
        simp only [Bool.and_eq_true, Nat.ble_eq] at hb
        obtain ⟨hb1, hb2⟩ := hb
        have hb1 := Nat.eq_of_beq_eq_true hb1
        have hcv := cellsOf_rep hr
        have hsz : v.cells.size = (cellsOf p).length := by have := hcv.1; simpa using this
        have hcl : vcells.size = cells.length := by have := hc.1; simpa using this
        have hcond : ¬ ((v.cells.size ≠ size || decide (off + v.cells.size > vcells.size)) = true) := by
          simp only [Bool.or_eq_true, decide_eq_true_eq, not_or]
          refine ⟨?_, by omega⟩
          simp; omega
        obtain ⟨f1, f2⟩ := foldl_set v.cells.toList off 0 vcells (by simp; omega)
        have hfold : (v.cells.zipIdx.foldl (fun cs (c, j) => cs.setIfInBounds (off + j) c) vcells) = ((v.cells.toList.zipIdx 0).foldl (fun cs (c, j) => cs.setIfInBounds (off + j) c) vcells) := by
          rw [← Array.foldl_toList]; simp
        have hnew : CR m w (setAll cells off (cellsOf p)) (v.cells.zipIdx.foldl (fun cs (c, j) => cs.setIfInBounds (off + j) c) vcells).toList := by
          rw [hfold]
          refine ⟨by rw [setAll_length]; simpa using f1.trans hcl, fun j c hj => ?_⟩
          rw [setAll_get _ _ _ _ hb2] at hj
          rw [Array.getElem?_toList, f2 j]
          simp only [Array.length_toList, Nat.add_zero]
          by_cases e : off ≤ j ∧ j < off + (cellsOf p).length
          · rw [if_pos e] at hj
            rw [if_pos (by omega)]
            exact hcv.2 _ c hj
          · rw [if_neg e] at hj
            rw [if_neg (by omega)]
            have := hc.2 j c hj
            simpa using this
        obtain ⟨vs, h1, h2⟩ := fillA_rep parts vparts _ cs _ (by simpa using hl) (fun j x y hx hy => hp (j + 1) x y (by simpa using hx) (by simpa using hy)) hnew h
        refine ⟨vs, ?_, h2⟩
        simp only [Instr.fill, hpl]
        rw [if_neg hcond]
        exact h1
      · cases h

def evp (E : Env) : List (Nat × Operand) → Option (List (Nat × PV))
  | [] => some []
  | (i, x) :: r => match E.ev x with
    | some p => match evp E r with
      | some ps => some ((i, p) :: ps)
      | none => none
    | none => none

theorem evp_rep {m : Mp} {w : World} {E : Env} {ρ : Operand → Value} (hρ : ∀ x q, E.ev x = some q → Rep m w q (ρ x)) : ∀ (l : List (Nat × Operand)) (ps : List (Nat × PV)), evp E l = some ps →
    ps.length = (l.map fun (x : Nat × Operand) => (x.1, ρ x.2)).length ∧ ∀ (j : Nat) (x : Nat × PV) (y : Nat × Value), ps[j]? = some x → (l.map fun (x : Nat × Operand) => (x.1, ρ x.2))[j]? = some y → x.1 = y.1 ∧ Rep m w x.2 y.2
  | [], ps, h => by simp [evp] at h; subst h; simp
  | (i, x) :: r, ps, h => by
    simp only [evp] at h
    split at h
    · rename_i p hp
      split at h
      · rename_i qs hq
        cases h
        obtain ⟨h1, h2⟩ := evp_rep hρ r qs hq
        refine ⟨by simp [h1], fun j a b ha hb => ?_⟩
        cases j with
        | zero =>
          simp at ha hb
          subst ha; subst hb
          exact ⟨rfl, hρ x p hp⟩
        | succ j => exact h2 j a b (by simpa using ha) (by simpa using hb)
      · cases h
    · cases h

theorem CR_v {m : Mp} {w : World} {z : List Value} (hz : z.all (fun x => x.oneCell') = true) : CR m w (z.map PV.v) z := by
  refine ⟨by simp, fun j c hj => ?_⟩
  rw [List.getElem?_map] at hj
  cases h : z[j]? with
  | none => rw [h] at hj; cases hj
  | some x =>
    rw [h] at hj
    simp only [Option.map_some, Option.some.injEq] at hj
    subst hj
    have := List.all_eq_true.1 hz x (List.mem_of_getElem? h)
    exact ⟨x, rfl, .v x (by cases x <;> first | rfl | (simp [Value.oneCell'] at this))⟩

theorem CR_agg {m : Mp} {w : World} {cs : List PV} {vs : Array Value} (h : CR m w cs vs.toList) : Rep m w (.agg cs) (.agg vs) := by
  refine .agg vs (by simpa using h.1) fun j c hj => ?_
  obtain ⟨u, hu, hr⟩ := h.2 j c hj
  have hlt : j < vs.size := by
    have h1 : vs.size = cs.length := by simpa using h.1
    rw [h1]; exact (List.getElem?_eq_some_iff.1 hj).1
  simp [hlt] at hu
  subst hu
  simpa [Array.getD_eq_getD_getElem?, hlt] using hr

theorem CR_one {m : Mp} {w : World} {cs : List PV} {vs : Array Value} (h : CR m w cs vs.toList) (h1 : cs.all pvOne = true) : ∀ (j : Nat) (c : PV), cs[j]? = some c → ∃ v : Value, vs[j]? = some v ∧ Rep m w c v ∧ v.oneCell' = true := fun j c hj => by
  obtain ⟨u, hu, hr⟩ := h.2 j c hj
  exact ⟨u, by simpa using hu, hr, pvOne_rep hr (List.all_eq_true.1 h1 c (List.mem_of_getElem? hj))⟩

section
variable {P : Program} {E : Env} {H : Heap} {o : Oper} {t s e : TypeId} {d : TypeDesc} {size bytes sz : Nat} {z : List Value} {fields : Array Field} {k : IntKind} {places : List (Nat × Nat)}

theorem OpV_build [hb : HasB P t places] [hi : HasI P t size bytes z] {parts : Array (Nat × Operand)} {ps : List (Nat × PV)} {cs : List PV} (ho : o.op = .build t parts) (hp : evp E parts.toList = some ps) (hz : z.all (fun x => x.oneCell') = true)
    (hc : fillA (fun (i : Nat) => places[i]?) (z.map PV.v) ps = some cs) : OpV P o E H (.agg cs) := fun m w ρ hR hρ => by
  obtain ⟨fields, h1, h2⟩ := HasB.run (P := P) (t := t) (places := places)
  obtain ⟨i, zv, h3, _, _, h4, h5⟩ := hi.i
  obtain ⟨e1, e2⟩ := evp_rep (m := m) (w := w) hρ _ _ hp
  obtain ⟨vs, hf, hr⟩ := fillA_rep ps (parts.toList.map fun (x : Nat × Operand) => (x.1, ρ x.2)) (z.map PV.v) cs zv.cells e1 e2 (by rw [h5]; exact CR_v hz) hc
  refine ⟨.agg vs, ?_, CR_agg hr⟩
  have hpl : (fun (i : Nat) => places.toArray[i]?) = fun (i : Nat) => places[i]? := by funext i; simp
  simp only [execOp, ho, Instr.build, zeroValue, typeInfo, Sem.run_bind, run_program, Result.andThen_ok, h3, Sem.run_pure, h4, run_underlying h1, h2 w, hpl]
  rw [show (Array.map (fun x : Nat × Operand => (x.1, ρ x.2)) parts).toList = parts.toList.map fun (x : Nat × Operand) => (x.1, ρ x.2) from by simp]
  rw [hf]
  rfl

theorem newRow_R {m : Mp} {w : World} (hR : R m H w) {cs : List PV} {vs : Array Value} (hc : CR m w cs vs.toList) (h1 : cs.all pvOne = true) (e : TypeId) :
    ∃ m', Le m w m' (w.alloc (.cells vs e)) ∧ R m' (H ++ [some ⟨cs, e, true⟩]) (w.alloc (.cells vs e)) ∧ m'.blk H.length = some (w.heap.size, 0, vs.size) := by
  have hl : vs.size = cs.length := by simpa using hc.1
  obtain ⟨a, b⟩ := hR.new cs e vs (by omega) (CR_one hc h1)
  exact ⟨_, b, a, by simp⟩

theorem OpW_alloc [hi : HasI P t size bytes z] (ho : o.op = .alloc t) (hz : z.all (fun x => x.oneCell') = true) : OpW P o E H (.ptr H.length 0) (H ++ [some ⟨z.map PV.v, t, true⟩]) := fun m w ρ hR hρ => by
  obtain ⟨i, zv, h3, _, _, h4, h5⟩ := hi.i
  have h1 : (z.map PV.v).all pvOne = true := by simpa [pvOne] using hz
  obtain ⟨m', a, b, c⟩ := newRow_R hR (by rw [h5]; exact CR_v hz) h1 t (vs := zv.cells)
  refine ⟨.pointer (some ⟨w.heap.size, 0, none⟩), m', w.alloc (.cells zv.cells t), ?_, a, b, .ptr (off := 0) c⟩
  simp [execOp, ho, Instr.alloc, zeroValue, typeInfo, h3, h4, newVar, newRow]

theorem OpW_box {x : Operand} {p : PV} (ho : o.op = .box t x) (hx : E.ev x = some p) (h1 : (cellsOf p).all pvOne = true) : OpW P o E H (.ptr H.length 0) (H ++ [some ⟨cellsOf p, t, true⟩]) := fun m w ρ hR hρ => by
  obtain ⟨m', a, b, c⟩ := newRow_R hR (cellsOf_rep (hρ x p hx)) h1 t
  refine ⟨.pointer (some ⟨w.heap.size, 0, none⟩), m', w.alloc (.cells (ρ x).cells t), ?_, a, b, .ptr (off := 0) c⟩
  simp [execOp, ho, Instr.box, newVar, newRow]

theorem OpW_buildSlice [hu : HasU P t (.slice e)] [hi : HasI P e sz bytes z] {n : Nat} {parts : Array (Nat × Operand)} {ps : List (Nat × PV)} {cs : List PV} (ho : o.op = .buildSlice t n parts) (hp : evp E parts.toList = some ps) (hz : z.all (fun x => x.oneCell') = true)
    (hzl : Nat.beq z.length sz = true) (hpos : Nat.ble 1 sz = true) (hn : Nat.ble (n * sz) 16777216 = true) (hc : fillA (fun i => some (i * sz, sz)) ((List.range (n * sz)).map fun j => .v (z.getD (j % z.length) undef)) ps = some cs) (h1 : cs.all pvOne = true) :
    OpW P o E H (.sl H.length 0 n sz) (H ++ [some ⟨cs, e, true⟩]) := fun m w ρ hR hρ => by
  obtain ⟨i, zv, h3, rfl, _, h4, h5⟩ := hi.i
  obtain ⟨e1, e2⟩ := evp_rep (m := m) (w := w) hρ _ _ hp
  have hzs : zv.cells.size = i.size := by have := Nat.eq_of_beq_eq_true hzl; rw [← h5] at this; simpa using this
  have hn' := Nat.le_of_ble_eq_true hn
  have hpos := Nat.le_of_ble_eq_true hpos
  have hz0 : CR m w ((List.range (n * i.size)).map fun j => PV.v (z.getD (j % z.length) undef)) ((Array.range (n * i.size)).map (zv.cells[· % zv.cells.size]!)).toList := by
    refine ⟨by simp, fun j c hj => ?_⟩
    rw [List.getElem?_map] at hj
    rcases Nat.lt_or_ge j (n * i.size) with hlt | hge
    · rw [List.getElem?_range hlt] at hj
      simp only [Option.map_some, Option.some.injEq] at hj
      subst hj
      have hm : j % zv.cells.size < zv.cells.size := Nat.mod_lt _ (by omega)
      have hzl' : z.length = zv.cells.size := by rw [← h5]; simp
      have hget : z.getD (j % z.length) undef = zv.cells[j % zv.cells.size] := by
        rw [hzl']
        simp only [← h5, List.getD_eq_getElem?_getD, Array.getElem?_toList]
        rw [Array.getElem?_eq_getElem hm]; rfl
      refine ⟨zv.cells[j % zv.cells.size], ?_, ?_⟩
      · simp [hlt, hm]
      · rw [hget]
        have : (zv.cells[j % zv.cells.size]).oneCell' = true := by
          rw [← h5] at hz
          exact List.all_eq_true.1 hz _ (by simp)
        exact .v _ (by revert this; generalize zv.cells[j % zv.cells.size] = y; intro this; cases y <;> first | rfl | (simp [Value.oneCell'] at this))
    · rw [List.getElem?_eq_none (by simpa using hge)] at hj; cases hj
  obtain ⟨vs, hf, hr⟩ := fillA_rep ps (parts.toList.map fun (x : Nat × Operand) => (x.1, ρ x.2)) _ cs _ e1 e2 hz0 hc
  obtain ⟨m', a, b, c⟩ := newRow_R hR hr h1 e
  have hsz : vs.size = n * i.size := by
    have h6 : vs.size = cs.length := by simpa using hr.1
    have h7 : cs.length = n * i.size := by
      have : ∀ (ps : List (Nat × PV)) (cells cs : List PV), fillA (fun j => some (j * i.size, i.size)) cells ps = some cs → cs.length = cells.length := by
        intro ps
        induction ps with
        | nil => intro cells cs h; simp only [fillA] at h; cases h; rfl
        | cons x r ih =>
          intro cells cs h
          obtain ⟨j, p⟩ := x
          simp only [fillA] at h
          split at h
          · rw [ih _ _ h, setAll_length]
          · cases h
      rw [this _ _ _ hc]; simp
    omega
  have hmax : n ≤ maxLen := by
    have := Nat.le_mul_of_pos_right n hpos
    simp only [maxLen]; omega
  refine ⟨.slice (some ⟨w.heap.size, 0, none⟩) n n, m', w.alloc (.cells vs e), ?_, a, b, ?_⟩
  · have hlim : ¬ (16777216 < n * i.size) := by omega
    have h24 : (2 : Nat) ^ 24 = 16777216 := by decide
    have hparts : (Array.map (fun x : Nat × Operand => (x.1, ρ x.2)) parts).toList = parts.toList.map fun (x : Nat × Operand) => (x.1, ρ x.2) := by simp
    simp only [execOp, ho, Instr.buildSlice, Sem.run_bind, run_underlying hu.u, Result.andThen_ok, run_sizeOf h3, h24, gt_iff_lt, hlim, if_false, hparts]
    by_cases h0 : n * i.size = 0
    · have hr0 : ∀ f : Nat → Value, Array.map f (Array.range 0) = #[] := by intro f; simp
      rw [h0, hr0] at hf
      simp only [h0, if_true, Sem.run_bind, Sem.run_pure, Result.andThen_ok, hr0, hf]
      simp [newRow]
    · simp only [h0, if_false, Sem.run_bind, Sem.run_pure, Result.andThen_ok, zeroValue, typeInfo, run_program, h3, h4, hf]
      simp [newRow]
  · exact .sl (d := 0) (off := 0) c (Nat.le_refl _) hmax (by rw [hsz]; simp)

end
end Go.Th
