/- A store, an append, a slice expression, each over an abstract heap. -/
import Derived.Test.YtpkeceifnmmhcaaThFour
namespace Go.Th
open Go.RowKit

/-- The block of a live id of ours gets other cells. -/
theorem R.rewrite {m : Mp} {H : Heap} {w w' : World} (h : R m H w) {id b d lim : Nat} {B : Blk} (hi : H[id]? = some (some B)) (ho : B.own = true) (hm : m.blk id = some (b, d, lim)) {cur' : Array Value} {cs : List PV}
    (hs : w'.heap.size = w.heap.size) (hos : w'.os = w.os) (ht : w'.tape = w.tape) (hout : w'.output = w.output) (hother : ∀ k, k ≠ b → w'.heap[k]? = w.heap[k]?) (hb : w'.heap[b]? = some (.cells cur' B.elem (0, 0)))
    (hsz : cur'.size = lim) (hlen : cs.length ≤ lim) (hcs : ∀ (j : Nat) (c : PV), cs[j]? = some c → ∃ v : Value, cur'[j]? = some v ∧ Rep m w c v ∧ v.oneCell' = true) :
    R m (H.set id (some { B with cells := cs })) w' ∧ Le m w m w' := by
  obtain ⟨rfl, _, hk, _⟩ := h.blk id B b d lim hi hm
  have hk := hk ho
  have hfree : ∀ i C di li, i ≠ id → H[i]? = some (some C) → m.blk i = some (b, di, li) → False := fun i C di li hne hi' hm' => by
    obtain ⟨_, _, h1, h2⟩ := h.blk i C b di li hi' hm'
    cases hown : C.own with
    | true => exact h.inj i id C B _ _ _ _ _ _ hne hi' hi hown ho hm' hm rfl
    | false => exact hk (h.rk b (h2 hown))
  obtain ⟨h1, hle⟩ := (h.kill id).world (w' := w') (by omega) hos ht hout (fun k hk' => hother k (fun e => hk (e ▸ hk'))) (fun i C bi di li hi' hm' => hother bi (fun e => by
    subst e
    rcases set_get hi' with ⟨_, e⟩ | ⟨n1, e⟩
    · cases e
    · exact hfree i C di li n1 e hm'))
  refine ⟨?_, hle⟩
  have h2 := h1.put (id := id) (b := b) (lim := lim) { B with cells := cs } hm ⟨cur', hb, hsz, by simpa using hlen, fun j c hj => ?_⟩ ho hk (fun i C di li hne hi' _ hm' => by
    rcases set_get hi' with ⟨e, _⟩ | ⟨n1, e⟩
    · exact hne e
    · exact hfree i C di li n1 e hm')
  · rwa [List.set_set] at h2
  · obtain ⟨v, a1, a2, a3⟩ := hcs j c hj
    exact ⟨v, by simpa using a1, a2.mono h.rk hle, a3⟩

def storeA (H : Heap) (p : PV) (cs : List PV) : Option Heap :=
  match p with
  | .ptr id off => match H[id]? with
    | some (some B) => match B.own && Nat.ble (off + cs.length) B.cells.length with
      | true => some (H.set id (some { B with cells := setAll B.cells off cs }))
      | false => none
    | _ => none
  | _ => none

section
variable {P : Program} {E : Env} {H H' : Heap} {o : Oper} {t s e : TypeId} {d : TypeDesc} {size bytes sz : Nat} {z : List Value} {fields : Array Field} {k : IntKind} {places : List (Nat × Nat)}

theorem OpS_store [hi : HasI P t size bytes z] {x y : Operand} {p q : PV} (ho : o.op = .store t x y) (hx : E.ev x = some p) (hy : E.ev y = some q) (hsz : Nat.beq (cellsOf q).length size = true) (h1 : (cellsOf q).all pvOne = true)
    (hs : storeA H p (cellsOf q) = some H') : OpS P o E H H' := fun m w ρ hR hρ => by
  obtain ⟨i, zv, h3, rfl, _⟩ := hi.i
  have hp := hρ x p hx
  have hq := cellsOf_rep (hρ y q hy)
  have hqs : (ρ y).cells.size = i.size := by have := hq.1; simp at this; rw [this]; exact Nat.eq_of_beq_eq_true hsz
  have hp1 := hρ x p hx
  cases p with
  | ptr id off =>
    simp only [storeA] at hs
    split at hs
    · rename_i B hB
      split at hs
      · rename_i hb
        simp only [Bool.and_eq_true, Nat.ble_eq] at hb
        obtain ⟨hown, hle⟩ := hb
        cases hs
        generalize hv : ρ x = v at hp1
        cases hp1 with
        | @ptr _ _ b d lim hm =>
          obtain ⟨rfl, ⟨cur, c1, c2, c3, c4⟩, _, _⟩ := hR.blk id B b d lim hB hm
          have hlen : (ρ y).cells.toList.length = (cellsOf q).length := hq.1
          have h1v : ∀ u ∈ (ρ y).cells.toList, u.oneCell' = true := fun u hu => by
            obtain ⟨j, hj⟩ := List.mem_iff_getElem?.1 hu
            have hlt : j < (cellsOf q).length := by rw [← hlen]; exact (List.getElem?_eq_some_iff.1 hj).1
            obtain ⟨u', hu', hr, h1'⟩ := CR_one (vs := (ρ y).cells) hq h1 j _ (List.getElem?_eq_getElem hlt)
            have : u = u' := by
              have e : (ρ y).cells.toList[j]? = some u' := by simpa using hu'
              rw [hj] at e; cases e; rfl
            rwa [this]
          have hst := run_storeCells_at P b off B.elem (ρ y).cells.toList 0 cur w c1 (by omega) h1v
          have hcurl : cur.toList.length = lim := by simpa using c2
          have hrow := setRow_heap w b cur ((cur.toList.take (off + 0) ++ (ρ y).cells.toList ++ cur.toList.drop (off + 0 + (ρ y).cells.toList.length)).toArray) B.elem (0, 0) c1
          obtain ⟨r1, r2⟩ := hR.rewrite (w' := w.setRow b ((cur.toList.take (off + 0) ++ (ρ y).cells.toList ++ cur.toList.drop (off + 0 + (ρ y).cells.toList.length)).toArray)) hB hown hm
            (cur' := (cur.toList.take (off + 0) ++ (ρ y).cells.toList ++ cur.toList.drop (off + 0 + (ρ y).cells.toList.length)).toArray) (cs := setAll B.cells off (cellsOf q))
            (by simp [World.setRow]) rfl rfl rfl (fun k hk => setRow_other w b k _ hk) hrow
            (by simp only [List.size_toArray, List.length_append, List.length_take, List.length_drop]; omega)
            (by rw [setAll_length]; omega) (fun j c hj => by
              rw [setAll_get _ _ _ _ hle] at hj
              simp only [List.getElem?_toArray, Nat.add_zero]
              by_cases e : off ≤ j ∧ j < off + (cellsOf q).length
              · rw [if_pos e] at hj
                obtain ⟨u, a1, a2, a3⟩ := CR_one (vs := (ρ y).cells) hq h1 _ c hj
                refine ⟨u, ?_, a2, a3⟩
                rw [List.append_assoc, List.getElem?_append_right (by simp; omega), List.getElem?_append_left (by simp only [List.length_take]; omega)]
                simp only [List.length_take]
                rw [show j - min off cur.toList.length = j - off from by omega]
                simpa using a1
              · rw [if_neg e] at hj
                obtain ⟨u, a1, a2, a3⟩ := c4 j c hj
                refine ⟨u, ?_, a2, a3⟩
                have a1' : cur.toList[j]? = some u := by simpa using a1
                have hjl : j < B.cells.length := (List.getElem?_eq_some_iff.1 hj).1
                rcases Nat.lt_or_ge j off with hlt | hge
                · rw [List.append_assoc, List.getElem?_append_left (by simp; omega), List.getElem?_take, if_pos hlt]
                  exact a1'
                · rw [List.getElem?_append_right (by simp only [List.length_append, List.length_take]; omega), List.getElem?_drop]
                  simp only [List.length_append, List.length_take]
                  rw [show off + (ρ y).cells.toList.length + (j - (min off cur.toList.length + (ρ y).cells.toList.length)) = j from by omega]
                  exact a1')
          refine ⟨m, _, ?_, r2, r1⟩
          have hoff : (⟨b, 0 + off, none⟩ : Addr) = ⟨b, off, none⟩ := by simp
          simp only [execOp, ho, hv, Instr.storeAt, Instr.sureAddr, storeVar, Sem.run_bind, Sem.run_pure, Result.andThen_ok, run_sizeOf h3, hqs, ne_eq, not_true_eq_false, if_false, hoff, hst]
      · cases hs
    · cases hs
  | _ => simp [storeA] at hs

/-- A slice's cells. -/
def sliceCells (H : Heap) (sz : Nat) : PV → Option (Nat × List PV)
  | .sl id off len sz' => match Nat.beq sz' sz with
    | true => match H[id]? with
      | some (some B) => match takeN (len * sz) (B.cells.drop off) with
        | some cs => some (len, cs)
        | none => none
      | _ => none
    | false => none
  | .tr cells len sz' => match Nat.beq sz' sz with
    | true => some (len, cells)
    | false => none
  | .v (.slice none 0 _) => some (0, [])
  | _ => none

theorem sliceCells_rep {m : Mp} {w : World} (hR : R m H w) {p : PV} {n : Nat} {cs : List PV} {v : Value} (h : Rep m w p v) (hs : sliceCells H sz p = some (n, cs)) :
    ∃ a c, v = .slice a n c ∧ cs.length = n * sz ∧ (0 < n → ∃ b o us, a = some ⟨b, o, none⟩ ∧ CR m w cs us ∧ ∀ (j : Nat) (u : Value), us[j]? = some u → w.cell? ⟨b, o + j, none⟩ = some u) := by
  have list : ∀ (cs : List PV) (b o : Nat), (∀ (j : Nat) (c : PV), cs[j]? = some c → ∃ u, w.cell? ⟨b, o + j, none⟩ = some u ∧ Rep m w c u) → ∃ us, CR m w cs us ∧ ∀ (j : Nat) (u : Value), us[j]? = some u → w.cell? ⟨b, o + j, none⟩ = some u := fun cs b o hc => by
    refine ⟨(List.range cs.length).map fun j => (w.cell? ⟨b, o + j, none⟩).getD undef, ⟨by simp, fun j c hj => ?_⟩, fun j u hu => ?_⟩
    · have hlt : j < cs.length := (List.getElem?_eq_some_iff.1 hj).1
      obtain ⟨u, hu, hr⟩ := hc j c hj
      exact ⟨u, by simp [hlt, hu], hr⟩
    · rw [List.getElem?_map] at hu
      rcases Nat.lt_or_ge j cs.length with hlt | hge
      · rw [List.getElem?_range hlt] at hu
        obtain ⟨u', hu', _⟩ := hc j _ (List.getElem?_eq_getElem hlt)
        simp only [Option.map_some, Option.some.injEq, hu', Option.getD_some] at hu
        subst hu
        exact hu'
      · rw [List.getElem?_eq_none (by simpa using hge)] at hu; cases hu
  cases h with
  | @sl id off len sz' b d lim cap hm a1 a2 a3 =>
    simp only [sliceCells] at hs
    split at hs
    · rename_i hbq
      split at hs
      · rename_i B hB
        split at hs
        · rename_i cs' hcs
          cases hs
          obtain ⟨t1, rfl⟩ := (takeN_eq _ _ _).1 hcs
          refine ⟨_, _, rfl, by simp only [List.length_take]; omega, fun _ => ?_⟩
          obtain ⟨us, u1, u2⟩ := list ((B.cells.drop off).take (n * sz)) b (d + off) (fun j c hj => by
            obtain ⟨_, ⟨cur, c1, c2, c3, c4⟩, _⟩ := hR.blk id B b d lim hB hm
            rw [List.getElem?_take] at hj
            split at hj
            · rw [List.getElem?_drop] at hj
              obtain ⟨u, hu, hru, _⟩ := c4 (off + j) c hj
              exact ⟨u, by rw [cell_of_row w b _ cur B.elem (0, 0) c1, ← hu]; congr 1; omega, hru⟩
            · cases hj)
          exact ⟨b, d + off, us, rfl, u1, u2⟩
        · cases hs
      · cases hs
    · cases hs
  | sl0 a =>
    simp only [sliceCells] at hs
    split at hs
    · split at hs
      · split at hs
        · rename_i cs' hcs
          cases hs
          obtain ⟨t1, rfl⟩ := (takeN_eq _ _ _).1 hcs
          exact ⟨_, _, rfl, by simp, fun h => by omega⟩
        · cases hs
      · cases hs
    · cases hs
  | @tr cells len sz' b o cap f hr hl a1 a2 hc hh =>
    simp only [sliceCells] at hs
    split at hs
    · rename_i hbq
      cases hs
      have := Nat.eq_of_beq_eq_true hbq
      subst this
      obtain ⟨us, u1, u2⟩ := list cs b o (fun j c hj => ⟨f j, hc j c hj, hh j c hj⟩)
      exact ⟨_, _, rfl, hl, fun _ => ⟨b, o, us, rfl, u1, u2⟩⟩
    · cases hs
  | tr0 a _ =>
    simp only [sliceCells] at hs
    split at hs
    · cases hs; exact ⟨_, _, rfl, by simp, fun h => by omega⟩
    · cases hs
  | trn =>
    simp only [sliceCells] at hs
    split at hs
    · cases hs; exact ⟨_, _, rfl, by simp, fun h => by omega⟩
    · cases hs
  | v _ hx => cases v with
    | slice a n' c =>
      cases a with
      | none =>
        cases n' with
        | zero => simp only [sliceCells] at hs; cases hs; exact ⟨_, _, rfl, by simp, fun h => by omega⟩
        | succ n' => simp [sliceCells] at hs
      | some a => simp [sliceCells] at hs
    | _ => simp [sliceCells] at hs
  | _ => simp [sliceCells] at hs

/-- What append comes to: the elder slice's id is never spoken of again. -/
def appendA (H : Heap) (e : TypeId) (sz : Nat) (p : PV) (k : Nat) (xs : List PV) : Option (Nat × PV × Heap) :=
  match p with
  | .v (.slice none 0 0) => some (k, .sl H.length 0 k sz, H ++ [some ⟨xs, e, true⟩])
  | .sl id 0 len sz' => match Nat.beq sz' sz with
    | true => match H[id]? with
      | some (some B) => match B.own && Nat.beq B.elem e && Nat.beq B.cells.length (len * sz) with
        | true => some (len + k, .sl H.length 0 (len + k) sz, H.set id none ++ [some ⟨B.cells ++ xs, e, true⟩])
        | false => none
      | _ => none
    | false => none
  | _ => none

theorem run_append_zero {i : TypeInfo} {w : World} (ht : P.underlying t = some (.slice e)) (hi : P.info? e = some i) (a : Option Addr) (n c : Nat) (hn : n ≤ c) (b : Option Addr) (c' : Nat) (ty : TypeId) :
    (Builtin.append_ #[t, t] ty #[.slice a n c, .slice b 0 c']).run P w = .ok (.slice a n c) w := by
  cases a <;> cases b <;> simp [Builtin.append_, run_underlying ht, sizeOf, typeInfo, hi, Builtin.lenOf, Builtin.firstCells, hn, storeCells, loadCells, loadCellsFrom]

theorem CR_app {m : Mp} {w : World} {ps qs : List PV} {us vs : List Value} (h : CR m w ps us) (k : CR m w qs vs) : CR m w (ps ++ qs) (us ++ vs) := by
  refine ⟨by simp [h.1, k.1], fun j c hj => ?_⟩
  rcases Nat.lt_or_ge j ps.length with hlt | hge
  · rw [List.getElem?_append_left hlt] at hj
    obtain ⟨u, hu, hr⟩ := h.2 j c hj
    exact ⟨u, by rw [List.getElem?_append_left (by rw [h.1]; exact hlt)]; exact hu, hr⟩
  · rw [List.getElem?_append_right hge] at hj
    obtain ⟨u, hu, hr⟩ := k.2 _ c hj
    exact ⟨u, by rw [List.getElem?_append_right (by rw [h.1]; exact hge), h.1]; exact hu, hr⟩

/-- A fresh row behind an append that grew. -/
theorem grown_R {m : Mp} {w : World} (hR : R m H w) {cs : List PV} {us rest : List Value} (hc : CR m w cs us) (h1 : cs.all pvOne = true) (e : TypeId) {cap n : Nat} (hn : n ≤ cap) (hm : cap ≤ maxLen)
    (hsz : us.length + rest.length = cap * sz) :
    ∃ m', Le m w m' (w.drew.alloc (.cells (us ++ rest).toArray e)) ∧ R m' (H ++ [some ⟨cs, e, true⟩]) (w.drew.alloc (.cells (us ++ rest).toArray e)) ∧
      Rep m' (w.drew.alloc (.cells (us ++ rest).toArray e)) (.sl H.length 0 n sz) (.slice (some ⟨w.heap.size, 0, none⟩) n cap) := by
  obtain ⟨hR1, hle1⟩ := hR.drew
  have hl := hc.1
  obtain ⟨a, b⟩ := hR1.new cs e (us ++ rest).toArray (by simp; omega) (fun j c hj => by
    obtain ⟨u, hu, hr⟩ := hc.2 j c hj
    have hlt : j < us.length := (List.getElem?_eq_some_iff.1 hu).1
    exact ⟨u, by simpa [List.getElem?_append_left hlt] using hu, hr.mono hR.rk hle1, pvOne_rep hr (List.all_eq_true.1 h1 c (List.mem_of_getElem? hj))⟩)
  refine ⟨_, hle1.trans b, a, .sl (d := 0) (off := 0) (lim := (us ++ rest).toArray.size) ?_ hn hm ?_⟩
  · show (if H.length = H.length then some (w.drew.heap.size, 0, (us ++ rest).toArray.size) else _) = _
    rw [if_pos rfl]; rfl
  · simp; omega

theorem OpW_append [hu : HasU P t (.slice e)] [hi : HasI P e sz bytes z] {x y : Operand} {p q r : PV} {k n : Nat} {xs : List PV} (ho : o.op = .call { callee := .builtin .append, args := #[x, y], argTypes := #[t, t] })
    (hx : E.ev x = some p) (hy : E.ev y = some q) (hzl : Nat.beq z.length sz = true) (hq : sliceCells H sz q = some (k, xs)) (h1 : xs.all pvOne = true) (ha : appendA H e sz p k xs = some (n, r, H')) (hb : n * bytes ≤ 140737488355328) (h63 : n ≤ 9223372036854775807) : OpW P o E H r H' := fun m w ρ hR hρ => by
  obtain ⟨i, zv, h3, hsz, hby, h4, h5⟩ := hi.i
  subst hsz
  have hzs : zv.cells.size = i.size := by have := Nat.eq_of_beq_eq_true hzl; rw [← h5] at this; simpa using this
  obtain ⟨ay, cy, ey, hlx, hxs⟩ := sliceCells_rep hR (hρ y q hy) hq
  have hp := hρ x p hx
  generalize hv : ρ x = vx at hp
  have hexec : ∀ v' w', (Builtin.append_ #[t, t] o.type #[vx, .slice ay k cy]).run P w = .ok v' w' → (execOp ρ o).run P w = .ok (.value v') w' := fun v' w' h => by
    simp [execOp, ho, resolve, invoke, builtin, ey, hv, h]
  have hmaxn : n ≤ maxLen := by simp only [maxLen]; omega
  rcases Nat.eq_zero_or_pos k with hk0 | hkp
  · -- nothing is appended: the very slice comes back
    subst hk0
    have hxs0 : xs = [] := List.eq_nil_of_length_eq_zero (by simpa using hlx)
    subst hxs0
    cases hp with
    | v _ hv' =>
      cases vx with
      | slice a n' c =>
        cases a with
        | none =>
          cases n' with
          | zero =>
            cases c with
            | zero =>
              simp only [appendA] at ha
              cases ha
              exact ⟨.slice none 0 0, m, w, hexec _ _ (run_append_zero hu.u h3 none 0 0 (Nat.le_refl _) ay cy _), Le.refl m w, hR.ghost _, .sl0 none⟩
            | succ c => simp [appendA] at ha
          | succ n' => simp [appendA] at ha
        | some a => simp [appendA] at ha
      | _ => simp [appendA] at ha
    | @sl id off len sz' b d lim cap hm a1 a2 a3 =>
      cases off with
      | succ off => simp [appendA] at ha
      | zero =>
        simp only [appendA] at ha
        split at ha
        · rename_i hbq
          have hbq := Nat.eq_of_beq_eq_true hbq
          split at ha
          · rename_i B hB
            split at ha
            · rename_i hc
              simp only [Bool.and_eq_true] at hc
              obtain ⟨⟨hown, hel⟩, hlen⟩ := hc
              have hel := Nat.eq_of_beq_eq_true hel
              have hlen := Nat.eq_of_beq_eq_true hlen
              cases ha
              subst hbq
              obtain ⟨rfl, ⟨cur, c1, c2, c3, c4⟩, hk, _⟩ := hR.blk id B b d lim hB hm
              obtain ⟨r1, r2⟩ := (hR.kill id).add (b := b) (lim := lim) ⟨B.cells ++ [], e, true⟩ ⟨cur, by rw [← hel]; exact c1, c2, by simpa using c3, fun j c hj => c4 j c (by simpa using hj)⟩ rfl (hk hown) (fun j C dj lj hj hoj hmj => by
                rcases set_get hj with ⟨_, e⟩ | ⟨n1, e⟩
                · cases e
                · exact hR.inj j id C B _ _ _ _ _ _ n1 e hB hoj hown hmj hm rfl)
              refine ⟨.slice (some ⟨b, 0 + 0, none⟩) len cap, _, w, hexec _ _ (run_append_zero hu.u h3 _ _ _ a1 ay cy _), r2, r1, ?_⟩
              simp only [List.length_set]
              exact .sl (d := 0) (off := 0) (lim := lim) (by simp) a1 a2 (by simpa using a3)
            · cases ha
          · cases ha
        · cases ha
    | @sl0 id off sz' a =>
      cases off with
      | succ off => simp [appendA] at ha
      | zero =>
        simp only [appendA] at ha
        split at ha
        · split at ha
          · split at ha
            · cases ha
              exact ⟨.slice a 0 0, m, w, hexec _ _ (run_append_zero hu.u h3 _ _ _ (Nat.le_refl _) ay cy _), Le.refl m w, (hR.kill id).ghost _, .sl0 a⟩
            · cases ha
          · cases ha
        · cases ha
    | _ => simp [appendA] at ha
  · obtain ⟨by_, oy, us, eay, hus, hcell⟩ := hxs hkp
    subst eay
    have husl : us.length = k * i.size := hus.1.trans hlx
    have hnews : ∀ (j : Nat) (v : Value), us[j]? = some v → w.cell? ((⟨by_, oy, none⟩ : Addr).add j) = some v := fun j v hj => by rw [Addr.add_mk]; exact hcell j v hj
    have h1u : ∀ u ∈ us, u.oneCell' = true := fun u hu => by
      obtain ⟨j, hj⟩ := List.mem_iff_getElem?.1 hu
      have hlt : j < xs.length := by rw [← hus.1]; exact (List.getElem?_eq_some_iff.1 hj).1
      obtain ⟨u', hu', hr⟩ := hus.2 j _ (List.getElem?_eq_getElem hlt)
      rw [hj] at hu'; cases hu'
      exact pvOne_rep hr (List.all_eq_true.1 h1 _ (by simp))
    -- from a nil slice, or one without room: a new row
    have fresh : ∀ (G : Heap) (hG : R m G w), n = k → ∀ a, vx = .slice a 0 0 → ∃ v m' w', (execOp ρ o).run P w = .ok (.value v) w' ∧ Le m w m' w' ∧ R m' (G ++ [some ⟨xs, e, true⟩]) w' ∧ Rep m' w' (.sl G.length 0 k i.size) v := fun G hG hnk a hvx => by
      subst hnk
      have hkb : n * i.bytes ≤ 140737488355328 := by rw [hby]; exact hb
      have hcap : n ≤ grownCap w n 0 e := grownCap_ge w n 0 e
      have hcm := grownCap_le_maxLen w n 0 e hmaxn
      obtain ⟨m', g1, g2, g3⟩ := grown_R (sz := i.size) (rest := (Builtin.zeroCells zv.cells (grownCap w n 0 e - n)).toList) hG hus h1 e hcap hcm (by
        rw [husl, Array.length_toList, size_zeroCells, hzs, ← Nat.add_mul]; congr 1; omega)
      have harr : (us ++ (Builtin.zeroCells zv.cells (grownCap w n 0 e - n)).toList).toArray = us.toArray ++ Builtin.zeroCells zv.cells (grownCap w n 0 e - n) := by
        apply Array.ext'; simp
      rw [harr] at g1 g2 g3
      refine ⟨_, m', _, ?_, g1, g2, g3⟩
      cases a with
      | none => exact hexec _ _ (by rw [hvx]; exact run_append_nil (P := P) w t _ e i zv hu.u h3 h4 ⟨by_, oy, none⟩ n cy us husl hnews hkp (by omega) (by omega))
      | some a =>
        have hg := run_append_grow (P := P) w t o.type e i zv hu.u h3 h4 a 0 0 [] (by simp) (by simp) ⟨by_, oy, none⟩ n cy us husl hnews (by omega) (by omega) (growslice_fits (by omega) (by simpa using hkb))
        simp only [Nat.zero_add] at hg
        refine hexec _ _ ?_
        rw [hvx, hg]
        simp
    cases hp with
    | v _ hv' =>
      cases vx with
      | slice a n' c =>
        cases a with
        | none =>
          cases n' with
          | zero =>
            cases c with
            | zero =>
              simp only [appendA] at ha
              cases ha
              exact fresh H hR rfl none rfl
            | succ c => simp [appendA] at ha
          | succ n' => simp [appendA] at ha
        | some a => simp [appendA] at ha
      | _ => simp [appendA] at ha
    | @sl0 id off sz' a =>
      cases off with
      | succ off => simp [appendA] at ha
      | zero =>
        simp only [appendA] at ha
        split at ha
        · split at ha
          · rename_i B hB
            split at ha
            · rename_i hc
              simp only [Bool.and_eq_true] at hc
              have hlen := Nat.eq_of_beq_eq_true hc.2
              have hB0 : B.cells = [] := List.eq_nil_of_length_eq_zero (by simpa using hlen)
              cases ha
              rw [hB0]
              have := fresh (H.set id none) (hR.kill id) (by omega) a rfl
              simpa using this
            · cases ha
          · cases ha
        · cases ha
    | @sl id off len sz' b d lim cap hm a1 a2 a3 =>
      cases off with
      | succ off => simp [appendA] at ha
      | zero =>
        simp only [appendA] at ha
        split at ha
        · rename_i hbq
          have hbq := Nat.eq_of_beq_eq_true hbq
          split at ha
          · rename_i B hB
            split at ha
            · rename_i hc
              simp only [Bool.and_eq_true] at hc
              obtain ⟨⟨hown, hel⟩, hlen⟩ := hc
              have hel := Nat.eq_of_beq_eq_true hel
              have hlen := Nat.eq_of_beq_eq_true hlen
              cases ha
              subst hbq
              obtain ⟨rfl, ⟨cur, c1, c2, c3, c4⟩, hk, _⟩ := hR.blk id B b d lim hB hm
              rw [hel] at c1
              have hcapsz : cap * i.size ≤ cur.size := by rw [c2]; simpa using a3
              have hlsz : len * i.size ≤ cur.size := Nat.le_trans (Nat.mul_le_mul_right _ a1) hcapsz
              have holdl : (cur.toList.take (len * i.size)).length = len * i.size := by simp; omega
              have holds : CR m w B.cells (cur.toList.take (len * i.size)) := by
                refine ⟨by rw [holdl, hlen], fun j c hj => ?_⟩
                obtain ⟨u, u1, u2, _⟩ := c4 j c hj
                have hjl : j < len * i.size := by rw [← hlen]; exact (List.getElem?_eq_some_iff.1 hj).1
                exact ⟨u, by rw [List.getElem?_take, if_pos hjl]; simpa using u1, u2⟩
              have hB1 : (B.cells ++ xs).all pvOne = true := by
                rw [List.all_append, h1, Bool.and_true]
                refine List.all_eq_true.2 fun c hc => ?_
                obtain ⟨j, hj⟩ := List.mem_iff_getElem?.1 hc
                obtain ⟨u, _, u2, u3⟩ := c4 j c hj
                cases c <;> first | rfl | skip
                · cases u2; exact u3
                · cases u2; exact absurd u3 (by simp [Value.oneCell'])
                · cases u2; exact absurd u3 (by simp [Value.oneCell'])
              have happ := CR_app holds hus
              have hfree : ∀ (j : Nat) (C : Blk) (dj lj : Nat), (H.set id none)[j]? = some (some C) → C.own = true → m.blk j ≠ some (b, dj, lj) := fun j C dj lj hj hoj hmj => by
                rcases set_get hj with ⟨_, e⟩ | ⟨n1, e⟩
                · cases e
                · exact hR.inj j id C B _ _ _ _ _ _ n1 e hB hoj hown hmj hm rfl
              by_cases hroom : len + k ≤ cap
              · -- there is room: the same row
                have hr := run_append_room (P := P) w t o.type e i hu.u h3 b len cap cur c1 ⟨by_, oy, none⟩ k cy us husl hnews h1u hroom (by rw [husl, ← Nat.add_mul]; exact Nat.le_trans (Nat.mul_le_mul_right _ hroom) hcapsz)
                have hrow := setRow_heap w b cur ((cur.toList.take (len * i.size) ++ us ++ cur.toList.drop (len * i.size + us.length)).toArray) e (0, 0) c1
                have hbk := hk hown
                obtain ⟨q1, q2⟩ := (hR.kill id).world (w' := w.setRow b ((cur.toList.take (len * i.size) ++ us ++ cur.toList.drop (len * i.size + us.length)).toArray)) (by simp [World.setRow]) rfl rfl rfl
                  (fun k' hk' => setRow_other w b k' _ (fun e => hbk (e ▸ hk'))) (fun j C bj dj lj hj hmj => setRow_other w b bj _ (fun e => by
                    subst e
                    cases hoC : C.own with
                    | true => exact hfree j C dj lj hj hoC hmj
                    | false =>
                      rcases set_get hj with ⟨_, e⟩ | ⟨_, e⟩
                      · cases e
                      · exact hbk (hR.rk _ ((hR.blk j C _ dj lj e hmj).2.2.2 hoC))))
                have hsz2 : ((cur.toList.take (len * i.size) ++ us ++ cur.toList.drop (len * i.size + us.length)).toArray).size = lim := by
                  have : len * i.size + us.length ≤ cur.size := by rw [husl, ← Nat.add_mul]; exact Nat.le_trans (Nat.mul_le_mul_right _ hroom) hcapsz
                  simp only [List.size_toArray, List.length_append, holdl, List.length_drop, Array.length_toList]; omega
                obtain ⟨r1, r2⟩ := q1.add (b := b) (lim := lim) ⟨B.cells ++ xs, e, true⟩ ⟨_, hrow, hsz2, by
                    rw [← hsz2]; simp only [List.size_toArray, List.length_append, holdl, hlen, hus.1]; omega, fun j c hj => by
                    obtain ⟨u, u1, u2⟩ := happ.2 j c hj
                    refine ⟨u, ?_, u2.mono hR.rk q2, pvOne_rep u2 (List.all_eq_true.1 hB1 c (List.mem_of_getElem? hj))⟩
                    simp only [List.getElem?_toArray, Nat.zero_add]
                    rw [List.getElem?_append_left ((List.getElem?_eq_some_iff.1 u1).1)]
                    exact u1⟩ rfl hbk hfree
                refine ⟨.slice (some ⟨b, 0, none⟩) (len + k) cap, _, _, hexec _ _ (by simpa using hr), q2.trans r2, r1, ?_⟩
                simp only [List.length_set]
                exact .sl (d := 0) (off := 0) (lim := lim) (by simp) hroom a2 (by simpa using a3)
              · -- it grows: a new row
                have holdv : ∀ (j : Nat) (v : Value), (cur.toList.take (len * i.size))[j]? = some v → w.cell? ((⟨b, 0, none⟩ : Addr).add j) = some v := fun j v hj => by
                  rw [Addr.add_mk, cell_of_row w b _ cur e (0, 0) c1]
                  rw [List.getElem?_take] at hj
                  split at hj
                  · simpa using hj
                  · cases hj
                have hkb : (len + k) * i.bytes ≤ 140737488355328 := by rw [hby]; exact hb
                have hg := run_append_grow (P := P) w t o.type e i zv hu.u h3 h4 ⟨b, 0, none⟩ len cap (cur.toList.take (len * i.size)) holdl holdv ⟨by_, oy, none⟩ k cy us husl hnews (by omega) (by omega) (growslice_fits (by omega) hkb)
                have hcap := grownCap_ge w (len + k) cap e
                have hcm := grownCap_le_maxLen w (len + k) cap e hmaxn
                obtain ⟨m', g1, g2, g3⟩ := grown_R (sz := i.size) (rest := (Builtin.zeroCells zv.cells (grownCap w (len + k) cap e - (len + k))).toList) (hR.kill id) happ hB1 e hcap hcm (by
                  rw [List.length_append, holdl, husl, Array.length_toList, size_zeroCells, hzs, ← Nat.add_mul, ← Nat.add_mul]; congr 1; omega)
                have harr : (cur.toList.take (len * i.size) ++ us ++ (Builtin.zeroCells zv.cells (grownCap w (len + k) cap e - (len + k))).toList).toArray = (cur.toList.take (len * i.size)).toArray ++ us.toArray ++ Builtin.zeroCells zv.cells (grownCap w (len + k) cap e - (len + k)) := by
                  apply Array.ext'; simp
                rw [harr] at g1 g2 g3
                exact ⟨_, m', _, hexec _ _ (by simpa using hg), g1, g2, by simpa using g3⟩
            · cases ha
          · cases ha
        · cases ha
    | _ => simp [appendA] at ha

end
end Go.Th
