/- The pages' beginnings, as an iterator gives them. -/
import Derived.Test.YtnenmpeejjeopaaGreatDoorPgH
namespace Go.Proofs.YtnenmpeejjeopaaGreatDoor
open Go.RowKit Go.Shelf Go.Th

attribute [local go_sem] Oper.semAt_some

/-- The indices with which pages begin, from one on. -/
def brk (l : List Piece) (height : Int) : Nat → Nat → List Nat
  | 0, _ => []
  | n + 1, i => if i < l.length then i :: brk l height n (fillF l i height) else []

theorem backG_gt (l : List Piece) (a i k : Nat) (h : a < i) : a < backG l a i k := by
  induction k with
  | zero => exact h
  | succ k ih =>
    simp only [backG]
    split
    · split
      · exact ih
      · omega
    · exact h
theorem fillG_gt (l : List Piece) (a : Nat) (height : Int) (n i : Nat) (h : a < i) : a < fillG l a height n i := by
  induction n generalizing i with
  | zero => exact h
  | succ n ih =>
    simp only [fillG]
    split
    · exact h
    · split
      · exact ih (i + 1) (by omega)
      · exact backG_gt l a i i h
theorem fillF_gt (l : List Piece) (a : Nat) (height : Int) : a < fillF l a height := fillG_gt l a height _ _ (by omega)

theorem rep_tr {m : Mp} {w : World} {cells : List PV} {len sz : Nat} {v : Value} (h : Rep m w (.tr cells len sz) v) : ∃ a cap, v = .slice a len cap := by
  cases h with
  | tr f hr hl h1 h2 hc h => exact ⟨_, _, rfl⟩
  | tr0 a h2 => exact ⟨_, _, rfl⟩
  | trn => exact ⟨_, _, rfl⟩

/-- fill, called in a world where what lay below n₀ lies as it lay. -/
theorem fill_calls (l : List Piece) (a : Nat) (height : Int) (hl : allOk l) (ha : a < l.length) {m : Mp} {w W : World} {n₀ : Nat} {v : Value} (hn : n₀ ≤ w.heap.size) (hb : Below n₀ w W) (hrk : ∀ b, m.ro b → m.keep b) (hk : ∀ b, m.keep b → b < n₀) (hv : Rep m w (pcs l) v) :
    Calls Tryz.prog 58 #[v, .int .i64 a, .int .i64 height] W fun e W' => e = .returned (.int .i64 (fillF l a height)) ∧ W.grownBy W' none := by
  have hle : Le { m with blk := fun _ => none } w ⟨fun _ => none, m.ro, fun b => b < W.heap.size⟩ W := ⟨fun _ _ h => h, fun _ h => h, fun b h => by have := hk b h; have := hb.size; simp only; omega, fun b h => hb.block b (hk b h), hb.size, hb.os, hb.tape, hb.output, fun b h => .inl h⟩
  have hv' : Rep { m with blk := fun _ => none } w (pcs l) v := tree_pcs l m w v hv
  refine ((fill_iso l a height hl ha).2 ⟨fun _ => none, m.ro, fun b => b < W.heap.size⟩ W _ (fun b h => by have := hk b (hrk b h); have := hb.size; simp only; omega) (fun b h => h) (fun _ => rfl) ⟨rfl, fun j c hj => ?_⟩).mono ?_
  · match j with
    | 0 => simp at hj; subst hj; exact Rep.mono (m := { m with blk := fun _ => none }) hrk hle hv'
    | 1 => simp at hj; subst hj; exact .v _ rfl
    | 2 => simp at hj; subst hj; exact .v _ rfl
    | j + 3 => simp at hj
  · rintro e w' ⟨v, p, m', rfl, rfl, hr, _, hl', _, _⟩
    cases hr
    exact ⟨rfl, hl'.os, hl'.tape, hl'.output, hl'.size, fun k hk _ => hl'.same k hk⟩

set_option maxRecDepth 100000 in
set_option maxHeartbeats 2000000 in
theorem starts1_in (n : Nat) (hn : 1 ≤ n) (l : List Piece) (height : Int) (hl : allOk l) (lp : Nat) {m : Mp} {w W : World} {n₀ : Nat} {v1 : Value} {b1 b2 : Nat} (hn0 : n₀ ≤ w.heap.size) (hb : Below n₀ w W) (hrk : ∀ b, m.ro b → m.keep b) (hk : ∀ b, m.keep b → b < n₀) (hv : Rep m w (pcs l) v1)
    (h1 : b1 < n₀) (h2 : b2 < n₀) (c1 : w.cell? ⟨b1, 0, none⟩ = some v1) (c2 : w.cell? ⟨b2, 0, none⟩ = some (.int .i64 height)) (J Jx : List Int → World → Prop) (hJ : AbidesFrom W.heap.size J)
    (hY : ∀ pre x W1, J pre W1 → pre.length < ((brk l height l.length 0).map Int.ofNat).length → YieldAt Fence.wide (n - 1) Tryz.prog lp (encI x) W1 fun e W' =>
      (e = .returned (.bool true) ∧ J (pre ++ [x]) W' ∧ Below n₀ W1 W') ∨ (e = .returned (.bool false) ∧ Jx (pre ++ [x]) W'))
    (h0 : J [] W) :
    CallsIn Fence.wide n Tryz.prog 57 #[.func (.yield lp) #[] #[], .pointer (some ⟨b1, 0, none⟩), .pointer (some ⟨b2, 0, none⟩)] W fun e W' => (∃ v, e = .returned v) ∧
      ((∃ xs, xs = (brk l height l.length 0).map Int.ofNat ∧ J xs W') ∨ (∃ pre, True ∧ Jx pre W')) := by
  obtain ⟨a1, cap1, rfl⟩ := rep_tr hv
  have hlen := hl.1
  refine callsIn_of_wp Tryz.func57 rfl trivial ?_ rfl
  simp only [Tryz.ntmps57, List.size_toArray, List.length_cons, List.length_nil, Nat.reduceAdd, Nat.reduceSub, Array.replicate_succ, Array.replicate_zero, List.push_toArray, List.append_toArray, List.nil_append, List.cons_append]
  gi_wp2
  gi_loopw [4] (fun i wr => ∃ (k fuel : Nat) (pre : List Int), i = .int .i64 k ∧ (brk l height l.length 0).map Int.ofNat = pre ++ (brk l height fuel k).map Int.ofNat ∧ l.length ≤ k + fuel ∧ J pre wr ∧ Below n₀ w wr)
    (fun i _ => l.length - (intOf i).toNat)
  case atStart => exact ⟨0, l.length, [], rfl, rfl, by omega, h0, hb⟩
  case round =>
    obtain ⟨k, fuel, pre, rfl, hx, hf, hJs, hnx⟩ := hrel
    have d1 := (hnx.cell (p := ⟨b1, 0, none⟩) h1).trans c1
    have d2 := (hnx.cell (p := ⟨b2, 0, none⟩) h2).trans c2
    by_cases hlt : k < l.length
    · obtain ⟨fuel, rfl⟩ : ∃ f', fuel = f' + 1 := ⟨fuel - 1, by omega⟩
      have hbk : brk l height (fuel + 1) k = k :: brk l height fuel (fillF l k height) := by simp [brk, hlt]
      rw [hbk] at hx
      obtain ⟨fn, tmps, assign, body, hy, hR⟩ := hY pre k wr hJs (by rw [hx]; simp)
      gi_wp2
      refine hR.mono ?_
      rintro e W3 (⟨rfl, hJ3, hk3⟩ | ⟨rfl, hJx3⟩)
      · have hnx3 := hnx.trans hk3
        have e1 := (hnx3.cell (p := ⟨b1, 0, none⟩) h1).trans c1
        have e2 := (hnx3.cell (p := ⟨b2, 0, none⟩) h2).trans c2
        have hfc := fill_calls l k height hl hlt hn0 hnx3 hrk hk hv
        have h43 : Fence.wide.fn 58 := trivial
        gi_wp2
        refine ((callsIn_wide (n := n - 1)).2 hfc).mono ?_
        rintro e W4 ⟨rfl, hg⟩
        gi_wp2
        have hgt := fillF_gt l k height
        go_roundw
        case rel => exact ⟨fillF l k height, fuel, pre ++ [(k : Int)], rfl, by rw [hx]; simp, by omega, hJ _ _ _ none hJ3 hg (fun r e => by cases e), hnx3.grown hg (Nat.le_trans hn0 hnx3.size) (fun k e => by cases e)⟩
        case measure => simp [intOf]; omega
      · gi_wp2
        go_end0
        exact ⟨⟨_, rfl⟩, .inr ⟨_, trivial, hJx3⟩⟩
    · have hbk : brk l height fuel k = [] := by cases fuel <;> simp [brk, hlt]
      rw [hbk] at hx
      gi_wp2
      refine ⟨fun _ _ => trivial, ?_⟩
      gi_wp2
      go_end0
      exact ⟨⟨_, rfl⟩, .inl ⟨_, rfl, by rw [hx]; simpa using hJs⟩⟩

theorem starts_gives (n : Nat) (hn : 1 ≤ n) (l : List Piece) (height : Int) (hl : allOk l) {m : Mp} {w : World} {v1 : Value} {b1 b2 : Nat} (hrk : ∀ b, m.ro b → m.keep b) (hk : ∀ b, m.keep b → b < w.heap.size) (hv : Rep m w (pcs l) v1)
    (h1 : b1 < w.heap.size) (h2 : b2 < w.heap.size) (c1 : w.cell? ⟨b1, 0, none⟩ = some v1) (c2 : w.cell? ⟨b2, 0, none⟩ = some (.int .i64 height)) (W : World) (hW : Below w.heap.size w W) :
    GivesK n 57 #[.pointer (some ⟨b1, 0, none⟩), .pointer (some ⟨b2, 0, none⟩)] w.heap.size ((brk l height l.length 0).map Int.ofNat) W := fun lp J Jx W2 hW2 hJ _ hY h0 => by
  exact starts1_in n hn l height hl lp (Nat.le_refl _) (hW.trans (hW2.mono hW.size)) hrk hk hv h1 h2 c1 c2 J Jx hJ hY h0
end Go.Proofs.YtnenmpeejjeopaaGreatDoor
