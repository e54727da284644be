/- What lies in memory as an argument, as a list of the mind. -/
import Derived.Deep.Slices
import Derived.Deep.Fields
import Derived.ChangeSame
import Derived.Test.YtnenmpeejjeopaaGreatDoorPgK
namespace Go.Proofs.YtnenmpeejjeopaaGreatDoor
open Go.RowKit Go.Th

def mW (w : World) : Mp := ⟨fun _ => none, fun b => b < w.heap.size, fun b => b < w.heap.size⟩

theorem cell_lt {w : World} {a : Addr} {v : Value} (h : w.cell? a = some v) : a.block < w.heap.size ∧ a.spot = none := by
  unfold World.cell? at h
  cases hh : w.heap[a.block]? with
  | none => rw [hh] at h; simp at h
  | some o =>
    refine ⟨(Array.getElem?_eq_some_iff.1 hh).1, ?_⟩
    rw [hh] at h
    cases o with
    | cells c e fr =>
      simp only at h
      cases hs : a.spot with
      | none => rfl
      | some x => rw [hs] at h; simp at h
    | _ => simp at h

theorem rep_row {α : Type} {enc : α → List PV} {sz : Nat} (henc : ∀ x, (enc x).length = sz) (hsz : 0 < sz) {w : World} {a : Addr} {len cap : Nat} (h1 : len ≤ cap) (h2 : cap ≤ maxLen)
    (hx : ∀ i, i < len → ∃ x : α, ∀ (j : Nat) (c : PV), (enc x)[j]? = some c → ∃ v, w.cell? (a.add (i * sz + j)) = some v ∧ Rep (mW w) w c v) :
    ∃ l : List α, l.length = len ∧ Rep (mW w) w (.tr (l.flatMap enc) len sz) (.slice (some a) len cap) := by
  cases Nat.eq_zero_or_pos len with
  | inl h0 => subst h0; exact ⟨[], rfl, .tr0 a h2⟩
  | inr hp =>
    obtain ⟨x0, hx0⟩ := hx 0 hp
    have hall : ∀ i, ∃ x : α, i < len → ∀ (j : Nat) (c : PV), (enc x)[j]? = some c → ∃ v, w.cell? (a.add (i * sz + j)) = some v ∧ Rep (mW w) w c v := fun i => by
      by_cases h : i < len
      · obtain ⟨x, hx⟩ := hx i h; exact ⟨x, fun _ => hx⟩
      · exact ⟨x0, fun h' => absurd h' h⟩
    obtain ⟨X, hX⟩ := Classical.axiomOfChoice hall
    have hlen : ((List.range len).map X).length = len := by simp
    have hfl : (((List.range len).map X).flatMap enc).length = len * sz := by rw [flat_len henc, hlen]
    have key : ∀ (j : Nat) (c : PV), (((List.range len).map X).flatMap enc)[j]? = some c → ∃ v, w.cell? (a.add j) = some v ∧ Rep (mW w) w c v := fun j c hj => by
      have hjl : j < len * sz := by rw [← hfl]; exact (List.getElem?_eq_some_iff.1 hj).1
      have hi : j / sz < len := by rw [Nat.div_lt_iff_lt_mul hsz]; exact hjl
      have hr : j % sz < sz := Nat.mod_lt _ hsz
      have he : j / sz * sz + j % sz = j := Nat.div_add_mod' j sz
      have hat := flat_at henc ((List.range len).map X) (j / sz) (X (j / sz)) (by simp [hi])
      obtain ⟨_, e⟩ := (takeN_eq _ _ _).1 hat
      have hc : (enc (X (j / sz)))[j % sz]? = some c := by
        rw [e, List.getElem?_take, if_pos hr, List.getElem?_drop, he]; exact hj
      obtain ⟨v, v1, v2⟩ := hX (j / sz) hi (j % sz) c hc
      rw [he] at v1
      exact ⟨v, v1, v2⟩
    obtain ⟨c0, hc0⟩ : ∃ c, (((List.range len).map X).flatMap enc)[0]? = some c := ⟨_, List.getElem?_eq_getElem (by rw [hfl]; exact Nat.mul_pos hp hsz)⟩
    obtain ⟨v0, u1, _⟩ := key 0 c0 hc0
    have hlt := cell_lt u1
    simp only [Addr.add, if_true] at hlt
    obtain ⟨b, o, s⟩ := a
    obtain ⟨hb, rfl⟩ := hlt
    have hadd : ∀ j, (Addr.mk b o none).add j = Addr.mk b (o + j) none := fun j => by
      unfold Addr.add
      split
      · rename_i e; subst e; rfl
      · rfl
    refine ⟨(List.range len).map X, hlen, .tr (fun j => (w.cell? ⟨b, o + j, none⟩).getD undef) hb (by rw [hfl]) h1 h2 (fun j c hj => ?_) (fun j c hj => ?_)⟩
    · obtain ⟨v, v1, _⟩ := key j c hj
      rw [hadd] at v1
      rw [v1]; rfl
    · obtain ⟨v, v1, v2⟩ := key j c hj
      rw [hadd] at v1
      simp only [v1, Option.getD_some]; exact v2

section
variable {H : Type} {tok : TypeId × Value → H} {P : Program} {w : World} {base : Nat} {spare : Nat → Bool} {held : Bool}

/-- A slice of structs, read as a list: 'build' says how one struct's fields make an element. -/
theorem read_row {α : Type} {enc : α → List PV} {sz : Nat} (henc : ∀ x, (enc x).length = sz) (hsz : 0 < sz) {t e : TypeId} {fs : Array Field} {fuel : Nat} {v : Value} {x : DataW H × List MemPlace} (ht : P.underlying t = some (.slice e)) (he : P.underlying e = some (.struct fs))
    (hone : Go.Deep.oneCellFields P fs = true) (hC : P.cellsOf e = sz) (hfs : fs.size = sz) (h : DataW.trod tok P w base spare held fuel t [v] = some x)
    (build : ∀ F : Nat → Value, (∀ (j : Nat) (f : Field), fs[j]? = some f → ∃ n y, DataW.trod tok P w base spare held n f.type [F j] = some y) → ∃ x : α, ∀ (j : Nat) (c : PV), (enc x)[j]? = some c → Rep (mW w) w c (F j)) :
    ∃ l : List α, l.length ≤ maxLen ∧ Rep (mW w) w (.tr (l.flatMap enc) l.length sz) v := by
  rcases Go.Deep.open_slice ht h with ⟨hcs, _⟩ | ⟨a, len, cap, m, n, D, Pl, hcs, _, hl, hm, hmm, _, hi⟩
  · cases hcs
    exact ⟨[], by simp, .trn⟩
  · cases hcs
    have hlm : len ≤ m := by rw [hmm]; split <;> omega
    obtain ⟨l, hll, hr⟩ := rep_row (w := w) (a := a) henc hsz hl hm (fun i hil => by
      obtain ⟨cs', hc, ht'⟩ := hi i (by omega)
      obtain ⟨_, hcl, hat⟩ := World.cells?_some hc
      obtain ⟨ys, n', _, _, _, hyl, hf⟩ := DataW.trod_struct he ht'
      obtain ⟨x, hx⟩ := build (fun j => cs'.getD j undef) (fun j f hj => by
        obtain ⟨ho, hk⟩ := Go.Deep.hone_of hone j f hj
        have hjl : j < fs.size := (Array.getElem?_eq_some_iff.1 hj).1
        have h1 := hf j f hj
        rw [ho, hk] at h1
        have hjc : j < cs'.length := by rw [hcl, hC, ← hfs]; exact hjl
        have e1 : (cs'.drop j).take 1 = [cs'.getD j undef] := by
          simp only [List.getD_eq_getElem?_getD, List.getElem?_eq_getElem hjc, Option.getD_some]
          rw [List.drop_eq_getElem_cons hjc]; rfl
        rw [e1] at h1
        exact ⟨n', ys[j]'(by rw [hyl]; exact hjl), by rw [h1]; exact List.getElem?_eq_getElem _⟩)
      refine ⟨x, fun j c hj => ?_⟩
      have hjs : j < sz := by rw [← henc x]; exact (List.getElem?_eq_some_iff.1 hj).1
      have hjc : j < cs'.length := by rw [hcl, hC]; exact hjs
      refine ⟨cs'.getD j undef, ?_, hx j c hj⟩
      have := hat j (by rw [hC]; exact hjs)
      rw [Go.Deep.add_add, hC] at this
      rw [this]; simp [List.getD_eq_getElem?_getD, hjc])
    subst hll
    exact ⟨l, by omega, hr⟩
end

section
variable {H : Type} {tok : TypeId × Value → H} {w : World} {base : Nat} {spare : Nat → Bool} {held : Bool}

theorem read_int {fuel : Nat} {v : Value} {x : DataW H × List MemPlace} (h : DataW.trod tok Tryz.prog w base spare held fuel 3 [v] = some x) : ∃ n, v = .int .i64 n := by
  obtain ⟨n, h1, _, _⟩ := DataW.trod_int Tryz.underlying3 h
  cases h1
  exact ⟨n, rfl⟩
theorem read_bool {fuel : Nat} {v : Value} {x : DataW H × List MemPlace} (h : DataW.trod tok Tryz.prog w base spare held fuel 4 [v] = some x) : ∃ b, v = .bool b := by
  obtain ⟨n, h1, _⟩ := DataW.trod_bool Tryz.underlying4 h
  cases h1
  exact ⟨n, rfl⟩

theorem read_feet {fuel : Nat} {v : Value} {x : DataW H × List MemPlace} (h : DataW.trod tok Tryz.prog w base spare held fuel 91 [v] = some x) : ∃ l : List Foot, Rep (mW w) w (feetP l) v := by
  obtain ⟨l, _, hl⟩ := read_row encFoot_len (by omega) Tryz.underlying91 Tryz.underlying193 (by kernel_rfl) (by kernel_rfl) rfl h (fun F hF => by
    obtain ⟨n0, y0, h0⟩ := hF 0 _ rfl
    obtain ⟨n1, y1, h1⟩ := hF 1 _ rfl
    obtain ⟨a, ea⟩ := read_int h0
    obtain ⟨b, eb⟩ := read_int h1
    refine ⟨⟨a, b⟩, fun j c hj => ?_⟩
    match j with
    | 0 => simp [encFoot] at hj; subst hj; rw [ea]; exact .v _ rfl
    | 1 => simp [encFoot] at hj; subst hj; rw [eb]; exact .v _ rfl
    | j + 2 => simp [encFoot] at hj)
  exact ⟨l, hl⟩

theorem read_pieces {fuel : Nat} {v : Value} {x : DataW H × List MemPlace} (h : DataW.trod tok Tryz.prog w base spare held fuel 73 [v] = some x) : ∃ l : List Piece, l.length ≤ maxLen ∧ Rep (mW w) w (pcs l) v := by
  obtain ⟨l, hm, hl⟩ := read_row encPiece_len (by omega) Tryz.underlying73 Tryz.underlying93 (by kernel_rfl) (by kernel_rfl) rfl h (fun F hF => by
    obtain ⟨_, _, h0⟩ := hF 0 _ rfl
    obtain ⟨_, _, h1⟩ := hF 1 _ rfl
    obtain ⟨_, _, h2⟩ := hF 2 _ rfl
    obtain ⟨_, _, h3⟩ := hF 3 _ rfl
    obtain ⟨_, _, h4⟩ := hF 4 _ rfl
    obtain ⟨_, _, h5⟩ := hF 5 _ rfl
    obtain ⟨_, _, h6⟩ := hF 6 _ rfl
    obtain ⟨_, _, h7⟩ := hF 7 _ rfl
    obtain ⟨_, _, h8⟩ := hF 8 _ rfl
    obtain ⟨_, _, h9⟩ := hF 9 _ rfl
    obtain ⟨_, _, h10⟩ := hF 10 _ rfl
    obtain ⟨_, _, h11⟩ := hF 11 _ rfl
    obtain ⟨a0, e0⟩ := read_int h0
    obtain ⟨a1, e1⟩ := read_int h1
    obtain ⟨a2, e2⟩ := read_int h2
    obtain ⟨a3, e3⟩ := read_int h3
    obtain ⟨a4, e4⟩ := read_int h4
    obtain ⟨a5, e5⟩ := read_int h5
    obtain ⟨a6, e6⟩ := read_int h6
    obtain ⟨a7, e7⟩ := read_int h7
    obtain ⟨a8, e8⟩ := read_int h8
    obtain ⟨f9, e9⟩ := read_feet h9
    obtain ⟨a10, e10⟩ := read_bool h10
    obtain ⟨a11, e11⟩ := read_bool h11
    refine ⟨⟨a0, a1, a2, a3, a4, a5, a6, a7, a8, f9, a10, a11⟩, fun j c hj => ?_⟩
    match j with
    | 0 => simp [encPiece] at hj; subst hj; rw [e0]; exact .v _ rfl
    | 1 => simp [encPiece] at hj; subst hj; rw [e1]; exact .v _ rfl
    | 2 => simp [encPiece] at hj; subst hj; rw [e2]; exact .v _ rfl
    | 3 => simp [encPiece] at hj; subst hj; rw [e3]; exact .v _ rfl
    | 4 => simp [encPiece] at hj; subst hj; rw [e4]; exact .v _ rfl
    | 5 => simp [encPiece] at hj; subst hj; rw [e5]; exact .v _ rfl
    | 6 => simp [encPiece] at hj; subst hj; rw [e6]; exact .v _ rfl
    | 7 => simp [encPiece] at hj; subst hj; rw [e7]; exact .v _ rfl
    | 8 => simp [encPiece] at hj; subst hj; rw [e8]; exact .v _ rfl
    | 9 => simp [encPiece] at hj; subst hj; exact e9
    | 10 => simp [encPiece] at hj; subst hj; rw [e10]; exact .v _ rfl
    | 11 => simp [encPiece] at hj; subst hj; rw [e11]; exact .v _ rfl
    | j + 12 => simp [encPiece] at hj)
  exact ⟨l, hm, hl⟩
end
end Go.Proofs.YtnenmpeejjeopaaGreatDoor
