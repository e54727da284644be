/- How a contract of a law's function becomes the statement; what lies in memory as an argument, as a list of the mind. -/
import Derived.WalkKit
import Derived.ProofKit
import Derived.OpenShut
import Derived.Below
import Derived.ChangeSame
import Derived.ShutString
import Derived.Deep.Slices
import Derived.Deep.Fields
import Derived.Test.YtpmfnjkcoogicaaGreatRows
import Derived.Test.YtpmfnjkcoogicaaGreatThInst
import Derived.Test.YtpmfnjkcoogicaaGreatThC
namespace Go.Proofs.YtpmfnjkcoogicaaGreat
open Go.ChangeShapes Go.WideShapes Go.ChangeAt Go.RowKit Go.Th
set_option linter.unusedVariables false

def mW (w : World) : Mp := ⟨fun _ => none, fun b => b < w.heap.size, fun b => b < w.heap.size, 0⟩

theorem cell_lt {w : World} {a : Addr} {v : Value} (h : w.cell? a = some v) : a.block < w.heap.size ∧ a.spot = none := by
  unfold World.cell? at h
  cases hh : w.heap[a.block]? with
  | none => rw [hh] at h; simp at h
  | some o =>
    refine ⟨(Array.getElem?_eq_some_iff.1 hh).1, ?_⟩
    rw [hh] at h
    cases o with
    | cells c e fr =>
      simp only at h
      cases hs : a.spot with
      | none => rfl
      | some x => rw [hs] at h; simp at h
    | _ => simp at h

theorem rep_row {α : Type} {enc : α → List PV} {sz : Nat} (henc : ∀ x, (enc x).length = sz) (hsz : 0 < sz) {w : World} {a : Addr} {len cap : Nat} (h1 : len ≤ cap) (h2 : cap ≤ maxLen)
    (hx : ∀ i, i < len → ∃ x : α, ∀ (j : Nat) (c : PV), (enc x)[j]? = some c → ∃ v, w.cell? (a.add (i * sz + j)) = some v ∧ Rep (mW w) w c v) :
    ∃ l : List α, l.length = len ∧ Rep (mW w) w (.tr (l.flatMap enc) len sz) (.slice (some a) len cap) := by
  cases Nat.eq_zero_or_pos len with
  | inl h0 => subst h0; exact ⟨[], rfl, .tr0 a h2⟩
  | inr hp =>
    obtain ⟨x0, hx0⟩ := hx 0 hp
    have hall : ∀ i, ∃ x : α, i < len → ∀ (j : Nat) (c : PV), (enc x)[j]? = some c → ∃ v, w.cell? (a.add (i * sz + j)) = some v ∧ Rep (mW w) w c v := fun i => by
      by_cases h : i < len
      · obtain ⟨x, hx⟩ := hx i h; exact ⟨x, fun _ => hx⟩
      · exact ⟨x0, fun h' => absurd h' h⟩
    obtain ⟨X, hX⟩ := Classical.axiomOfChoice hall
    have hlen : ((List.range len).map X).length = len := by simp
    have hfl : (((List.range len).map X).flatMap enc).length = len * sz := by rw [flat_length henc, hlen]
    have key : ∀ (j : Nat) (c : PV), (((List.range len).map X).flatMap enc)[j]? = some c → ∃ v, w.cell? (a.add j) = some v ∧ Rep (mW w) w c v := fun j c hj => by
      have hjl : j < len * sz := by rw [← hfl]; exact (List.getElem?_eq_some_iff.1 hj).1
      have hi : j / sz < len := by rw [Nat.div_lt_iff_lt_mul hsz]; exact hjl
      have hr : j % sz < sz := Nat.mod_lt _ hsz
      have he : j / sz * sz + j % sz = j := Nat.div_add_mod' j sz
      have hat := flat_at henc ((List.range len).map X) (j / sz) (X (j / sz)) (by simp [hi])
      obtain ⟨_, e⟩ := (takeN_eq _ _ _).1 hat
      have hc : (enc (X (j / sz)))[j % sz]? = some c := by
        rw [e, List.getElem?_take, if_pos hr, List.getElem?_drop, he]; exact hj
      obtain ⟨v, v1, v2⟩ := hX (j / sz) hi (j % sz) c hc
      rw [he] at v1
      exact ⟨v, v1, v2⟩
    obtain ⟨c0, hc0⟩ : ∃ c, (((List.range len).map X).flatMap enc)[0]? = some c := ⟨_, List.getElem?_eq_getElem (by rw [hfl]; exact Nat.mul_pos hp hsz)⟩
    obtain ⟨v0, u1, _⟩ := key 0 c0 hc0
    have hlt := cell_lt u1
    simp only [Addr.add, if_true] at hlt
    obtain ⟨b, o, s⟩ := a
    obtain ⟨hb, rfl⟩ := hlt
    have hadd : ∀ j, (Addr.mk b o none).add j = Addr.mk b (o + j) none := fun j => by
      unfold Addr.add
      split
      · rename_i e; subst e; rfl
      · rfl
    refine ⟨(List.range len).map X, hlen, .tr (fun j => (w.cell? ⟨b, o + j, none⟩).getD undef) hb (by rw [hfl]) h1 h2 (fun j c hj => ?_) (fun j c hj => ?_)⟩
    · obtain ⟨v, v1, _⟩ := key j c hj
      rw [hadd] at v1
      rw [v1]; rfl
    · obtain ⟨v, v1, v2⟩ := key j c hj
      rw [hadd] at v1
      simp only [v1, Option.getD_some]; exact v2

section
variable {H : Type} {tok : TypeId × Value → H} {P : Program} {w : World} {base : Nat} {spare : Nat → Bool} {held : Bool}

/-- A slice of structs, read as a list: 'build' says how one struct's fields make an element. -/
theorem read_row {α : Type} {enc : α → List PV} {sz : Nat} (henc : ∀ x, (enc x).length = sz) (hsz : 0 < sz) {t e : TypeId} {fs : Array Field} {fuel : Nat} {v : Value} {x : DataW H × List MemPlace} (ht : P.underlying t = some (.slice e)) (he : P.underlying e = some (.struct fs))
    (hone : Go.Deep.oneCellFields P fs = true) (hC : P.cellsOf e = sz) (hfs : fs.size = sz) (h : DataW.trod tok P w base spare held fuel t [v] = some x)
    (build : ∀ F : Nat → Value, (∀ (j : Nat) (f : Field), fs[j]? = some f → ∃ n y, DataW.trod tok P w base spare held n f.type [F j] = some y) → ∃ x : α, ∀ (j : Nat) (c : PV), (enc x)[j]? = some c → Rep (mW w) w c (F j)) :
    ∃ l : List α, l.length ≤ maxLen ∧ Rep (mW w) w (.tr (l.flatMap enc) l.length sz) v := by
  rcases Go.Deep.open_slice ht h with ⟨hcs, _⟩ | ⟨a, len, cap, m, n, D, Pl, hcs, _, hl, hm, hmm, _, hi⟩
  · cases hcs
    exact ⟨[], by simp, .trn⟩
  · cases hcs
    have hlm : len ≤ m := by rw [hmm]; split <;> omega
    obtain ⟨l, hll, hr⟩ := rep_row (w := w) (a := a) henc hsz hl hm (fun i hil => by
      obtain ⟨cs', hc, ht'⟩ := hi i (by omega)
      obtain ⟨_, hcl, hat⟩ := World.cells?_some hc
      obtain ⟨ys, n', _, _, _, hyl, hf⟩ := DataW.trod_struct he ht'
      obtain ⟨x, hx⟩ := build (fun j => cs'.getD j undef) (fun j f hj => by
        obtain ⟨ho, hk⟩ := Go.Deep.hone_of hone j f hj
        have hjl : j < fs.size := (Array.getElem?_eq_some_iff.1 hj).1
        have h1 := hf j f hj
        rw [ho, hk] at h1
        have hjc : j < cs'.length := by rw [hcl, hC, ← hfs]; exact hjl
        have e1 : (cs'.drop j).take 1 = [cs'.getD j undef] := by
          simp only [List.getD_eq_getElem?_getD, List.getElem?_eq_getElem hjc, Option.getD_some]
          rw [List.drop_eq_getElem_cons hjc]; rfl
        rw [e1] at h1
        exact ⟨n', ys[j]'(by rw [hyl]; exact hjl), by rw [h1]; exact List.getElem?_eq_getElem _⟩)
      refine ⟨x, fun j c hj => ?_⟩
      have hjs : j < sz := by rw [← henc x]; exact (List.getElem?_eq_some_iff.1 hj).1
      have hjc : j < cs'.length := by rw [hcl, hC]; exact hjs
      refine ⟨cs'.getD j undef, ?_, hx j c hj⟩
      have := hat j (by rw [hC]; exact hjs)
      rw [Go.Deep.add_add, hC] at this
      rw [this]; simp [List.getD_eq_getElem?_getD, hjc])
    subst hll
    exact ⟨l, by omega, hr⟩
end

section
variable {H : Type} {enc : TypeId × Value → H} {P : Program}
theorem post_of_below {f : Func} {s : ChangeSpec} {apart fresh handsOn again : Bool} {W W' : World} {args : Array Value} {v : Value} {ds gs : List (DataW H)} {before pa pv : List MemPlace}
    (hW : DataW.Whole enc P f.params.toList s.vars apart W args.toList ds gs before)
    (hres : ∀ (b : Nat) (sp : Nat → Bool) (hd : Bool), DataW.TrodAll enc P W' b sp hd f.resultTypes.toList (v.resultList f.resultTypes.size) (s.fn H (ds ++ gs)).results [])
    (hargs : ∀ sp : Nat → Bool, (∀ p ∈ before, sp p.block = true) → DataW.TrodAll enc P W' 0 sp true f.params.toList args.toList (s.fn H (ds ++ gs)).args pa)
    (hvars : ∀ sp : Nat → Bool, (∀ p ∈ before, sp p.block = true) → DataW.TrodVars enc P W' sp s.vars (s.fn H (ds ++ gs)).vars pv)
    (hps : before = pa ++ pv) (hb : Below W.heap.size W W')
    (hok : ∀ (j : Nat) (t : TypeId) (r : Value), f.resultTypes[j]? = some t → (v.resultList f.resultTypes.size)[j]? = some r → Value.okWide P W' .any 0 t r) :
    s.post enc P f apart fresh handsOn again W args v W' := by
  have hlt : ∀ p ∈ before, p.block < W.heap.size := fun p hp => hW.lt p hp
  have hold : ∀ p ∈ before, (fun b => decide (b < W.heap.size)) p.block = true := fun p hp => by simpa using hlt p hp
  refine ⟨ds, gs, before, [], pa, pv, hW, hres _ _ _, hargs _ hold, hvars _ hold, World.keptBut_mono (fun p hp => ⟨hp, ?_⟩) (hb.frame (· ∈ before)), fun _ => ?_⟩
  · rw [hps, List.mem_append] at hp
    exact Or.inr hp
  · obtain ⟨_, _, _, _, _, hz, hn⟩ := hW
    refine ⟨hok, _, _, ([] ++ pa) ++ pv, ⟨[] ++ pa, pv, trodAll_append (hargs _ (fun _ _ => rfl)) (hres _ _ _), hvars _ (fun _ _ => rfl), rfl, ?_, ?_⟩, ?_⟩
    · intro b off hp
      have hin : MemPlace.cell b off ∈ before := by rw [hps]; simpa using hp
      rw [hb.frozen (hlt _ hin)]
      exact hz b off hin
    · intro ha
      have := hn ha
      rw [hps] at this
      simpa using this
    · intro p hp _
      rw [hps]
      simpa using hp
end

theorem own_knob : ownKnob Tryz.prog.godebug = none := by kernel_rfl

/-- A contract of a function of trees, called in any world: what lay there lies as it lay. -/
theorem iso_below {f : FuncId} {args : List PV} {vals : Array Value} {W : World} (h : Iso Tryz.prog f args (fun p => p = .v (.bool true))) (hr : RepL (mW W) W args vals) :
    Calls Tryz.prog f vals W fun e W' => e = .returned (.bool true) ∧ Below W.heap.size W W' := by
  refine (h.2 (mW W) W vals (fun b h => h) (fun b h => h) (fun _ => rfl) hr).mono ?_
  rintro e w' ⟨v, p, m', rfl, rfl, hv, _, hle, _, _⟩
  cases hv
  exact ⟨rfl, hle.os, hle.tape, hle.output, hle.size, fun k hk => hle.same k hk⟩

theorem laid_out : laidOutB Tryz.prog = true := by kernel_rfl

/-- A call without arguments of which is known what it answers, as a contract. -/
theorem iso_of_below {f : FuncId} {fn : Func} {b : Bool} (hf : Tryz.prog.funcs[f]? = some fn) (hn : (fn.name == "runtime.NumGoroutine") = false) (hb : fn.body.isNone = false)
    (h : ∀ w, Calls Tryz.prog f #[] w fun e w' => e = .returned (.bool b) ∧ Below w.heap.size w w') : Iso Tryz.prog f [] (fun p => p = .v (.bool b)) := by
  refine ⟨⟨fn, hf, hn, hb⟩, fun m w vals h1 h2 h3 hr => ?_⟩
  obtain rfl : vals = #[] := by
    have := hr.1
    simpa using this
  refine (h w).mono ?_
  rintro e w' ⟨rfl, hb⟩
  exact ⟨.bool b, .v (.bool b), m, rfl, rfl, .v _ rfl, h3, ⟨fun _ _ h => h, fun _ h => h, fun _ h => h, fun k hk => hb.5 k (h2 k hk), hb.size, hb.os, hb.tape, hb.output, fun _ h => .inl h, rfl, fun _ _ => rfl⟩, h1, fun b hk => Nat.lt_of_lt_of_le (h2 b hk) hb.size⟩
end Go.Proofs.YtpmfnjkcoogicaaGreat
