/- Small steps that a walk asks for: exits, guards that are decided, slices of slices, a slice that is closed. -/
import Derived.Test.YtpkeceifnmmhcaaThNine
namespace Go.Th
open Go.RowKit

section
variable {P : Program} {n : Nat} {Q : QA} {E : Env} {H : Heap} {ops : Array Oper} {rest : List Oper} {K : Env → Heap → Prop} {i id : Nat}

theorem x_then_exit (h : Q (.exit i) E H) : thenA K Q (.exit i) E H := h
theorem x_then_ret (h : Q .ret E H) : thenA K Q .ret E H := h
theorem x_then_normal (h : K E H) : thenA K Q .normal E H := h
theorem x_block_ret (h : Q .ret E H) : inBlockA id Q .ret E H := h
theorem x_block_normal (h : Q .normal E H) : inBlockA id Q .normal E H := h
theorem x_block_exit (h : Q .normal E H) : inBlockA id Q (.exit id) E H := by
  simp only [inBlockA, if_true]; exact h
theorem x_block_other (hne : Nat.beq i id = false) (h : Q (.exit i) E H) : inBlockA id Q (.exit i) E H := by
  have : ¬ i = id := fun e => by rw [e] at hne; simp at hne
  simp only [inBlockA, if_neg this]; exact h

theorem wpA_ct {c : Operand} {x y : Code} {t : Bool} (hc : E.ev c = some (.v (.bool t))) (ht : t = true) (h : wpA P n x Q E H) : wpA P n (.cond c x y) Q E H :=
  wpA_cond hc (fun _ => h) (fun e => by rw [ht] at e; cases e)
theorem wpA_cf {c : Operand} {x y : Code} {t : Bool} (hc : E.ev c = some (.v (.bool t))) (ht : t = false) (h : wpA P n y Q E H) : wpA P n (.cond c x y) Q E H :=
  wpA_cond hc (fun e => by rw [ht] at e; cases e) (fun _ => h)

theorem wpL_gt {o og : Oper} {j dj d : Nat} {want b : Bool} (hg : o.guard = some (j, want)) (hj : ops[j]? = some og) (hdj : og.dst = some dj) (hb : E.get dj = some (.v (.bool b))) (hd : o.dst = some d) (hn : d < n) (e : b = want)
    (h1 : wpL P n ops ({ o with guard := none } :: rest) Q E H) : wpL P n ops (o :: rest) Q E H := wpL_g hg hj hdj hb hd hn (fun _ => h1) (fun e' => absurd e e')
theorem wpL_gf {o og : Oper} {j dj d : Nat} {want b : Bool} (hg : o.guard = some (j, want)) (hj : ops[j]? = some og) (hdj : og.dst = some dj) (hb : E.get dj = some (.v (.bool b))) (hd : o.dst = some d) (hn : d < n) (e : b = !want)
    (h1 : wpL P n ops rest Q ((d, .v undef) :: E) H) : wpL P n ops (o :: rest) Q E H := wpL_g hg hj hdj hb hd hn (fun e' => by rw [e'] at e; cases want <;> cases e) (fun _ => h1)

/-- A slice of ours is closed: it will not be written any more, nor appended to; whoever holds it by its id holds nothing. -/
theorem At.freeze {m0 : Mp} {w0 : World} {a : Act} {w : World} {t id off len sz : Nat} {B : Blk} {cs : List PV} (h : At m0 w0 n E H a w) (ht : E.get t = some (.sl id off len sz)) (hB : H[id]? = some (some B)) (hc : takeN (len * sz) (B.cells.drop off) = some cs) :
    At m0 w0 n ((t, .tr cs len sz) :: E) (H.set id none) a w := by
  obtain ⟨h1, h2, m, h3, h4, h5⟩ := h
  obtain ⟨t1, rfl⟩ := (takeN_eq _ _ _).1 hc
  have hcl : ((B.cells.drop off).take (len * sz)).length = len * sz := by simp only [List.length_take]; omega
  have hr := h5 t _ ht
  generalize hv : a.tmps.getD t undef = v at hr
  cases hr with
  | @sl _ _ _ _ b d lim cap hm a1 a2 a3 =>
    obtain ⟨hd0, ⟨cur, c1, c2, c3, c4⟩, hk1, hk2⟩ := h4.blk id B b d lim hB hm
    -- the block is kept from now on
    have hle : Le m w { blk := m.blk, ro := fun k => m.ro k ∨ k = b, keep := fun k => m.keep k ∨ k = b } w :=
      ⟨fun _ _ h => h, fun _ h => .inl h, fun _ h => .inl h, fun _ _ => rfl, Nat.le_refl _, rfl, rfl, rfl, fun k hk => by
        rcases hk with hk | rfl
        · exact .inl hk
        · cases ho : B.own with
          | true => exact .inr (hk1 ho)
          | false => exact .inl (hk2 ho)⟩
    have hR : R { blk := m.blk, ro := fun k => m.ro k ∨ k = b, keep := fun k => m.keep k ∨ k = b } (H.set id none) w := by
      refine ⟨fun k hk => ?_, fun k hk => ?_, fun i x hx => by simpa using h4.dom i x hx, fun i C bi di li hi hmi => ?_, fun i j C D bi di li bj dj lj hne hi hj => ?_⟩
      · rcases hk with hk | hk
        · exact .inl (h4.rk k hk)
        · exact .inr hk
      · rcases hk with hk | rfl
        · exact h4.kl k hk
        · exact h4.lt hB hm
      · rcases set_get hi with ⟨_, e⟩ | ⟨n1, e⟩
        · cases e
        · obtain ⟨g0, ⟨cur', g1, g2, g3, g4⟩, g5, g6⟩ := h4.blk i C bi di li e hmi
          refine ⟨g0, ⟨cur', g1, g2, g3, fun j c hj => let ⟨u, u1, u2, u3⟩ := g4 j c hj; ⟨u, u1, u2.mono h4.rk hle, u3⟩⟩, fun hoC hk => ?_, fun hoC => .inl (g6 hoC)⟩
          rcases hk with hk | rfl
          · exact g5 hoC hk
          · cases ho : B.own with
            | true => exact h4.inj i id C B _ _ _ _ _ _ n1 e hB hoC ho hmi hm rfl
            | false => exact g5 hoC (h4.rk _ (hk2 ho))
      · rcases set_get hi with ⟨_, e⟩ | ⟨n1, ei⟩
        · cases e
        · rcases set_get hj with ⟨_, e⟩ | ⟨n2, ej⟩
          · cases e
          · exact h4.inj i j C D bi di li bj dj lj hne ei ej
    refine ⟨h1, h2, _, h3.trans hle, hR, fun t' p ht' => ?_⟩
    rw [Env.get_cons] at ht'
    by_cases e : t = t'
    · subst e
      rw [if_pos rfl] at ht'; cases ht'
      rw [hv]
      refine .tr (b := b) (o := d + off) (fun j => cur.getD (d + off + j) undef) (.inr rfl) hcl a1 a2 (fun j q hj => ?_) (fun j q hj => ?_)
      all_goals
        have hlt : j < ((B.cells.drop off).take (len * sz)).length := (List.getElem?_eq_some_iff.1 hj).1
        have hj2 := hj
        rw [List.getElem?_take, if_pos (by omega), List.getElem?_drop] at hj2
        obtain ⟨u, u1, u2, _⟩ := c4 _ _ hj2
        have u1' : cur[d + off + j]? = some u := by rw [Nat.add_assoc]; exact u1
        have hg : cur.getD (d + off + j) undef = u := by rw [Array.getD_eq_getD_getElem?, u1']; rfl
      · rw [cell_of_row w b _ cur B.elem (0, 0) c1, u1', hg]
      · simp only [hg]
        exact u2.mono h4.rk hle
    · rw [if_neg e] at ht'
      exact (h5 t' p ht').mono h4.rk hle
  | sl0 ad =>
    refine ⟨h1, h2, m, h3, h4.kill id, fun t' p ht' => ?_⟩
    rw [Env.get_cons] at ht'
    by_cases e : t = t'
    · subst e
      rw [if_pos rfl] at ht'; cases ht'
      rw [hv]
      have : (B.cells.drop off).take (0 * sz) = [] := by simp
      rw [this]
      cases ad with
      | some ad => exact .tr0 ad (by simp [maxLen])
      | none => exact .trn
    · rw [if_neg e] at ht'
      exact h5 t' p ht'

theorem wpA_freeze {c : Code} (t : Nat) {id off len sz : Nat} {B : Blk} {cs : List PV} (ht : E.get t = some (.sl id off len sz)) (hB : H[id]? = some (some B)) (hc : takeN (len * sz) (B.cells.drop off) = some cs)
    (h : wpA P n c Q ((t, .tr cs len sz) :: E) (H.set id none)) : wpA P n c Q E H := fun m0 w0 a w hat => h m0 w0 a w (hat.freeze ht hB hc)

/-- A nil slice, seen as a slice of no cells. -/
theorem wpA_nil_tr {c : Code} (t sz : Nat) (ht : E.get t = some (.v (.slice none 0 0))) (h : wpA P n c Q ((t, .tr [] 0 sz) :: E) H) : wpA P n c Q E H := by
  rintro m0 w0 a w ⟨h1, h2, m, h3, h4, h5⟩
  refine h m0 w0 a w ⟨h1, h2, m, h3, h4, fun t' p ht' => ?_⟩
  rw [Env.get_cons] at ht'
  by_cases e' : t = t'
  · subst e'
    rw [if_pos rfl] at ht'; cases ht'
    rw [rep_v (h5 t _ ht)]
    exact .trn
  · rw [if_neg e'] at ht'
    exact h5 t' p ht'

end

/-! ### A slice of a slice -/

def sliceA (sz : Nat) (p : PV) (l h : Nat) : Option PV :=
  match p with
  | .sl id off _ sz' => match Nat.beq sz' sz with
    | true => some (.sl id (off + l * sz) (h - l) sz)
    | false => none
  | .tr cells _ sz' => match Nat.beq sz' sz with
    | true => some (.tr ((cells.drop (l * sz)).take ((h - l) * sz)) (h - l) sz)
    | false => none
  | _ => none

def optInt (E : Env) (dflt : Nat) : Option Operand → Option Nat
  | none => some dflt
  | some x => match E.ev x with
    | some (.v (.int _ i)) => match i with
      | .ofNat k => some k
      | .negSucc _ => none
    | _ => none

section
variable {P : Program} {E : Env} {H : Heap} {o : Oper} {t e : TypeId} {sz bytes : Nat} {z : List Value}

theorem run_sliceBound {P : Program} {w : World} (k : IntKind) (i y : Nat) (c : BoundsCode) (h : i ≤ y) : (Instr.sliceBound (.int k (i : Int)) y c).run P w = .ok i w := by
  have h1 : (0 : Int) ≤ (i : Int) ∧ (i : Int) ≤ (y : Int) := ⟨by omega, by omega⟩
  simp [Instr.sliceBound, asIntOf, h1]

theorem OpV_slice [hu : HasU P t (.slice e)] [hi : HasI P e sz bytes z] {x : Operand} {lo hi' : Option Operand} {p q : PV} {len l h : Nat} {kl kh : IntKind} (ho : o.op = .slice t x lo hi' none) (hx : E.ev x = some p) (hlen : lenA p = some len)
    (hlo : match lo with | none => l = 0 | some y => E.ev y = some (.v (.int kl (l : Int)))) (hhi : match hi' with | none => h = len | some y => E.ev y = some (.v (.int kh (h : Int)))) (hlh : l ≤ h ∧ h ≤ len)
    (hq : sliceA sz p l h = some q) : OpV P o E H q := fun m w ρ hR hρ => by
  obtain ⟨inf, zv, h3, h4, _⟩ := hi.i
  subst h4
  have hp := hρ x p hx
  -- the run, once the value is known
  have key : ∀ (a : Option Addr) (c : Nat), len ≤ c → ρ x = .slice a len c → (execOp ρ o).run P w = .ok (.value (.slice (if c = l then a else a.map (·.add (l * inf.size))) (h - l) (c - l))) w := fun a c hc hv => by
    have hs : ∀ f : Value → Sem Nat, True := fun _ => trivial
    have hb : (Instr.sliceBounds true len c (lo.map ρ) (hi'.map ρ) none).run P w = .ok (l, h, c) w := by
      unfold Instr.sliceBounds
      cases lo with
      | none =>
        simp only at hlo
        subst hlo
        cases hi' with
        | none => simp only at hhi; subst hhi; simp
        | some y =>
          simp only at hhi
          have := rep_v (hρ y _ hhi)
          simp [this, run_sliceBound kh h c _ (by omega)]
      | some y =>
        simp only at hlo
        have h1 := rep_v (hρ y _ hlo)
        cases hi' with
        | none => simp only at hhi; subst hhi; simp [h1, run_sliceBound kl l h _ (by omega)]
        | some y' =>
          simp only at hhi
          have h2 := rep_v (hρ y' _ hhi)
          simp [h1, h2, run_sliceBound kl l h _ (by omega), run_sliceBound kh h c _ (by omega)]
    simp only [execOp, ho, Option.map_none, Instr.sliceAt, Sem.run_bind, run_underlying hu.u, Result.andThen_ok, hv, Instr.slice, hb, run_sizeOf h3, Sem.run_pure]
  generalize hv : ρ x = v at hp
  cases hp with
  | @sl id off len' sz' b d lim cap hm a1 a2 a3 =>
    simp only [lenA] at hlen; cases hlen
    simp only [sliceA] at hq
    split at hq
    · rename_i hb
      have hb := Nat.eq_of_beq_eq_true hb
      subst hb
      cases hq
      refine ⟨_, key _ _ a1 hv, ?_⟩
      by_cases hc : cap = l
      · rw [if_pos hc]
        have : h - l = 0 := by omega
        rw [this, show cap - l = 0 by omega]
        exact .sl0 _
      · rw [if_neg hc]
        simp only [Option.map_some, Addr.add_mk]
        rw [Nat.add_assoc]
        refine .sl (d := d) (lim := lim) hm (by omega) (by omega) ?_
        have : l * inf.size + (cap - l) * inf.size = cap * inf.size := by rw [← Nat.add_mul]; congr 1; omega
        omega
    · cases hq
  | sl0 a =>
    simp only [lenA] at hlen; cases hlen
    simp only [sliceA] at hq
    split at hq
    · cases hq
      have hl0 : l = 0 := by omega
      have hh0 : h = 0 := by omega
      subst hl0; subst hh0
      refine ⟨_, key _ _ (Nat.le_refl _) hv, ?_⟩
      simp only [if_true, Nat.sub_zero]
      exact .sl0 _
    · cases hq
  | @tr cells len' sz' b oo cap f hr hl a1 a2 hc hh =>
    simp only [lenA] at hlen; cases hlen
    simp only [sliceA] at hq
    split at hq
    · rename_i hb
      have hb := Nat.eq_of_beq_eq_true hb
      subst hb
      cases hq
      refine ⟨_, key _ _ a1 hv, ?_⟩
      by_cases hcl : cap = l
      · rw [if_pos hcl]
        have : h - l = 0 := by omega
        rw [this, show cap - l = 0 by omega]
        simp only [Nat.zero_mul, List.take_zero]
        exact .tr0 _ (by simp [maxLen])
      · rw [if_neg hcl]
        simp only [Option.map_some, Addr.add_mk]
        have hm : l * inf.size + (h - l) * inf.size = h * inf.size := by rw [← Nat.add_mul]; congr 1; omega
        have hm2 : h * inf.size ≤ len * inf.size := Nat.mul_le_mul_right _ hlh.2
        refine .tr (b := b) (o := oo + l * inf.size) (fun j => f (l * inf.size + j)) hr ?_ (by omega) (by omega) (fun j q hj => ?_) (fun j q hj => ?_)
        · simp only [List.length_take, List.length_drop, hl]; omega
        · rw [List.getElem?_take] at hj
          split at hj
          · rw [List.getElem?_drop] at hj
            rw [Nat.add_assoc]; exact hc _ q hj
          · cases hj
        · rw [List.getElem?_take] at hj
          split at hj
          · rw [List.getElem?_drop] at hj
            exact hh _ q hj
          · cases hj
    · cases hq
  | tr0 a a2 =>
    simp only [lenA] at hlen; cases hlen
    simp only [sliceA] at hq
    split at hq
    · cases hq
      have hl0 : l = 0 := by omega
      have hh0 : h = 0 := by omega
      subst hl0; subst hh0
      refine ⟨_, key _ _ (by omega) hv, ?_⟩
      simp only [Nat.sub_zero, List.drop_nil, List.take_nil]
      split
      · exact .tr0 _ a2
      · exact .tr0 _ a2
    · cases hq
  | trn =>
    simp only [lenA] at hlen; cases hlen
    simp only [sliceA] at hq
    split at hq
    · cases hq
      have hl0 : l = 0 := by omega
      have hh0 : h = 0 := by omega
      subst hl0; subst hh0
      refine ⟨_, key _ _ (by omega) hv, ?_⟩
      simp only [if_true, Nat.sub_zero, List.drop_nil, List.take_nil]
      exact .trn
    · cases hq
  | _ => simp [sliceA] at hq

end
end Go.Th
