/- A field of a struct value; exclusive or; results in cells over one's own memory. -/
import Derived.Test.YtpmfnjkcoogicaaGreatCs
namespace Go.Th
open Go.RowKit
set_option linter.unusedVariables false

section
variable {P : Program} {o : Oper} {E : Env} {H : Heap}
/-- A field that is a struct itself, of a struct value. -/
theorem OpV_field {t : TypeId} (u : TypeId) {fields fs2 : Array Field} {fl : Field} {size bytes : Nat} {z : List Value} [hu : HasU P t (.struct fields)] [hu2 : HasU P u (.struct fs2)] [hi : HasI P u size bytes z] {x : Operand} {k off : Nat} {cs ec : List PV}
    (ho : o.op = .field t x k) (hx : E.ev x = some (.agg cs)) (hf : fields[k]? = some fl) (ht : fl.type = u) (hoff : fl.offset = off) (hc : takeN size (cs.drop off) = some ec) : OpV P o E H (.agg ec) := fun m w ρ hR hρ => by
  have h := hρ x _ hx
  generalize hv : ρ x = v at h
  cases h with
  | agg vs hl hh =>
    obtain ⟨h1, rfl⟩ := (takeN_eq _ _ _).1 hc
    rw [List.length_drop] at h1
    refine ⟨.agg (vs.extract off (off + size)), ?_, ?_⟩
    · obtain ⟨i, zv, h3, h4, _⟩ := hi.i
      simp [execOp, ho, hv, Instr.field, run_underlying hu.u, hf, part, run_isAgg hu2.u, isAggD, ht, hoff, asAgg, run_sizeOf h3, h4]
    · refine .agg _ ?_ fun j c hj => ?_
      · simp only [Array.size_extract, List.length_take, List.length_drop, hl]; omega
      · rw [List.getElem?_take] at hj
        split at hj
        · rename_i hjs
          rw [List.getElem?_drop] at hj
          have hr := hh _ c hj
          have hlt := (List.getElem?_eq_some_iff.1 hj).1
          have e : (vs.extract off (off + size)).getD j undef = vs.getD (off + j) undef := by
            rw [Array.getD_eq_getD_getElem?, Array.getD_eq_getD_getElem?, Array.getElem?_extract, if_pos (by omega)]
          rw [e]; exact hr
        · cases hj
end
theorem postA_c {P : Program} {fn : Func} {E : Env} {H : Heap} {QH : PV → Heap → Prop} {a : Tmp} {ty : TypeId} {d : TypeDesc} {size bytes : Nat} {z : List Value} {p r : PV} [hu : HasU P ty d] [hi : HasI P ty size bytes z] (hr : fn.results = #[.cell a ty]) (h1 : E.get a = some r) (hl : loadA d size H r = some p) (hq : QH p H) : postA P fn QH .ret E H :=
  ⟨.inr rfl, [p], by rw [hr]; exact ⟨RVal_cell h1 hl, trivial⟩, hq⟩
theorem Has.drop2 {G : Heap} {a b c d : Nat × Blk} {L : List (Nat × Blk)} (h : Has G (a :: b :: c :: d :: L)) : Has G (a :: b :: L) := by
  have key : ∀ (k : Nat) (x : Nat × Blk), (a :: b :: L)[k]? = some x → (a :: b :: c :: d :: L)[if k < 2 then k else k + 2]? = some x := fun k x hk => by
    match k with
    | 0 => exact hk
    | 1 => exact hk
    | k + 2 => rw [if_neg (by omega)]; simpa using hk
  refine ⟨fun k id B hk => h.get _ _ _ (key k _ hk), fun i j x y hne hi hj => h.ne _ _ x y ?_ (key i x hi) (key j y hj)⟩
  split <;> split <;> omega
end Go.Th
