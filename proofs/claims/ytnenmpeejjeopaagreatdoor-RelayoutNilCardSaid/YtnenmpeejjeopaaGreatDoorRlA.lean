/- Pieces are compared. -/
import Derived.Test.YtnenmpeejjeopaaGreatDoorPgT
import Derived.Test.YtnenmpeejjeopaaGreatDoorThC
import Derived.Laws.StructEq
namespace Go.Proofs.YtnenmpeejjeopaaGreatDoor
open Go.RowKit Go.Th
set_option linter.unusedVariables false
set_option maxRecDepth 20000

def eqF (a b : Foot) : Bool := decide (a.id = b.id) && decide (a.h = b.h)
def eqFeet : List Foot → List Foot → Bool
  | [], [] => true
  | a :: F, b :: G => eqF a b && eqFeet F G
  | _, _ => false
def eqP (a b : Piece) : Bool :=
  decide (a.flow = b.flow) && decide (a.block = b.block) && decide (a.part = b.part) && decide (a.fr = b.fr) && decide (a.tt = b.tt) && decide (a.height = b.height) && decide (a.before = b.before) && decide (a.after = b.after) && decide (a.rep = b.rep) && (a.force == b.force) && (a.kept == b.kept) && eqFeet a.feet b.feet

theorem eqF_iff (a b : Foot) : eqF a b = true ↔ a = b := by
  cases a; cases b; simp [eqF]
theorem eqFeet_iff : ∀ F G : List Foot, eqFeet F G = true ↔ F = G
  | [], [] => by simp [eqFeet]
  | a :: F, b :: G => by simp [eqFeet, eqF_iff, eqFeet_iff F G]
  | [], b :: G => by simp [eqFeet]
  | a :: F, [] => by simp [eqFeet]
theorem eqFeet_len {F G : List Foot} (h : F.length ≠ G.length) : eqFeet F G = false := by
  cases e : eqFeet F G with
  | false => rfl
  | true => rw [eqFeet_iff] at e; rw [e] at h; exact absurd rfl h
theorem eqP_iff (a b : Piece) : eqP a b = true ↔ a = b := by
  cases a; cases b; simp [eqP, eqFeet_iff]; simp only [and_assoc]; constructor <;> (intro h; simp_all)

theorem foot_guard : Tryz.prog.eqGuardType Tryz.prog.depth 193 = false := by kernel_rfl
theorem foot_held : Tryz.prog.stoodInHeld 193 = false := by kernel_rfl
theorem foot_fields : Tryz.prog.underlying 193 = some (.struct (Tryz.prog.fieldsOf 193)) := by kernel_rfl
theorem foot_fl : (Tryz.prog.fieldsOf 193).toList = [{ name := "Id", type := 3, offset := 0, embedded := false, tag := "", pkgPath := "", byteOffset := 0 }, { name := "Height", type := 3, offset := 1, embedded := false, tag := "", pkgPath := "", byteOffset := 8 }] := by kernel_rfl
theorem foot_neq (a b c d : Int) (x y : Operand) (w : World) : (do eqGuard .neq 193 x y (.agg #[.int .i64 a, .int .i64 b]) (.agg #[.int .i64 c, .int .i64 d]); binOp .neq 193 (.agg #[.int .i64 a, .int .i64 b]) (.agg #[.int .i64 c, .int .i64 d]) : Sem Value).run Tryz.prog w = .ok (.bool (!(decide (a = c) && decide (b = d)))) w := by
  simp only [Sem.run_bind, run_eqGuard_agg _ _ _ _ _ _ _ foot_guard, Result.andThen_ok, run_neq_struct, run_equalIn_agg _ _ _ _ _ foot_fields foot_held, foot_fl, Op.eqFields]
  by_cases h1 : a = c
  · subst h1
    by_cases h2 : b = d
    · subst h2
      go_simp
    · have h2' : (b == d) = false := by simp [h2]
      simp only [decide_true, Bool.true_and, h2, decide_false]
      go_simp
  · have h1' : (a == c) = false := by simp [h1]
    simp only [h1, decide_false, Bool.false_and]
    go_simp
end Go.Proofs.YtnenmpeejjeopaaGreatDoor
