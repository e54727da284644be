/- Exclusive or. -/
import Derived.Test.YtpmfnjkcoogicaaGreatCd
namespace Go.Th
open Go.RowKit
set_option linter.unusedVariables false
section
variable {P : Program} {o : Oper} {E : Env} {H : Heap}
def xo (a b : Int) : Int := IntKind.i64.wrap ((BitVec.ofInt 64 a ^^^ BitVec.ofInt 64 b).toNat : Int)
theorem OpV_xor {t ty : TypeId} {x y : Operand} {a b : Int} (ho : o.op = .binOp .xor t x y ty) (hx : E.ev x = some (.v (.int .i64 a))) (hy : E.ev y = some (.v (.int .i64 b))) : OpV P o E H (.v (.int .i64 (xo a b))) := OpV_bin ho hx hy rfl rfl (fun w => by
  have e : (Op.intBits .xor .i64 a b).run P w = .ok (.int .i64 (xo a b)) w := rfl
  simp only [eqGuard_at_int, binOp_xor, Sem.run_bind, Sem.run_pure, Result.andThen_ok, e]) rfl
theorem xo_ne (a : Int) : xo a 1 ≠ a := fun h => by
  have h1 : BitVec.ofInt 64 a = BitVec.ofInt 64 a ^^^ BitVec.ofInt 64 1 := by
    apply BitVec.eq_of_toNat_eq
    rw [BitVec.toNat_ofInt]
    have hlt := (BitVec.ofInt 64 a ^^^ BitVec.ofInt 64 1).isLt
    unfold xo at h
    generalize (BitVec.ofInt 64 a ^^^ BitVec.ofInt 64 1).toNat = n at *
    rw [IntKind.wrap_i64] at h
    omega
  have h2 := congrArg (fun v => v.getLsbD 0) h1
  simp at h2
end
end Go.Th
