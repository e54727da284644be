/- Small steps for drawn regions with new blocks. -/
import Derived.Test.YtpmfnjkcoogicaaGreatThC
namespace Go.Th
open Go.RowKit

section
variable {P : Program} {n : Nat} {fx : List Nat × List Nat} {gid : Nat → Nat} {l : List Oper} {acc : List PV} {Hs : Nat → Heap} {i : Nat} {o : Oper} {os : List Oper} {p : PV} {E : Env} {d : Nat} {K : Env → Prop}
theorem F_r1 {H : Heap} (c : Nat) (hf : fx.1.contains i = false) (h1 : loF fx l i = c) (h2 : hiF fx l i = c) (hH : Hs c = H) (hg : o.guard = none) (hl : (loudOp o || fx.2.contains i) = false) (hd : o.dst = some d) (hn : d < n) (h : OpV P o (opEnv o E) H p)
    (k : DYF P n fx gid l Hs (i + 1) os (p :: acc) ((d, p) :: E) K) : DYF P n fx gid l Hs i (o :: os) acc E K :=
  F_r c c hf h1 h2 hg hl hd hn (fun k a b => by
    have e : k = c := by omega
    rw [e, hH]; exact h) k
theorem F_r2 {H H2 : Heap} (c : Nat) (hf : fx.1.contains i = false) (h1 : loF fx l i = c) (h2 : hiF fx l i = c + 1) (hH : Hs c = H) (hH2 : Hs (c + 1) = H2) (hg : o.guard = none) (hl : (loudOp o || fx.2.contains i) = false) (hd : o.dst = some d) (hn : d < n) (h : OpV P o (opEnv o E) H p) (h' : OpV P o (opEnv o E) H2 p)
    (k : DYF P n fx gid l Hs (i + 1) os (p :: acc) ((d, p) :: E) K) : DYF P n fx gid l Hs i (o :: os) acc E K :=
  F_r c (c + 1) hf h1 h2 hg hl hd hn (fun k a b => by
    rcases (by omega : k = c ∨ k = c + 1) with e | e
    · rw [e, hH]; exact h
    · rw [e, hH2]; exact h') k
theorem F_f1 {g : Nat} {B : Blk} {H : Heap} (c : Nat) (hf : fx.1.contains i = true) (hgi : gid i = g) (h1 : loF fx l i = c) (h2 : hiF fx l i = c) (hH : Hs c = H) (hg : o.guard = none) (hd : o.dst = some d) (hn : d < n) (h : OpF P o (opEnv o E) g B p) (hB : H[g]? = some (some B))
    (k : DYF P n fx gid l Hs (i + 1) os (p :: acc) ((d, p) :: E) K) : DYF P n fx gid l Hs i (o :: os) acc E K :=
  F_f c c hf hgi h1 h2 hg hd hn h (fun k a b => by
    have e : k = c := by omega
    rw [e, hH]; exact hB) k
theorem F_f2 {g : Nat} {B : Blk} {H H2 : Heap} (c : Nat) (hf : fx.1.contains i = true) (hgi : gid i = g) (h1 : loF fx l i = c) (h2 : hiF fx l i = c + 1) (hH : Hs c = H) (hH2 : Hs (c + 1) = H2) (hg : o.guard = none) (hd : o.dst = some d) (hn : d < n) (h : OpF P o (opEnv o E) g B p) (hB : H[g]? = some (some B)) (hB2 : H2[g]? = some (some B))
    (k : DYF P n fx gid l Hs (i + 1) os (p :: acc) ((d, p) :: E) K) : DYF P n fx gid l Hs i (o :: os) acc E K :=
  F_f c (c + 1) hf hgi h1 h2 hg hd hn h (fun k a b => by
    rcases (by omega : k = c ∨ k = c + 1) with e | e
    · rw [e, hH]; exact hB
    · rw [e, hH2]; exact hB2) k
end
/-- A slice in a slot is no longer than Go lets a slice be. -/
theorem wpA_len {P : Program} {n : Nat} {Q : QA} {E : Env} {H : Heap} {c : Code} {cells : List PV} {len sz : Nat} (t : Nat) (ht : E.get t = some (.tr cells len sz)) (h : len ≤ 9223372036854775807 → wpA P n c Q E H) : wpA P n c Q E H := by
  rintro m0 w0 a w ⟨h1, h2, m, h3, h4, h5⟩
  refine h ?_ m0 w0 a w ⟨h1, h2, m, h3, h4, h5⟩
  have hr := h5 t _ ht
  generalize a.tmps.getD t undef = v at hr
  have hl : len ≤ maxLen := by
    cases hr with
    | tr f a b c d e g => omega
    | tr0 a b => exact Nat.zero_le _
    | trn => exact Nat.zero_le _
  simp only [maxLen] at hl
  omega

/-- No slice in a value is longer than Go lets a slice be. -/
inductive Bnd : PV → Prop
  | v (x : Value) : Bnd (.v x)
  | ptr (id off : Nat) : Bnd (.ptr id off)
  | sl (id off len sz : Nat) : Bnd (.sl id off len sz)
  | ept {cells : List PV} (off : Nat) (k : ∀ c ∈ cells, Bnd c) : Bnd (.ept cells off)
  | tr {cells : List PV} {len : Nat} (sz : Nat) (h : len ≤ 9223372036854775807) (k : ∀ c ∈ cells, Bnd c) : Bnd (.tr cells len sz)
  | fn {cells : List PV} (f : Fn) (k : ∀ c ∈ cells, Bnd c) : Bnd (.fn f cells)
  | agg {cells : List PV} (k : ∀ c ∈ cells, Bnd c) : Bnd (.agg cells)
  | tup {cells : List PV} (k : ∀ c ∈ cells, Bnd c) : Bnd (.tup cells)
theorem Rep.bnd {m : Mp} {w : World} {p : PV} {v : Value} (h : Rep m w p v) : Bnd p := by
  have mem : ∀ (cells : List PV), (∀ (j : Nat) (c : PV), cells[j]? = some c → Bnd c) → ∀ c ∈ cells, Bnd c := fun cells k c hc => by
    obtain ⟨j, hj⟩ := List.mem_iff_getElem?.1 hc
    exact k j c hj
  induction h with
  | v x _ => exact .v x
  | ptr _ => exact .ptr _ _
  | ept f _ _ _ ih => exact .ept _ (mem _ ih)
  | sl _ _ _ _ => exact .sl _ _ _ _
  | sl0 _ => exact .sl _ _ _ _
  | tr f _ _ h1 h2 _ _ ih => exact .tr _ (by simp only [maxLen] at h2; omega) (mem _ ih)
  | tr0 a _ => exact .tr _ (Nat.zero_le _) (fun c hc => by cases hc)
  | trn => exact .tr _ (Nat.zero_le _) (fun c hc => by cases hc)
  | fn vs _ _ ih => exact .fn _ (mem _ ih)
  | agg vs _ _ ih => exact .agg (mem _ ih)
  | tup vs _ _ ih => exact .tup (mem _ ih)
theorem AC_bnd {P : Program} {f : FuncId} {fn : Func} {args : List PV} {H : Heap} {Q : PV → Heap → Prop} {p : PV} (j : Nat) (hj : args[j]? = some p) (hf : P.funcs[f]? = some fn) (hn : (fn.name == "runtime.NumGoroutine") = false) (hb : fn.body.isNone = false)
    (k : Bnd p → AC P f args H Q) : AC P f args H Q :=
  ⟨⟨fn, hf, hn, hb⟩, fun m w vals hR hr => (k (hr.2 j _ hj).bnd).2 m w vals hR hr⟩
theorem Iso_bnd {P : Program} {f : FuncId} {fn : Func} {args : List PV} {Q : PV → Prop} {p : PV} (j : Nat) (hj : args[j]? = some p) (hf : P.funcs[f]? = some fn) (hn : (fn.name == "runtime.NumGoroutine") = false) (hb : fn.body.isNone = false)
    (k : Bnd p → Iso P f args Q) : Iso P f args Q :=
  ⟨⟨fn, hf, hn, hb⟩, fun m w vals h1 h2 h3 hr => (k (hr.2 j _ hj).bnd).2 m w vals h1 h2 h3 hr⟩
end Go.Th
