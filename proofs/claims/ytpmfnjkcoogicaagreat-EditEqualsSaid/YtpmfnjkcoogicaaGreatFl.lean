/- Small steps for drawn regions with new blocks. -/
import Derived.Test.YtpmfnjkcoogicaaGreatThC
namespace Go.Th
open Go.RowKit

section
variable {P : Program} {n : Nat} {fx : List Nat} {gid : Nat → Nat} {l : List Oper} {acc : List PV} {Hs : Nat → Heap} {i : Nat} {o : Oper} {os : List Oper} {p : PV} {E : Env} {d : Nat} {K : Env → Prop}
theorem F_r1 {H : Heap} (c : Nat) (hf : fx.contains i = false) (h1 : loF fx l i = c) (h2 : hiF fx l i = c) (hH : Hs c = H) (hg : o.guard = none) (hl : loudOp o = false) (hd : o.dst = some d) (hn : d < n) (h : OpV P o (opEnv o E) H p)
    (k : DYF P n fx gid l Hs (i + 1) os (p :: acc) ((d, p) :: E) K) : DYF P n fx gid l Hs i (o :: os) acc E K :=
  F_r c c hf h1 h2 hg hl hd hn (fun k a b => by
    have e : k = c := by omega
    rw [e, hH]; exact h) k
theorem F_r2 {H H2 : Heap} (c : Nat) (hf : fx.contains i = false) (h1 : loF fx l i = c) (h2 : hiF fx l i = c + 1) (hH : Hs c = H) (hH2 : Hs (c + 1) = H2) (hg : o.guard = none) (hl : loudOp o = false) (hd : o.dst = some d) (hn : d < n) (h : OpV P o (opEnv o E) H p) (h' : OpV P o (opEnv o E) H2 p)
    (k : DYF P n fx gid l Hs (i + 1) os (p :: acc) ((d, p) :: E) K) : DYF P n fx gid l Hs i (o :: os) acc E K :=
  F_r c (c + 1) hf h1 h2 hg hl hd hn (fun k a b => by
    rcases (by omega : k = c ∨ k = c + 1) with e | e
    · rw [e, hH]; exact h
    · rw [e, hH2]; exact h') k
theorem F_f1 {g : Nat} {B : Blk} {H : Heap} (c : Nat) (hf : fx.contains i = true) (hgi : gid i = g) (h1 : loF fx l i = c) (h2 : hiF fx l i = c) (hH : Hs c = H) (hg : o.guard = none) (hd : o.dst = some d) (hn : d < n) (h : OpF P o (opEnv o E) g B p) (hB : H[g]? = some (some B))
    (k : DYF P n fx gid l Hs (i + 1) os (p :: acc) ((d, p) :: E) K) : DYF P n fx gid l Hs i (o :: os) acc E K :=
  F_f c c hf hgi h1 h2 hg hd hn h (fun k a b => by
    have e : k = c := by omega
    rw [e, hH]; exact hB) k
theorem F_f2 {g : Nat} {B : Blk} {H H2 : Heap} (c : Nat) (hf : fx.contains i = true) (hgi : gid i = g) (h1 : loF fx l i = c) (h2 : hiF fx l i = c + 1) (hH : Hs c = H) (hH2 : Hs (c + 1) = H2) (hg : o.guard = none) (hd : o.dst = some d) (hn : d < n) (h : OpF P o (opEnv o E) g B p) (hB : H[g]? = some (some B)) (hB2 : H2[g]? = some (some B))
    (k : DYF P n fx gid l Hs (i + 1) os (p :: acc) ((d, p) :: E) K) : DYF P n fx gid l Hs i (o :: os) acc E K :=
  F_f c (c + 1) hf hgi h1 h2 hg hd hn h (fun k a b => by
    rcases (by omega : k = c ∨ k = c + 1) with e | e
    · rw [e, hH]; exact hB
    · rw [e, hH2]; exact hB2) k
end
/-- A slice in a slot is no longer than Go lets a slice be. -/
theorem wpA_len {P : Program} {n : Nat} {Q : QA} {E : Env} {H : Heap} {c : Code} {cells : List PV} {len sz : Nat} (t : Nat) (ht : E.get t = some (.tr cells len sz)) (h : len ≤ 9223372036854775807 → wpA P n c Q E H) : wpA P n c Q E H := by
  rintro m0 w0 a w ⟨h1, h2, m, h3, h4, h5⟩
  refine h ?_ m0 w0 a w ⟨h1, h2, m, h3, h4, h5⟩
  have hr := h5 t _ ht
  generalize a.tmps.getD t undef = v at hr
  have hl : len ≤ maxLen := by
    cases hr with
    | tr f a b c d e g => omega
    | tr0 a b => exact Nat.zero_le _
    | trn => exact Nat.zero_le _
  simp only [maxLen] at hl
  omega
end Go.Th
