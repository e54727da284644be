/- The tables for the evaluator are the program's own: printed by tabok.py. -/
import Derived.Test.YtpmfnjkcoogicaaGreatEvTab
namespace Go.Ev
def BT.All {α : Type} (p : Nat → α → Prop) : BT α → (Nat → Nat) → Prop
  | .leaf, _ => True
  | .node l v r, f => (match v with | some a => p (f 0) a | none => True) ∧ l.All p (fun m => f (2 * m + 1)) ∧ r.All p (fun m => f (2 * m + 2))
theorem BT.all_get {α : Type} {p : Nat → α → Prop} : ∀ (t : BT α) (f : Nat → Nat) (n : Nat) (a : α), t.All p f → t.get n = some a → p (f n) a
  | .leaf, _, n, _, _, hg => by simp [BT.get] at hg
  | .node l v r, f, n, a, h, hg => by
    obtain ⟨h1, h2, h3⟩ := h
    cases n with
    | zero => simp only [BT.get] at hg; subst hg; exact h1
    | succ k =>
      simp only [BT.get] at hg
      split at hg
      · rename_i hb
        have hb := Nat.eq_of_beq_eq_true hb
        have := BT.all_get l _ (k / 2) a h2 hg
        rwa [show 2 * (k / 2) + 1 = k + 1 from by omega] at this
      · rename_i hb
        have hb := Nat.ne_of_beq_eq_false hb
        have := BT.all_get r _ (k / 2) a h3 hg
        rwa [show 2 * (k / 2) + 2 = k + 1 from by omega] at this
theorem hasI_of {P : Program} {t : TypeId} {size bytes : Nat} {zv : Value} {z : List Value} (h : (P.info? t).map (fun i => (i.zero, i.size, i.bytes)) = some (some zv, size, bytes)) (hz : zv.cells.toList = z) : HasI P t size bytes z := by
  cases hi : P.info? t with
  | none => rw [hi] at h; cases h
  | some i =>
    rw [hi] at h
    simp only [Option.map_some, Option.some.injEq, Prod.mk.injEq] at h
    exact ⟨i, zv, hi, h.2.1, h.2.2, h.1, hz⟩
end Go.Ev
namespace Go.Proofs.YtpmfnjkcoogicaaGreat
open Go Go.Ev
def TyOk (t : Nat) (i : TI) : Prop := HasU Tryz.prog t i.desc ∧ HasI Tryz.prog t i.size i.bytes i.zero ∧ (∀ fs, i.desc = .struct fs → HasB Tryz.prog t i.places)
def FnOk (f : Nat) (fn : Func) : Prop := Tryz.prog.funcs[f]? = some fn ∧ (fn.name == "runtime.NumGoroutine") = false

theorem tyok3 : TyOk 3 ty3 := ⟨⟨Tryz.underlying3⟩, hasI_of (zv := (.int .i64 0)) (by kernel_rfl) rfl, fun fs h => by cases h⟩
theorem tyok4 : TyOk 4 ty4 := ⟨⟨Tryz.underlying4⟩, hasI_of (zv := (.bool false)) (by kernel_rfl) rfl, fun fs h => by cases h⟩
theorem tyok5 : TyOk 5 ty5 := ⟨⟨Tryz.underlying5⟩, hasI_of (zv := (.int .u8 0)) (by kernel_rfl) rfl, fun fs h => by cases h⟩
theorem tyok9 : TyOk 9 ty9 := ⟨⟨Tryz.underlying9⟩, hasI_of (zv := (.string .empty)) (by kernel_rfl) rfl, fun fs h => by cases h⟩
theorem tyok22 : TyOk 22 ty22 := ⟨⟨Tryz.underlying22⟩, hasI_of (zv := (.slice none 0 0)) (by kernel_rfl) rfl, fun fs h => by cases h⟩
theorem tyok23 : TyOk 23 ty23 := ⟨⟨Tryz.underlying23⟩, hasI_of (zv := (.slice none 0 0)) (by kernel_rfl) rfl, fun fs h => by cases h⟩
theorem tyok24 : TyOk 24 ty24 := ⟨⟨Tryz.underlying24⟩, hasI_of (zv := (.slice none 0 0)) (by kernel_rfl) rfl, fun fs h => by cases h⟩
theorem tyok25 : TyOk 25 ty25 := ⟨⟨Tryz.underlying25⟩, hasI_of (zv := (.slice none 0 0)) (by kernel_rfl) rfl, fun fs h => by cases h⟩
theorem tyok26 : TyOk 26 ty26 := ⟨⟨Tryz.underlying26⟩, hasI_of (zv := (.slice none 0 0)) (by kernel_rfl) rfl, fun fs h => by cases h⟩
theorem tyok27 : TyOk 27 ty27 := ⟨⟨Tryz.underlying27⟩, hasI_of (zv := (.slice none 0 0)) (by kernel_rfl) rfl, fun fs h => by cases h⟩
theorem tyok28 : TyOk 28 ty28 := ⟨⟨Tryz.underlying28⟩, hasI_of (zv := (.slice none 0 0)) (by kernel_rfl) rfl, fun fs h => by cases h⟩
theorem tyok30 : TyOk 30 ty30 := ⟨⟨Tryz.underlying30⟩, hasI_of (zv := .agg #[(.slice none 0 0), (.slice none 0 0), (.slice none 0 0), (.slice none 0 0)]) (by kernel_rfl) rfl, fun fs h => ⟨_, Tryz.underlying30, by kernel_rfl⟩⟩
theorem tyok32 : TyOk 32 ty32 := ⟨⟨Tryz.underlying32⟩, hasI_of (zv := .agg #[(.int .i64 0), (.int .i64 0), (.int .i64 0), (.int .i64 0), (.int .i64 0), (.int .i64 0), (.int .i64 0), (.int .i64 0), (.int .i64 0), (.int .i64 0), (.bool false), (.slice none 0 0), (.slice none 0 0), (.slice none 0 0), (.slice none 0 0), (.slice none 0 0), (.slice none 0 0), (.slice none 0 0)]) (by kernel_rfl) rfl, fun fs h => ⟨_, Tryz.underlying32, by kernel_rfl⟩⟩
theorem tyok35 : TyOk 35 ty35 := ⟨⟨Tryz.underlying35⟩, hasI_of (zv := (.slice none 0 0)) (by kernel_rfl) rfl, fun fs h => by cases h⟩
theorem tyok36 : TyOk 36 ty36 := ⟨⟨Tryz.underlying36⟩, hasI_of (zv := (.slice none 0 0)) (by kernel_rfl) rfl, fun fs h => by cases h⟩
theorem tyok37 : TyOk 37 ty37 := ⟨⟨Tryz.underlying37⟩, hasI_of (zv := (.slice none 0 0)) (by kernel_rfl) rfl, fun fs h => by cases h⟩
theorem tyok39 : TyOk 39 ty39 := ⟨⟨Tryz.underlying39⟩, hasI_of (zv := .agg #[(.int .i64 0), (.int .i64 0), (.slice none 0 0), (.slice none 0 0)]) (by kernel_rfl) rfl, fun fs h => ⟨_, Tryz.underlying39, by kernel_rfl⟩⟩
theorem tyok41 : TyOk 41 ty41 := ⟨⟨Tryz.underlying41⟩, hasI_of (zv := .agg #[(.slice none 0 0), (.int .i64 0), (.int .i64 0), (.slice none 0 0), (.slice none 0 0)]) (by kernel_rfl) rfl, fun fs h => ⟨_, Tryz.underlying41, by kernel_rfl⟩⟩
theorem tyok43 : TyOk 43 ty43 := ⟨⟨Tryz.underlying43⟩, hasI_of (zv := .agg #[(.slice none 0 0), (.int .i64 0), (.int .i64 0), (.slice none 0 0), (.slice none 0 0), (.slice none 0 0)]) (by kernel_rfl) rfl, fun fs h => ⟨_, Tryz.underlying43, by kernel_rfl⟩⟩
theorem tyok45 : TyOk 45 ty45 := ⟨⟨Tryz.underlying45⟩, hasI_of (zv := .agg #[(.int .i64 0), (.int .i64 0), (.int .i64 0), (.string .empty), (.slice none 0 0), (.int .i64 0), (.int .i64 0), (.slice none 0 0), (.slice none 0 0), (.slice none 0 0), (.slice none 0 0)]) (by kernel_rfl) rfl, fun fs h => ⟨_, Tryz.underlying45, by kernel_rfl⟩⟩
theorem tyok49 : TyOk 49 ty49 := ⟨⟨Tryz.underlying49⟩, hasI_of (zv := (.slice none 0 0)) (by kernel_rfl) rfl, fun fs h => by cases h⟩
theorem tyok51 : TyOk 51 ty51 := ⟨⟨Tryz.underlying51⟩, hasI_of (zv := .agg #[(.slice none 0 0), (.slice none 0 0), (.int .i64 0), (.int .i64 0), (.slice none 0 0), (.slice none 0 0), (.slice none 0 0), (.slice none 0 0), (.slice none 0 0), (.slice none 0 0), (.slice none 0 0)]) (by kernel_rfl) rfl, fun fs h => ⟨_, Tryz.underlying51, by kernel_rfl⟩⟩
theorem tyok53 : TyOk 53 ty53 := ⟨⟨Tryz.underlying53⟩, hasI_of (zv := (.slice none 0 0)) (by kernel_rfl) rfl, fun fs h => by cases h⟩
theorem tyok59 : TyOk 59 ty59 := ⟨⟨Tryz.underlying59⟩, hasI_of (zv := .agg #[(.int .i64 0), (.slice none 0 0), (.int .i64 0), (.int .i64 0), (.slice none 0 0), (.slice none 0 0), (.slice none 0 0)]) (by kernel_rfl) rfl, fun fs h => ⟨_, Tryz.underlying59, by kernel_rfl⟩⟩
theorem tyok61 : TyOk 61 ty61 := ⟨⟨Tryz.underlying61⟩, hasI_of (zv := (.int .i64 0)) (by kernel_rfl) rfl, fun fs h => by cases h⟩
theorem tyok76 : TyOk 76 ty76 := ⟨⟨Tryz.underlying76⟩, hasI_of (zv := (.slice none 0 0)) (by kernel_rfl) rfl, fun fs h => by cases h⟩
theorem tyok78 : TyOk 78 ty78 := ⟨⟨Tryz.underlying78⟩, hasI_of (zv := .agg #[(.int .i64 0), (.slice none 0 0)]) (by kernel_rfl) rfl, fun fs h => ⟨_, Tryz.underlying78, by kernel_rfl⟩⟩
theorem tyok81 : TyOk 81 ty81 := ⟨⟨Tryz.underlying81⟩, hasI_of (zv := .agg #[(.int .i64 0), (.int .i64 0), (.string .empty), (.int .i64 0)]) (by kernel_rfl) rfl, fun fs h => ⟨_, Tryz.underlying81, by kernel_rfl⟩⟩
theorem tyok86 : TyOk 86 ty86 := ⟨⟨Tryz.underlying86⟩, hasI_of (zv := .agg #[(.int .i64 0), (.string .empty), (.int .i64 0)]) (by kernel_rfl) rfl, fun fs h => ⟨_, Tryz.underlying86, by kernel_rfl⟩⟩
theorem tyok91 : TyOk 91 ty91 := ⟨⟨Tryz.underlying91⟩, hasI_of (zv := .agg #[(.int .i64 0), (.int .i64 0), (.string .empty), (.int .i64 0), (.string .empty), (.bool false)]) (by kernel_rfl) rfl, fun fs h => ⟨_, Tryz.underlying91, by kernel_rfl⟩⟩
theorem tyok94 : TyOk 94 ty94 := ⟨⟨Tryz.underlying94⟩, hasI_of (zv := .agg #[(.string .empty), (.string .empty)]) (by kernel_rfl) rfl, fun fs h => ⟨_, Tryz.underlying94, by kernel_rfl⟩⟩
theorem tyok107 : TyOk 107 ty107 := ⟨⟨Tryz.underlying107⟩, hasI_of (zv := .agg #[(.string .empty), (.int .i64 0), (.bool false)]) (by kernel_rfl) rfl, fun fs h => ⟨_, Tryz.underlying107, by kernel_rfl⟩⟩
theorem tyok108 : TyOk 108 ty108 := ⟨⟨Tryz.underlying108⟩, hasI_of (zv := (.slice none 0 0)) (by kernel_rfl) rfl, fun fs h => by cases h⟩
theorem tyok118 : TyOk 118 ty118 := ⟨⟨Tryz.underlying118⟩, hasI_of (zv := (.pointer none)) (by kernel_rfl) rfl, fun fs h => by cases h⟩
theorem tyok120 : TyOk 120 ty120 := ⟨⟨Tryz.underlying120⟩, hasI_of (zv := .agg #[(.int .i64 0), (.int .i64 0), (.string .empty), (.int .i64 0), (.int .i64 0), (.slice none 0 0)]) (by kernel_rfl) rfl, fun fs h => ⟨_, Tryz.underlying120, by kernel_rfl⟩⟩
theorem tyok123 : TyOk 123 ty123 := ⟨⟨Tryz.underlying123⟩, hasI_of (zv := .agg #[(.int .i64 0), (.int .i64 0)]) (by kernel_rfl) rfl, fun fs h => ⟨_, Tryz.underlying123, by kernel_rfl⟩⟩
theorem tyok126 : TyOk 126 ty126 := ⟨⟨Tryz.underlying126⟩, hasI_of (zv := .agg #[(.int .i64 0), (.int .i64 0)]) (by kernel_rfl) rfl, fun fs h => ⟨_, Tryz.underlying126, by kernel_rfl⟩⟩
theorem tyok129 : TyOk 129 ty129 := ⟨⟨Tryz.underlying129⟩, hasI_of (zv := .agg #[(.int .i64 0), (.int .i64 0), (.int .i64 0), (.bool false)]) (by kernel_rfl) rfl, fun fs h => ⟨_, Tryz.underlying129, by kernel_rfl⟩⟩
theorem tyok139 : TyOk 139 ty139 := ⟨⟨Tryz.underlying139⟩, hasI_of (zv := .agg #[(.slice none 0 0), (.slice none 0 0), (.int .i64 0), (.int .i64 0), (.slice none 0 0), (.slice none 0 0), (.slice none 0 0), (.slice none 0 0), (.slice none 0 0), (.slice none 0 0), (.slice none 0 0), (.int .i64 0), (.int .i64 0), (.int .i64 0), (.int .i64 0), (.int .i64 0), (.int .i64 0), (.int .i64 0), (.int .i64 0), (.int .i64 0), (.int .i64 0), (.bool false), (.slice none 0 0), (.slice none 0 0), (.slice none 0 0), (.slice none 0 0), (.slice none 0 0), (.slice none 0 0), (.slice none 0 0), (.slice none 0 0), (.int .i64 0), (.slice none 0 0)]) (by kernel_rfl) rfl, fun fs h => ⟨_, Tryz.underlying139, by kernel_rfl⟩⟩
theorem tyok190 : TyOk 190 ty190 := ⟨⟨Tryz.underlying190⟩, hasI_of (zv := .agg #[(.bool false), (.bool false), (.int .i64 0)]) (by kernel_rfl) rfl, fun fs h => ⟨_, Tryz.underlying190, by kernel_rfl⟩⟩
theorem tyok192 : TyOk 192 ty192 := ⟨⟨Tryz.underlying192⟩, hasI_of (zv := .agg #[(.slice none 0 0), (.bool false), (.bool false), (.int .i64 0)]) (by kernel_rfl) rfl, fun fs h => ⟨_, Tryz.underlying192, by kernel_rfl⟩⟩
theorem tyok194 : TyOk 194 ty194 := ⟨⟨Tryz.underlying194⟩, hasI_of (zv := (.slice none 0 0)) (by kernel_rfl) rfl, fun fs h => by cases h⟩
theorem tyok195 : TyOk 195 ty195 := ⟨⟨Tryz.underlying195⟩, hasI_of (zv := (.pointer none)) (by kernel_rfl) rfl, fun fs h => by cases h⟩
theorem tyok197 : TyOk 197 ty197 := ⟨⟨Tryz.underlying197⟩, hasI_of (zv := (.map none)) (by kernel_rfl) rfl, fun fs h => by cases h⟩
theorem tyok198 : TyOk 198 ty198 := ⟨⟨Tryz.underlying198⟩, hasI_of (zv := (.map none)) (by kernel_rfl) rfl, fun fs h => by cases h⟩
theorem tyok200 : TyOk 200 ty200 := ⟨⟨Tryz.underlying200⟩, hasI_of (zv := .agg #[(.map none), (.map none), (.map none), (.map none), (.map none), (.int .i64 0)]) (by kernel_rfl) rfl, fun fs h => ⟨_, Tryz.underlying200, by kernel_rfl⟩⟩
theorem tyok271 : TyOk 271 ty271 := ⟨⟨Tryz.underlying271⟩, hasI_of (zv := (.int .u64 0)) (by kernel_rfl) rfl, fun fs h => by cases h⟩
theorem tyok295 : TyOk 295 ty295 := ⟨⟨Tryz.underlying295⟩, hasI_of (zv := (.slice none 0 0)) (by kernel_rfl) rfl, fun fs h => by cases h⟩
theorem tyok342 : TyOk 342 ty342 := ⟨⟨Tryz.underlying342⟩, hasI_of (zv := (.int .i64 0)) (by kernel_rfl) rfl, fun fs h => by cases h⟩
theorem tyok349 : TyOk 349 ty349 := ⟨⟨Tryz.underlying349⟩, hasI_of (zv := (.int .u32 0)) (by kernel_rfl) rfl, fun fs h => by cases h⟩
theorem tyok351 : TyOk 351 ty351 := ⟨⟨Tryz.underlying351⟩, hasI_of (zv := (.int .u64 0)) (by kernel_rfl) rfl, fun fs h => by cases h⟩
theorem fnok6 : FnOk 6 Tryz.f6 := ⟨Tryz.func6, by kernel_rfl⟩
theorem fnok9 : FnOk 9 Tryz.f9 := ⟨Tryz.func9, by kernel_rfl⟩
theorem fnok10 : FnOk 10 Tryz.f10 := ⟨Tryz.func10, by kernel_rfl⟩
theorem fnok11 : FnOk 11 Tryz.f11 := ⟨Tryz.func11, by kernel_rfl⟩
theorem fnok14 : FnOk 14 Tryz.f14 := ⟨Tryz.func14, by kernel_rfl⟩
theorem fnok19 : FnOk 19 Tryz.f19 := ⟨Tryz.func19, by kernel_rfl⟩
theorem fnok20 : FnOk 20 Tryz.f20 := ⟨Tryz.func20, by kernel_rfl⟩
theorem fnok21 : FnOk 21 Tryz.f21 := ⟨Tryz.func21, by kernel_rfl⟩
theorem fnok24 : FnOk 24 Tryz.f24 := ⟨Tryz.func24, by kernel_rfl⟩
theorem fnok25 : FnOk 25 Tryz.f25 := ⟨Tryz.func25, by kernel_rfl⟩
theorem fnok28 : FnOk 28 Tryz.f28 := ⟨Tryz.func28, by kernel_rfl⟩
theorem fnok29 : FnOk 29 Tryz.f29 := ⟨Tryz.func29, by kernel_rfl⟩
theorem fnok30 : FnOk 30 Tryz.f30 := ⟨Tryz.func30, by kernel_rfl⟩
theorem fnok31 : FnOk 31 Tryz.f31 := ⟨Tryz.func31, by kernel_rfl⟩
theorem fnok32 : FnOk 32 Tryz.f32 := ⟨Tryz.func32, by kernel_rfl⟩
theorem fnok33 : FnOk 33 Tryz.f33 := ⟨Tryz.func33, by kernel_rfl⟩
theorem fnok34 : FnOk 34 Tryz.f34 := ⟨Tryz.func34, by kernel_rfl⟩
theorem fnok36 : FnOk 36 Tryz.f36 := ⟨Tryz.func36, by kernel_rfl⟩
theorem fnok38 : FnOk 38 Tryz.f38 := ⟨Tryz.func38, by kernel_rfl⟩
theorem fnok39 : FnOk 39 Tryz.f39 := ⟨Tryz.func39, by kernel_rfl⟩
theorem fnok40 : FnOk 40 Tryz.f40 := ⟨Tryz.func40, by kernel_rfl⟩
theorem fnok41 : FnOk 41 Tryz.f41 := ⟨Tryz.func41, by kernel_rfl⟩
theorem fnok46 : FnOk 46 Tryz.f46 := ⟨Tryz.func46, by kernel_rfl⟩
theorem fnok47 : FnOk 47 Tryz.f47 := ⟨Tryz.func47, by kernel_rfl⟩
theorem fnok48 : FnOk 48 Tryz.f48 := ⟨Tryz.func48, by kernel_rfl⟩
theorem fnok51 : FnOk 51 Tryz.f51 := ⟨Tryz.func51, by kernel_rfl⟩
theorem fnok52 : FnOk 52 Tryz.f52 := ⟨Tryz.func52, by kernel_rfl⟩
theorem fnok53 : FnOk 53 Tryz.f53 := ⟨Tryz.func53, by kernel_rfl⟩
theorem fnok55 : FnOk 55 Tryz.f55 := ⟨Tryz.func55, by kernel_rfl⟩
theorem fnok56 : FnOk 56 Tryz.f56 := ⟨Tryz.func56, by kernel_rfl⟩
theorem fnok57 : FnOk 57 Tryz.f57 := ⟨Tryz.func57, by kernel_rfl⟩
theorem fnok58 : FnOk 58 Tryz.f58 := ⟨Tryz.func58, by kernel_rfl⟩
theorem fnok61 : FnOk 61 Tryz.f61 := ⟨Tryz.func61, by kernel_rfl⟩
theorem fnok62 : FnOk 62 Tryz.f62 := ⟨Tryz.func62, by kernel_rfl⟩
theorem fnok63 : FnOk 63 Tryz.f63 := ⟨Tryz.func63, by kernel_rfl⟩
theorem fnok64 : FnOk 64 Tryz.f64 := ⟨Tryz.func64, by kernel_rfl⟩
theorem fnok66 : FnOk 66 Tryz.f66 := ⟨Tryz.func66, by kernel_rfl⟩
theorem fnok67 : FnOk 67 Tryz.f67 := ⟨Tryz.func67, by kernel_rfl⟩
theorem fnok68 : FnOk 68 Tryz.f68 := ⟨Tryz.func68, by kernel_rfl⟩
theorem fnok69 : FnOk 69 Tryz.f69 := ⟨Tryz.func69, by kernel_rfl⟩
theorem fnok71 : FnOk 71 Tryz.f71 := ⟨Tryz.func71, by kernel_rfl⟩
theorem fnok72 : FnOk 72 Tryz.f72 := ⟨Tryz.func72, by kernel_rfl⟩
theorem fnok75 : FnOk 75 Tryz.f75 := ⟨Tryz.func75, by kernel_rfl⟩
theorem fnok77 : FnOk 77 Tryz.f77 := ⟨Tryz.func77, by kernel_rfl⟩
theorem fnok78 : FnOk 78 Tryz.f78 := ⟨Tryz.func78, by kernel_rfl⟩
theorem fnok80 : FnOk 80 Tryz.f80 := ⟨Tryz.func80, by kernel_rfl⟩
theorem fnok82 : FnOk 82 Tryz.f82 := ⟨Tryz.func82, by kernel_rfl⟩
theorem fnok84 : FnOk 84 Tryz.f84 := ⟨Tryz.func84, by kernel_rfl⟩
theorem fnok88 : FnOk 88 Tryz.f88 := ⟨Tryz.func88, by kernel_rfl⟩
theorem fnok89 : FnOk 89 Tryz.f89 := ⟨Tryz.func89, by kernel_rfl⟩
theorem fnok90 : FnOk 90 Tryz.f90 := ⟨Tryz.func90, by kernel_rfl⟩
theorem fnok95 : FnOk 95 Tryz.f95 := ⟨Tryz.func95, by kernel_rfl⟩
theorem fnok97 : FnOk 97 Tryz.f97 := ⟨Tryz.func97, by kernel_rfl⟩
theorem fnok98 : FnOk 98 Tryz.f98 := ⟨Tryz.func98, by kernel_rfl⟩
theorem fnok99 : FnOk 99 Tryz.f99 := ⟨Tryz.func99, by kernel_rfl⟩
theorem fnok100 : FnOk 100 Tryz.f100 := ⟨Tryz.func100, by kernel_rfl⟩
theorem fnok101 : FnOk 101 Tryz.f101 := ⟨Tryz.func101, by kernel_rfl⟩
theorem fnok102 : FnOk 102 Tryz.f102 := ⟨Tryz.func102, by kernel_rfl⟩
theorem fnok103 : FnOk 103 Tryz.f103 := ⟨Tryz.func103, by kernel_rfl⟩
theorem fnok105 : FnOk 105 Tryz.f105 := ⟨Tryz.func105, by kernel_rfl⟩
theorem fnok106 : FnOk 106 Tryz.f106 := ⟨Tryz.func106, by kernel_rfl⟩
theorem fnok107 : FnOk 107 Tryz.f107 := ⟨Tryz.func107, by kernel_rfl⟩
theorem fnok108 : FnOk 108 Tryz.f108 := ⟨Tryz.func108, by kernel_rfl⟩
theorem fnok110 : FnOk 110 Tryz.f110 := ⟨Tryz.func110, by kernel_rfl⟩
theorem fnok115 : FnOk 115 Tryz.f115 := ⟨Tryz.func115, by kernel_rfl⟩
theorem fnok118 : FnOk 118 Tryz.f118 := ⟨Tryz.func118, by kernel_rfl⟩
theorem fnok119 : FnOk 119 Tryz.f119 := ⟨Tryz.func119, by kernel_rfl⟩
theorem fnok120 : FnOk 120 Tryz.f120 := ⟨Tryz.func120, by kernel_rfl⟩
theorem fnok121 : FnOk 121 Tryz.f121 := ⟨Tryz.func121, by kernel_rfl⟩
theorem fnok122 : FnOk 122 Tryz.f122 := ⟨Tryz.func122, by kernel_rfl⟩
theorem fnok123 : FnOk 123 Tryz.f123 := ⟨Tryz.func123, by kernel_rfl⟩
theorem fnok124 : FnOk 124 Tryz.f124 := ⟨Tryz.func124, by kernel_rfl⟩
theorem fnok134 : FnOk 134 Tryz.f134 := ⟨Tryz.func134, by kernel_rfl⟩
theorem fnok135 : FnOk 135 Tryz.f135 := ⟨Tryz.func135, by kernel_rfl⟩
theorem fnok138 : FnOk 138 Tryz.f138 := ⟨Tryz.func138, by kernel_rfl⟩
theorem fnok140 : FnOk 140 Tryz.f140 := ⟨Tryz.func140, by kernel_rfl⟩
theorem fnok141 : FnOk 141 Tryz.f141 := ⟨Tryz.func141, by kernel_rfl⟩
theorem fnok142 : FnOk 142 Tryz.f142 := ⟨Tryz.func142, by kernel_rfl⟩
theorem fnok143 : FnOk 143 Tryz.f143 := ⟨Tryz.func143, by kernel_rfl⟩
theorem fnok144 : FnOk 144 Tryz.f144 := ⟨Tryz.func144, by kernel_rfl⟩
theorem fnok145 : FnOk 145 Tryz.f145 := ⟨Tryz.func145, by kernel_rfl⟩
theorem fnok152 : FnOk 152 Tryz.f152 := ⟨Tryz.func152, by kernel_rfl⟩
theorem fnok153 : FnOk 153 Tryz.f153 := ⟨Tryz.func153, by kernel_rfl⟩
theorem fnok154 : FnOk 154 Tryz.f154 := ⟨Tryz.func154, by kernel_rfl⟩
theorem fnok155 : FnOk 155 Tryz.f155 := ⟨Tryz.func155, by kernel_rfl⟩
theorem fnok156 : FnOk 156 Tryz.f156 := ⟨Tryz.func156, by kernel_rfl⟩
theorem fnok157 : FnOk 157 Tryz.f157 := ⟨Tryz.func157, by kernel_rfl⟩
theorem fnok158 : FnOk 158 Tryz.f158 := ⟨Tryz.func158, by kernel_rfl⟩
theorem fnok159 : FnOk 159 Tryz.f159 := ⟨Tryz.func159, by kernel_rfl⟩
theorem fnok160 : FnOk 160 Tryz.f160 := ⟨Tryz.func160, by kernel_rfl⟩
theorem fnok161 : FnOk 161 Tryz.f161 := ⟨Tryz.func161, by kernel_rfl⟩
theorem fnok176 : FnOk 176 Tryz.f176 := ⟨Tryz.func176, by kernel_rfl⟩
theorem fnok178 : FnOk 178 Tryz.f178 := ⟨Tryz.func178, by kernel_rfl⟩
theorem fnok179 : FnOk 179 Tryz.f179 := ⟨Tryz.func179, by kernel_rfl⟩
theorem fnok180 : FnOk 180 Tryz.f180 := ⟨Tryz.func180, by kernel_rfl⟩
theorem fnok181 : FnOk 181 Tryz.f181 := ⟨Tryz.func181, by kernel_rfl⟩
theorem fnok184 : FnOk 184 Tryz.f184 := ⟨Tryz.func184, by kernel_rfl⟩
theorem fnok185 : FnOk 185 Tryz.f185 := ⟨Tryz.func185, by kernel_rfl⟩
theorem fnok186 : FnOk 186 Tryz.f186 := ⟨Tryz.func186, by kernel_rfl⟩
theorem fnok187 : FnOk 187 Tryz.f187 := ⟨Tryz.func187, by kernel_rfl⟩
theorem fnok188 : FnOk 188 Tryz.f188 := ⟨Tryz.func188, by kernel_rfl⟩
theorem fnok189 : FnOk 189 Tryz.f189 := ⟨Tryz.func189, by kernel_rfl⟩
theorem fnok195 : FnOk 195 Tryz.f195 := ⟨Tryz.func195, by kernel_rfl⟩
theorem fnok198 : FnOk 198 Tryz.f198 := ⟨Tryz.func198, by kernel_rfl⟩
theorem fnok203 : FnOk 203 Tryz.f203 := ⟨Tryz.func203, by kernel_rfl⟩
theorem fnok216 : FnOk 216 Tryz.f216 := ⟨Tryz.func216, by kernel_rfl⟩
theorem fnok222 : FnOk 222 Tryz.f222 := ⟨Tryz.func222, by kernel_rfl⟩
theorem fnok227 : FnOk 227 Tryz.f227 := ⟨Tryz.func227, by kernel_rfl⟩
theorem fnok228 : FnOk 228 Tryz.f228 := ⟨Tryz.func228, by kernel_rfl⟩
theorem fnok231 : FnOk 231 Tryz.f231 := ⟨Tryz.func231, by kernel_rfl⟩
theorem fnok240 : FnOk 240 Tryz.f240 := ⟨Tryz.func240, by kernel_rfl⟩
theorem fnok241 : FnOk 241 Tryz.f241 := ⟨Tryz.func241, by kernel_rfl⟩
theorem fnok242 : FnOk 242 Tryz.f242 := ⟨Tryz.func242, by kernel_rfl⟩
theorem fnok243 : FnOk 243 Tryz.f243 := ⟨Tryz.func243, by kernel_rfl⟩
theorem fnok246 : FnOk 246 Tryz.f246 := ⟨Tryz.func246, by kernel_rfl⟩
theorem fnok247 : FnOk 247 Tryz.f247 := ⟨Tryz.func247, by kernel_rfl⟩
theorem fnok248 : FnOk 248 Tryz.f248 := ⟨Tryz.func248, by kernel_rfl⟩
theorem fnok249 : FnOk 249 Tryz.f249 := ⟨Tryz.func249, by kernel_rfl⟩
theorem fnok250 : FnOk 250 Tryz.f250 := ⟨Tryz.func250, by kernel_rfl⟩
theorem fnok252 : FnOk 252 Tryz.f252 := ⟨Tryz.func252, by kernel_rfl⟩
theorem fnok260 : FnOk 260 Tryz.f260 := ⟨Tryz.func260, by kernel_rfl⟩
theorem fnok269 : FnOk 269 Tryz.f269 := ⟨Tryz.func269, by kernel_rfl⟩
theorem fnok277 : FnOk 277 Tryz.f277 := ⟨Tryz.func277, by kernel_rfl⟩
theorem fnok278 : FnOk 278 Tryz.f278 := ⟨Tryz.func278, by kernel_rfl⟩
theorem fnok279 : FnOk 279 Tryz.f279 := ⟨Tryz.func279, by kernel_rfl⟩
theorem fnok281 : FnOk 281 Tryz.f281 := ⟨Tryz.func281, by kernel_rfl⟩
theorem fnok290 : FnOk 290 Tryz.f290 := ⟨Tryz.func290, by kernel_rfl⟩
theorem fnok299 : FnOk 299 Tryz.f299 := ⟨Tryz.func299, by kernel_rfl⟩
theorem fnok300 : FnOk 300 Tryz.f300 := ⟨Tryz.func300, by kernel_rfl⟩
theorem fnok311 : FnOk 311 Tryz.f311 := ⟨Tryz.func311, by kernel_rfl⟩
theorem ty_all : tyTab.All TyOk id := ⟨trivial, ⟨trivial, ⟨tyok3, ⟨trivial, ⟨trivial, ⟨trivial, trivial, ⟨trivial, trivial, ⟨trivial, ⟨tyok351, trivial, trivial⟩, trivial⟩⟩⟩, ⟨trivial, ⟨trivial, ⟨trivial, ⟨tyok271, trivial, trivial⟩, trivial⟩, trivial⟩, trivial⟩⟩, ⟨tyok23, ⟨tyok39, trivial, ⟨trivial, ⟨trivial, ⟨tyok295, trivial, trivial⟩, trivial⟩, trivial⟩⟩, trivial⟩⟩, ⟨trivial, ⟨trivial, ⟨tyok35, ⟨trivial, trivial, ⟨tyok195, trivial, trivial⟩⟩, trivial⟩, ⟨tyok51, trivial, trivial⟩⟩, ⟨tyok27, ⟨tyok43, ⟨trivial, ⟨tyok139, trivial, trivial⟩, trivial⟩, ⟨tyok107, trivial, trivial⟩⟩, ⟨tyok59, ⟨tyok91, trivial, trivial⟩, ⟨tyok123, trivial, trivial⟩⟩⟩⟩⟩, ⟨tyok5, ⟨tyok9, ⟨trivial, ⟨trivial, ⟨trivial, ⟨tyok129, trivial, trivial⟩, trivial⟩, trivial⟩, ⟨tyok49, ⟨tyok81, trivial, trivial⟩, trivial⟩⟩, ⟨tyok25, ⟨tyok41, trivial, trivial⟩, trivial⟩⟩, ⟨trivial, ⟨trivial, ⟨tyok37, ⟨trivial, trivial, ⟨tyok197, trivial, trivial⟩⟩, trivial⟩, ⟨tyok53, trivial, trivial⟩⟩, ⟨trivial, ⟨tyok45, trivial, trivial⟩, ⟨tyok61, ⟨trivial, trivial, ⟨trivial, ⟨tyok349, trivial, trivial⟩, trivial⟩⟩, trivial⟩⟩⟩⟩⟩, ⟨trivial, ⟨tyok4, ⟨trivial, ⟨trivial, ⟨tyok32, ⟨trivial, trivial, ⟨tyok192, trivial, trivial⟩⟩, trivial⟩, trivial⟩, ⟨tyok24, ⟨trivial, ⟨trivial, trivial, ⟨tyok200, trivial, trivial⟩⟩, trivial⟩, ⟨trivial, trivial, ⟨tyok120, trivial, trivial⟩⟩⟩⟩, ⟨trivial, ⟨trivial, ⟨tyok36, trivial, trivial⟩, trivial⟩, ⟨tyok28, ⟨trivial, ⟨tyok76, trivial, trivial⟩, ⟨tyok108, trivial, trivial⟩⟩, trivial⟩⟩⟩, ⟨trivial, ⟨trivial, ⟨trivial, ⟨trivial, ⟨trivial, trivial, ⟨tyok194, trivial, trivial⟩⟩, trivial⟩, trivial⟩, ⟨tyok26, trivial, trivial⟩⟩, ⟨trivial, ⟨tyok22, ⟨trivial, ⟨trivial, trivial, ⟨tyok198, trivial, trivial⟩⟩, trivial⟩, ⟨trivial, ⟨tyok86, trivial, ⟨trivial, ⟨tyok342, trivial, trivial⟩, trivial⟩⟩, ⟨tyok118, trivial, trivial⟩⟩⟩, ⟨tyok30, ⟨trivial, ⟨tyok78, trivial, trivial⟩, trivial⟩, ⟨trivial, ⟨tyok94, trivial, trivial⟩, ⟨tyok126, ⟨tyok190, trivial, trivial⟩, trivial⟩⟩⟩⟩⟩⟩⟩
theorem fn_all : fnTab.All FnOk id := ⟨trivial, ⟨trivial, ⟨trivial, ⟨trivial, ⟨trivial, ⟨fnok31, ⟨fnok63, trivial, trivial⟩, ⟨fnok95, ⟨fnok159, trivial, trivial⟩, trivial⟩⟩, ⟨fnok47, ⟨trivial, ⟨fnok143, trivial, trivial⟩, trivial⟩, trivial⟩⟩, ⟨trivial, ⟨fnok39, ⟨fnok71, ⟨fnok135, trivial, trivial⟩, trivial⟩, ⟨fnok103, trivial, ⟨fnok231, trivial, trivial⟩⟩⟩, ⟨fnok55, ⟨trivial, ⟨trivial, ⟨fnok279, trivial, trivial⟩, trivial⟩, trivial⟩, ⟨fnok119, ⟨trivial, ⟨fnok311, trivial, trivial⟩, trivial⟩, ⟨fnok247, trivial, trivial⟩⟩⟩⟩⟩, ⟨fnok11, ⟨fnok19, ⟨trivial, ⟨fnok67, trivial, ⟨fnok195, trivial, trivial⟩⟩, ⟨fnok99, trivial, ⟨fnok227, trivial, trivial⟩⟩⟩, ⟨fnok51, trivial, ⟨fnok115, ⟨fnok179, trivial, trivial⟩, ⟨fnok243, trivial, trivial⟩⟩⟩⟩, ⟨trivial, ⟨trivial, ⟨fnok75, trivial, ⟨fnok203, trivial, trivial⟩⟩, ⟨fnok107, ⟨trivial, ⟨fnok299, trivial, trivial⟩, trivial⟩, trivial⟩⟩, ⟨trivial, ⟨trivial, ⟨fnok155, trivial, trivial⟩, trivial⟩, ⟨fnok123, ⟨fnok187, trivial, trivial⟩, trivial⟩⟩⟩⟩⟩, ⟨trivial, ⟨fnok9, ⟨trivial, ⟨fnok33, trivial, ⟨fnok97, ⟨fnok161, trivial, trivial⟩, trivial⟩⟩, ⟨trivial, ⟨trivial, ⟨fnok145, trivial, trivial⟩, trivial⟩, ⟨trivial, trivial, ⟨fnok241, trivial, trivial⟩⟩⟩⟩, ⟨fnok25, ⟨fnok41, trivial, ⟨fnok105, trivial, trivial⟩⟩, ⟨fnok57, ⟨fnok89, ⟨fnok153, ⟨fnok281, trivial, trivial⟩, trivial⟩, trivial⟩, ⟨fnok121, ⟨fnok185, trivial, trivial⟩, ⟨fnok249, trivial, trivial⟩⟩⟩⟩⟩, ⟨trivial, ⟨fnok21, ⟨trivial, ⟨fnok69, trivial, trivial⟩, ⟨fnok101, trivial, trivial⟩⟩, ⟨fnok53, ⟨trivial, ⟨trivial, ⟨fnok277, trivial, trivial⟩, trivial⟩, trivial⟩, ⟨trivial, ⟨fnok181, trivial, trivial⟩, trivial⟩⟩⟩, ⟨fnok29, ⟨trivial, ⟨fnok77, ⟨fnok141, ⟨fnok269, trivial, trivial⟩, trivial⟩, trivial⟩, trivial⟩, ⟨fnok61, ⟨trivial, ⟨fnok157, trivial, trivial⟩, trivial⟩, ⟨trivial, ⟨fnok189, trivial, trivial⟩, trivial⟩⟩⟩⟩⟩⟩, ⟨trivial, ⟨trivial, ⟨trivial, ⟨trivial, ⟨fnok32, ⟨fnok64, trivial, trivial⟩, ⟨trivial, ⟨fnok160, trivial, trivial⟩, trivial⟩⟩, ⟨fnok48, ⟨fnok80, ⟨fnok144, trivial, trivial⟩, trivial⟩, ⟨trivial, ⟨fnok176, trivial, trivial⟩, ⟨fnok240, trivial, trivial⟩⟩⟩⟩, ⟨fnok24, ⟨fnok40, ⟨fnok72, trivial, trivial⟩, trivial⟩, ⟨fnok56, ⟨fnok88, ⟨fnok152, trivial, trivial⟩, ⟨fnok216, trivial, trivial⟩⟩, ⟨fnok120, ⟨fnok184, trivial, trivial⟩, ⟨fnok248, trivial, trivial⟩⟩⟩⟩⟩, ⟨trivial, ⟨fnok20, ⟨fnok36, ⟨fnok68, ⟨trivial, ⟨fnok260, trivial, trivial⟩, trivial⟩, trivial⟩, ⟨fnok100, trivial, ⟨fnok228, trivial, trivial⟩⟩⟩, ⟨fnok52, ⟨fnok84, trivial, trivial⟩, ⟨trivial, ⟨fnok180, trivial, trivial⟩, trivial⟩⟩⟩, ⟨fnok28, ⟨trivial, ⟨trivial, ⟨fnok140, trivial, trivial⟩, trivial⟩, ⟨fnok108, ⟨trivial, ⟨fnok300, trivial, trivial⟩, trivial⟩, trivial⟩⟩, ⟨trivial, ⟨trivial, ⟨fnok156, trivial, trivial⟩, trivial⟩, ⟨fnok124, ⟨fnok188, trivial, trivial⟩, ⟨fnok252, trivial, trivial⟩⟩⟩⟩⟩⟩, ⟨fnok6, ⟨fnok10, ⟨trivial, ⟨fnok34, ⟨fnok66, trivial, trivial⟩, ⟨fnok98, ⟨trivial, ⟨fnok290, trivial, trivial⟩, trivial⟩, trivial⟩⟩, ⟨trivial, ⟨fnok82, trivial, trivial⟩, ⟨trivial, ⟨fnok178, trivial, trivial⟩, ⟨fnok242, trivial, trivial⟩⟩⟩⟩, ⟨trivial, ⟨trivial, ⟨trivial, ⟨fnok138, trivial, trivial⟩, trivial⟩, ⟨fnok106, trivial, trivial⟩⟩, ⟨fnok58, ⟨fnok90, ⟨fnok154, trivial, trivial⟩, trivial⟩, ⟨fnok122, ⟨fnok186, trivial, trivial⟩, ⟨fnok250, trivial, trivial⟩⟩⟩⟩⟩, ⟨fnok14, ⟨trivial, ⟨fnok38, ⟨trivial, ⟨fnok134, trivial, trivial⟩, ⟨fnok198, trivial, trivial⟩⟩, ⟨fnok102, trivial, trivial⟩⟩, ⟨trivial, ⟨trivial, ⟨trivial, ⟨fnok278, trivial, trivial⟩, trivial⟩, trivial⟩, ⟨fnok118, trivial, ⟨fnok246, trivial, trivial⟩⟩⟩⟩, ⟨fnok30, ⟨fnok46, ⟨fnok78, ⟨fnok142, trivial, trivial⟩, trivial⟩, ⟨fnok110, trivial, trivial⟩⟩, ⟨fnok62, ⟨trivial, ⟨fnok158, trivial, trivial⟩, ⟨fnok222, trivial, trivial⟩⟩, trivial⟩⟩⟩⟩⟩⟩
theorem mixedE : Tryz.prog.follows .mixedOrders = true := by kernel_rfl
theorem tab_ok : tab.Ok := ⟨fun t i h => BT.all_get tyTab id t i ty_all h, fun f fn h => BT.all_get fnTab id f fn fn_all h, mixedE⟩
end Go.Proofs.YtpmfnjkcoogicaaGreat
