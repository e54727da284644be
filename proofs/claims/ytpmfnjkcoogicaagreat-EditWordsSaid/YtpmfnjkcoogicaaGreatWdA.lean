/- The table of words; Word, Find, Tracked. -/
import Derived.Test.YtpmfnjkcoogicaaGreatThInst
import Derived.Test.YtpmfnjkcoogicaaGreatThC
namespace Go.Proofs.YtpmfnjkcoogicaaGreat
open Go.RowKit Go.Th
set_option linter.unusedVariables false
set_option maxRecDepth 20000

def I (n : Int) : PV := .v (.int .i64 n)
def B (b : Bool) : PV := .v (.bool b)
def S (b : ByteArray) : PV := .v (.string b)
theorem tree_I (n : Int) : Tree (I n) := Tree.v _
theorem tree_B (b : Bool) : Tree (B b) := Tree.v _
theorem tree_S (b : ByteArray) : Tree (S b) := Tree.v _

/-- Equal strings. -/
def sEq (a b : ByteArray) : Bool := a.toList == b.toList

def words : List ByteArray := [⟨#[]⟩, ⟨#[105, 110, 115, 101, 114, 116]⟩, ⟨#[100, 101, 108, 101, 116, 101]⟩, ⟨#[102, 111, 114, 109, 97, 116]⟩, ⟨#[109, 111, 118, 101]⟩, ⟨#[105, 110, 115, 101, 114, 116, 45, 114, 111, 119, 115]⟩, ⟨#[100, 101, 108, 101, 116, 101, 45, 114, 111, 119, 115]⟩, ⟨#[105, 110, 115, 101, 114, 116, 45, 99, 101, 108, 108, 115]⟩, ⟨#[100, 101, 108, 101, 116, 101, 45, 99, 101, 108, 108, 115]⟩, ⟨#[102, 111, 114, 109, 97, 116, 45, 114, 111, 119]⟩, ⟨#[102, 111, 114, 109, 97, 116, 45, 99, 101, 108, 108]⟩, ⟨#[112, 117, 116, 45, 97, 110, 99, 104, 111, 114]⟩, ⟨#[100, 114, 111, 112, 45, 97, 110, 99, 104, 111, 114]⟩, ⟨#[102, 111, 114, 109, 97, 116, 45, 101, 110, 100]⟩, ⟨#[115, 101, 116, 116, 105, 110, 103, 115]⟩]
abbrev Sort3 := ByteArray × Int × Bool
def encS (x : Sort3) : List PV := [S x.1, I x.2.1, B x.2.2]
def sorts : List Sort3 := [(⟨#[]⟩, 0, false), (⟨#[105, 110, 115, 101, 114, 116]⟩, 19, false), (⟨#[100, 101, 108, 101, 116, 101]⟩, 11, false), (⟨#[102, 111, 114, 109, 97, 116]⟩, 139, false), (⟨#[109, 111, 118, 101]⟩, 267, false), (⟨#[105, 110, 115, 101, 114, 116, 45, 114, 111, 119, 115]⟩, 35, true), (⟨#[100, 101, 108, 101, 116, 101, 45, 114, 111, 119, 115]⟩, 11, true), (⟨#[105, 110, 115, 101, 114, 116, 45, 99, 101, 108, 108, 115]⟩, 71, true), (⟨#[100, 101, 108, 101, 116, 101, 45, 99, 101, 108, 108, 115]⟩, 15, true), (⟨#[102, 111, 114, 109, 97, 116, 45, 114, 111, 119]⟩, 131, true), (⟨#[102, 111, 114, 109, 97, 116, 45, 99, 101, 108, 108]⟩, 135, true), (⟨#[112, 117, 116, 45, 97, 110, 99, 104, 111, 114]⟩, 19, false), (⟨#[100, 114, 111, 112, 45, 97, 110, 99, 104, 111, 114]⟩, 3, false), (⟨#[102, 111, 114, 109, 97, 116, 45, 101, 110, 100]⟩, 128, false), (⟨#[115, 101, 116, 116, 105, 110, 103, 115]⟩, 512, false)]
def sortsP : PV := .tr (sorts.flatMap encS) 15 3
theorem encS_len (x : Sort3) : (encS x).length = 3 := rfl
theorem tree_encS (x : Sort3) : ∀ c ∈ encS x, Tree c := fun c hc => by
  simp only [encS, List.mem_cons, List.not_mem_nil, or_false] at hc
  rcases hc with rfl | rfl | rfl
  · exact tree_S _
  · exact tree_I _
  · exact tree_B _
theorem tree_sorts : Tree sortsP := Tree.tr fun c hc => by
  obtain ⟨x, _, hx⟩ := List.mem_flatMap.1 hc
  exact tree_encS x c hx
theorem sorts_words : sorts.map (·.1) = words := rfl
theorem sorts_len : sorts.length = 15 := rfl

section
variable {P : Program} {n : Nat} {Q : QA} {E : Env} {H : Heap}

theorem run_seq {P : Program} {t : TypeId} {x y : Operand} (w : World) (a b : ByteArray) : (do eqGuard .eql t x y (.string a) (.string b); binOp .eql t (.string a) (.string b) : Sem Value).run P w = .ok (.bool (sEq a b)) w := rfl
theorem run_sne {P : Program} {t : TypeId} {x y : Operand} (w : World) (a b : ByteArray) : (do eqGuard .neq t x y (.string a) (.string b); binOp .neq t (.string a) (.string b) : Sem Value).run P w = .ok (.bool (!sEq a b)) w := rfl

theorem OpV_seq {o : Oper} {t ty : TypeId} {x y : Operand} {a b : ByteArray} (ho : o.op = .binOp .eql t x y ty) (hx : E.ev x = some (.v (.string a))) (hy : E.ev y = some (.v (.string b))) : OpV P o E H (.v (.bool (sEq a b))) :=
  OpV_bin ho hx hy rfl rfl (fun w => run_seq w a b) rfl
theorem OpV_sne {o : Oper} {t ty : TypeId} {x y : Operand} {a b : ByteArray} (ho : o.op = .binOp .neq t x y ty) (hx : E.ev x = some (.v (.string a))) (hy : E.ev y = some (.v (.string b))) : OpV P o E H (.v (.bool (!sEq a b))) :=
  OpV_bin ho hx hy rfl rfl (fun w => run_sne w a b) rfl

/-- A box of ours is closed: it will not be written any more. -/
theorem At.freezeP {m0 : Mp} {w0 : World} {a : Act} {w : World} {t id off : Nat} {C : Blk} (h : At m0 w0 n E H a w) (ht : E.get t = some (.ptr id off)) (hB : H[id]? = some (some C)) : At m0 w0 n ((t, .ept C.cells off) :: E) (H.set id none) a w := by
  obtain ⟨h1, h2, m, h3, h4, h5⟩ := h
  have hr := h5 t _ ht
  generalize hv : a.tmps.getD t undef = v at hr
  cases hr with
  | @ptr _ _ b d lim hm =>
    obtain ⟨hd0, ⟨cur, c1, c2, c3, c4⟩, hk1, hk2⟩ := h4.blk id C b d lim hB hm
    have hle : Le m w { blk := m.blk, ro := fun k => m.ro k ∨ k = b, keep := fun k => m.keep k ∨ k = b } w :=
      ⟨fun _ _ h => h, fun _ h => .inl h, fun _ h => .inl h, fun _ _ => rfl, Nat.le_refl _, rfl, rfl, rfl, fun k hk => by
        rcases hk with hk | rfl
        · exact .inl hk
        · cases ho : C.own with
          | true => exact .inr (hk1 ho)
          | false => exact .inl (hk2 ho)⟩
    have hR : R { blk := m.blk, ro := fun k => m.ro k ∨ k = b, keep := fun k => m.keep k ∨ k = b } (H.set id none) w := by
      refine ⟨fun k hk => ?_, fun k hk => ?_, fun i x hx => by simpa using h4.dom i x hx, fun i C' bi di li hi hmi => ?_, fun i j C' D bi di li bj dj lj hne hi hj => ?_⟩
      · rcases hk with hk | hk
        · exact .inl (h4.rk k hk)
        · exact .inr hk
      · rcases hk with hk | rfl
        · exact h4.kl k hk
        · exact h4.lt hB hm
      · rcases set_get hi with ⟨_, e⟩ | ⟨n1, e⟩
        · cases e
        · obtain ⟨g0, ⟨cur', g1, g2, g3, g4⟩, g5, g6⟩ := h4.blk i C' bi di li e hmi
          refine ⟨g0, ⟨cur', g1, g2, g3, fun j c hj => let ⟨u, u1, u2, u3⟩ := g4 j c hj; ⟨u, u1, u2.mono h4.rk hle, u3⟩⟩, fun hoC hk => ?_, fun hoC => .inl (g6 hoC)⟩
          rcases hk with hk | rfl
          · exact g5 hoC hk
          · cases ho : C.own with
            | true => exact h4.inj i id C' C _ _ _ _ _ _ n1 e hB hoC ho hmi hm rfl
            | false => exact g5 hoC (h4.rk _ (hk2 ho))
      · rcases set_get hi with ⟨_, e⟩ | ⟨n1, ei⟩
        · cases e
        · rcases set_get hj with ⟨_, e⟩ | ⟨n2, ej⟩
          · cases e
          · exact h4.inj i j C' D bi di li bj dj lj hne ei ej
    refine ⟨h1, h2, _, h3.trans hle, hR, fun t' p ht' => ?_⟩
    rw [Env.get_cons] at ht'
    by_cases e : t = t'
    · subst e
      rw [if_pos rfl] at ht'; cases ht'
      rw [hv]
      refine .ept (b := b) (o := d) (fun j => cur.getD (d + j) undef) (.inr rfl) (fun j q hj => ?_) (fun j q hj => ?_)
      all_goals
        obtain ⟨u, u1, u2, _⟩ := c4 _ _ hj
        have hg : cur.getD (d + j) undef = u := by rw [Array.getD_eq_getD_getElem?, u1]; rfl
      · rw [cell_of_row w b _ cur C.elem (0, 0) c1, u1, hg]
      · simp only [hg]
        exact u2.mono h4.rk hle
    · rw [if_neg e] at ht'
      exact (h5 t' p ht').mono h4.rk hle

theorem wpA_freezeP {c : Code} (t : Nat) {id off : Nat} {C : Blk} (ht : E.get t = some (.ptr id off)) (hB : H[id]? = some (some C)) (h : wpA P n c Q ((t, .ept C.cells off) :: E) (H.set id none)) : wpA P n c Q E H :=
  fun m0 w0 a w hat => h m0 w0 a w (At.freezeP hat ht hB)
end

theorem has_nil : Has [] [] := Has.nil []

/-- edit.known. -/
theorem known_iso (k : Int) : Iso Tryz.prog 47 [I k] (fun p => p = B (decide (1 ≤ k ∧ k ≤ 14))) := by
  have hG := has_nil
  refine Iso_enter Tryz.func47 rfl rfl rfl ?_
  by_cases h1 : 1 ≤ k
  · by_cases h2 : k ≤ 14
    · repeat (first | refine wpL_end ?_ | refine wpL_nil ?_ | refine wpA_seq ?_ | refine wpA_region ?_ | refine wpA_block ?_ | refine wpL_v rfl rfl (by decide) (OpV_cmp rfl rfl rfl (congrArg some (decide_eq_true (by omega)))) ?_ | refine wpL_v rfl rfl (by decide) (OpV_cmp rfl rfl rfl (congrArg some (decide_eq_false (by omega)))) ?_ | refine wpL_v rfl rfl (by decide) (OpV_cmp rfl rfl rfl (congrArg some (ndec_t (by omega)))) ?_ | refine wpL_v rfl rfl (by decide) (OpV_cmp rfl rfl rfl (congrArg some (ndec_f (by omega)))) ?_ | refine wpL_v rfl rfl (by decide) (OpV_move rfl rfl) ?_ | refine wpL_v rfl rfl (by decide) (OpV_assign rfl rfl) ?_ | refine wpL_v rfl rfl (by decide) (OpV_cmp rfl rfl rfl rfl) ?_ | refine wpL_v rfl rfl (by decide) (OpV_pick_t rfl rfl (by first | rfl | exact decide_eq_true (by omega)) rfl) ?_ | refine wpL_v rfl rfl (by decide) (OpV_pick_f rfl rfl (by first | rfl | exact decide_eq_false (by omega)) rfl) ?_ | refine wpL_gt rfl rfl rfl rfl rfl (by decide) (by first | rfl | exact decide_eq_true (by omega) | exact decide_eq_false (by omega) | exact ndec_t (by omega) | exact ndec_f (by omega)) ?_ | refine wpL_gf rfl rfl rfl rfl rfl (by decide) (by first | rfl | exact decide_eq_true (by omega) | exact decide_eq_false (by omega) | exact ndec_t (by omega) | exact ndec_f (by omega)) ?_ | refine wpA_ct rfl (by first | rfl | exact decide_eq_true (by omega) | exact ndec_t (by omega)) ?_ | refine wpA_cf rfl (by first | rfl | exact decide_eq_false (by omega) | exact ndec_f (by omega)) ?_ | refine wpA_skip ?_ | refine wpA_exit ?_ | refine wpA_ret ?_ | refine x_then_exit ?_ | refine x_then_ret ?_ | refine x_then_normal ?_ | refine x_block_ret ?_ | refine x_block_normal ?_ | refine x_block_exit ?_ | refine x_block_other rfl ?_ | refine wpL_v rfl rfl (by decide) (OpV_pick_t rfl rfl (ndec_t (by omega)) rfl) ?_ | refine wpL_v rfl rfl (by decide) (OpV_pick_f rfl rfl (ndec_f (by omega)) rfl) ?_)
      exact postI_1 rfl rfl (.refl _) (tree_B _) (by simp [B, h1, h2])
    · repeat (first | refine wpL_end ?_ | refine wpL_nil ?_ | refine wpA_seq ?_ | refine wpA_region ?_ | refine wpA_block ?_ | refine wpL_v rfl rfl (by decide) (OpV_cmp rfl rfl rfl (congrArg some (decide_eq_true (by omega)))) ?_ | refine wpL_v rfl rfl (by decide) (OpV_cmp rfl rfl rfl (congrArg some (decide_eq_false (by omega)))) ?_ | refine wpL_v rfl rfl (by decide) (OpV_cmp rfl rfl rfl (congrArg some (ndec_t (by omega)))) ?_ | refine wpL_v rfl rfl (by decide) (OpV_cmp rfl rfl rfl (congrArg some (ndec_f (by omega)))) ?_ | refine wpL_v rfl rfl (by decide) (OpV_move rfl rfl) ?_ | refine wpL_v rfl rfl (by decide) (OpV_assign rfl rfl) ?_ | refine wpL_v rfl rfl (by decide) (OpV_cmp rfl rfl rfl rfl) ?_ | refine wpL_v rfl rfl (by decide) (OpV_pick_t rfl rfl (by first | rfl | exact decide_eq_true (by omega)) rfl) ?_ | refine wpL_v rfl rfl (by decide) (OpV_pick_f rfl rfl (by first | rfl | exact decide_eq_false (by omega)) rfl) ?_ | refine wpL_gt rfl rfl rfl rfl rfl (by decide) (by first | rfl | exact decide_eq_true (by omega) | exact decide_eq_false (by omega) | exact ndec_t (by omega) | exact ndec_f (by omega)) ?_ | refine wpL_gf rfl rfl rfl rfl rfl (by decide) (by first | rfl | exact decide_eq_true (by omega) | exact decide_eq_false (by omega) | exact ndec_t (by omega) | exact ndec_f (by omega)) ?_ | refine wpA_ct rfl (by first | rfl | exact decide_eq_true (by omega) | exact ndec_t (by omega)) ?_ | refine wpA_cf rfl (by first | rfl | exact decide_eq_false (by omega) | exact ndec_f (by omega)) ?_ | refine wpA_skip ?_ | refine wpA_exit ?_ | refine wpA_ret ?_ | refine x_then_exit ?_ | refine x_then_ret ?_ | refine x_then_normal ?_ | refine x_block_ret ?_ | refine x_block_normal ?_ | refine x_block_exit ?_ | refine x_block_other rfl ?_ | refine wpL_v rfl rfl (by decide) (OpV_pick_t rfl rfl (ndec_t (by omega)) rfl) ?_ | refine wpL_v rfl rfl (by decide) (OpV_pick_f rfl rfl (ndec_f (by omega)) rfl) ?_)
      exact postI_1 rfl rfl (.refl _) (tree_B _) (by simp [B, h1, h2])
  · repeat (first | refine wpL_end ?_ | refine wpL_nil ?_ | refine wpA_seq ?_ | refine wpA_region ?_ | refine wpA_block ?_ | refine wpL_v rfl rfl (by decide) (OpV_cmp rfl rfl rfl (congrArg some (decide_eq_true (by omega)))) ?_ | refine wpL_v rfl rfl (by decide) (OpV_cmp rfl rfl rfl (congrArg some (decide_eq_false (by omega)))) ?_ | refine wpL_v rfl rfl (by decide) (OpV_cmp rfl rfl rfl (congrArg some (ndec_t (by omega)))) ?_ | refine wpL_v rfl rfl (by decide) (OpV_cmp rfl rfl rfl (congrArg some (ndec_f (by omega)))) ?_ | refine wpL_v rfl rfl (by decide) (OpV_move rfl rfl) ?_ | refine wpL_v rfl rfl (by decide) (OpV_assign rfl rfl) ?_ | refine wpL_v rfl rfl (by decide) (OpV_cmp rfl rfl rfl rfl) ?_ | refine wpL_v rfl rfl (by decide) (OpV_pick_t rfl rfl (by first | rfl | exact decide_eq_true (by omega)) rfl) ?_ | refine wpL_v rfl rfl (by decide) (OpV_pick_f rfl rfl (by first | rfl | exact decide_eq_false (by omega)) rfl) ?_ | refine wpL_gt rfl rfl rfl rfl rfl (by decide) (by first | rfl | exact decide_eq_true (by omega) | exact decide_eq_false (by omega) | exact ndec_t (by omega) | exact ndec_f (by omega)) ?_ | refine wpL_gf rfl rfl rfl rfl rfl (by decide) (by first | rfl | exact decide_eq_true (by omega) | exact decide_eq_false (by omega) | exact ndec_t (by omega) | exact ndec_f (by omega)) ?_ | refine wpA_ct rfl (by first | rfl | exact decide_eq_true (by omega) | exact ndec_t (by omega)) ?_ | refine wpA_cf rfl (by first | rfl | exact decide_eq_false (by omega) | exact ndec_f (by omega)) ?_ | refine wpA_skip ?_ | refine wpA_exit ?_ | refine wpA_ret ?_ | refine x_then_exit ?_ | refine x_then_ret ?_ | refine x_then_normal ?_ | refine x_block_ret ?_ | refine x_block_normal ?_ | refine x_block_exit ?_ | refine x_block_other rfl ?_ | refine wpL_v rfl rfl (by decide) (OpV_pick_t rfl rfl (ndec_t (by omega)) rfl) ?_ | refine wpL_v rfl rfl (by decide) (OpV_pick_f rfl rfl (ndec_f (by omega)) rfl) ?_)
    exact postI_1 rfl rfl (.refl _) (tree_B _) (by simp [B, h1])

set_option maxHeartbeats 8000000 in
theorem sorts_iso : Iso Tryz.prog 48 [] (fun p => p = sortsP) := by
  have hG := has_nil
  refine Iso_enter Tryz.func48 rfl rfl rfl ?_
  repeat (first | refine wpL_end ?_ | refine wpL_nil ?_ | refine wpA_seq ?_ | refine wpA_region ?_ | refine wpA_block ?_ | refine wpL_v rfl rfl (by decide) (OpV_assign rfl rfl) ?_ | refine wpL_v rfl rfl (by decide) (OpV_build rfl rfl rfl rfl) ?_ | (refine wpL_sliceH hG rfl rfl (by decide) rfl rfl rfl rfl rfl rfl rfl rfl ?_; intro id G hG) | refine wpA_ct rfl (by first | rfl | exact decide_eq_true (by omega) | exact ndec_t (by omega)) ?_ | refine wpA_cf rfl (by first | rfl | exact decide_eq_false (by omega) | exact ndec_f (by omega)) ?_ | refine wpA_skip ?_ | refine wpA_exit ?_ | refine wpA_ret ?_ | refine x_then_exit ?_ | refine x_then_ret ?_ | refine x_then_normal ?_ | refine x_block_ret ?_ | refine x_block_normal ?_ | refine x_block_exit ?_ | refine x_block_other rfl ?_)
  refine postI_1 rfl rfl (.own hG (k := 0) rfl rfl) ?_ rfl
  exact tree_sorts
end Go.Proofs.YtpmfnjkcoogicaaGreat
