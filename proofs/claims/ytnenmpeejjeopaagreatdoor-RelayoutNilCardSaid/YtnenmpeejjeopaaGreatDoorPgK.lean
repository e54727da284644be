/- Breaks: its contract. -/
import Derived.Test.YtnenmpeejjeopaaGreatDoorPgJ
namespace Go.Proofs.YtnenmpeejjeopaaGreatDoor
open Go.RowKit Go.Th
set_option linter.unusedVariables false
set_option maxRecDepth 20000

def intsP (l : List Int) : PV := .tr (l.map I) l.length 1
theorem tree_ints (l : List Int) : ∀ c ∈ l.map I, Tree c := fun c hc => by
  obtain ⟨x, _, rfl⟩ := List.mem_map.1 hc
  exact tree_I x
theorem tree_intsP (l : List Int) : Tree (intsP l) := Tree.tr (tree_ints l)
theorem flat_one : ∀ l : List Int, l.flatMap (fun x : Int => [I x]) = l.map I
  | [] => rfl
  | a :: l => by simp [flat_one l]
theorem int_spot {l : List Int} {i : Nat} {x : Int} (h : l[i]? = some x) : takeN 1 ((l.map I).drop (i * 1)) = some [I x] := by
  have := flat_at (enc := fun x : Int => [I x]) (sz := 1) (fun _ => rfl) l i x h
  rwa [flat_one] at this

theorem Breaks_err (l : List Piece) (height : Int) (hh : height < 1) : Iso Tryz.prog 35 [pcs l, I height] (fun p => p = .tup [.v (.slice none 0 0), I 32]) := by
  have hG := has_nil
  refine Iso_enter Tryz.func35 rfl rfl rfl ?_
  repeat (first | refine wpL_end ?_ | refine wpL_nil ?_ | refine wpA_seq ?_ | refine wpA_region ?_ | refine wpA_block ?_ | refine wpL_v rfl rfl (by decide) (OpV_move rfl rfl) ?_ | refine wpL_v rfl rfl (by decide) (OpV_assign rfl rfl) ?_ | refine wpL_v rfl rfl (by decide) (OpV_cmp rfl rfl rfl rfl) ?_ | refine wpA_ct rfl (by first | rfl | exact decide_eq_true (by omega) | exact ndec_t (by omega)) ?_ | refine wpA_cf rfl (by first | rfl | exact decide_eq_false (by omega) | exact ndec_f (by omega)) ?_ | refine wpA_skip ?_ | refine wpA_exit ?_ | refine wpA_ret ?_ | refine x_then_exit ?_ | refine x_then_ret ?_ | refine x_then_normal ?_ | refine x_block_ret ?_ | refine x_block_normal ?_ | refine x_block_exit ?_ | refine x_block_other rfl ?_)
  exact postI_2 rfl rfl rfl (.refl _) (.refl _) (.v _) (tree_I 32) rfl

theorem Breaks_ok (l : List Piece) (height : Int) (hl : allOk l) (hh : 1 ≤ height) : Iso Tryz.prog 35 [pcs l, I height] (fun p => p = .tup [intsP (breaksL l height), I 0]) := by
  have hG := has_nil
  refine Iso_enter Tryz.func35 rfl rfl rfl ?_
  repeat (first | refine wpL_end ?_ | refine wpL_nil ?_ | refine wpA_seq ?_ | refine wpA_region ?_ | refine wpA_block ?_ | refine wpL_v rfl rfl (by decide) (OpV_move rfl rfl) ?_ | refine wpL_v rfl rfl (by decide) (OpV_assign rfl rfl) ?_ | refine wpL_v rfl rfl (by decide) (OpV_cmp rfl rfl rfl rfl) ?_ | refine wpA_ct rfl (by first | rfl | exact decide_eq_true (by omega) | exact ndec_t (by omega)) ?_ | refine wpA_cf rfl (by first | rfl | exact decide_eq_false (by omega) | exact ndec_f (by omega)) ?_ | refine wpA_skip ?_ | refine wpA_exit ?_ | refine wpA_ret ?_ | refine x_then_exit ?_ | refine x_then_ret ?_ | refine x_then_normal ?_ | refine x_block_ret ?_ | refine x_block_normal ?_ | refine x_block_exit ?_ | refine x_block_other rfl ?_)
  refine wpL_ac rfl rfl rfl rfl rfl rfl (by decide) (starts_ac _ l height hG) ?_
  rintro _ G ⟨id1, id2, rfl, hG⟩
  refine wpL_ac rfl rfl rfl rfl rfl rfl (by decide) (collect_ac _ l height hl (hG.get 1 _ _ rfl) (hG.get 0 _ _ rfl)) ?_
  rintro _ G2 ⟨rfl, rfl⟩
  have hG := hG.new (Blk.mk ((breaksL l height).map I) 3 true)
  repeat (first | refine wpL_end ?_ | refine wpL_nil ?_ | refine wpA_seq ?_ | refine wpA_region ?_ | refine wpA_block ?_ | refine wpL_v rfl rfl (by decide) (OpV_move rfl rfl) ?_ | refine wpL_v rfl rfl (by decide) (OpV_assign rfl rfl) ?_ | refine wpL_v rfl rfl (by decide) (OpV_cmp rfl rfl rfl rfl) ?_ | refine wpA_ct rfl (by first | rfl | exact decide_eq_true (by omega) | exact ndec_t (by omega)) ?_ | refine wpA_cf rfl (by first | rfl | exact decide_eq_false (by omega) | exact ndec_f (by omega)) ?_ | refine wpA_skip ?_ | refine wpA_exit ?_ | refine wpA_ret ?_ | refine x_then_exit ?_ | refine x_then_ret ?_ | refine x_then_normal ?_ | refine x_block_ret ?_ | refine x_block_normal ?_ | refine x_block_exit ?_ | refine x_block_other rfl ?_)
  exact postI_2 rfl rfl rfl (.own hG (k := 0) rfl (by simp)) (.refl _) (tree_intsP _) (tree_I 0) rfl
def encNil (p : Piece) : List PV := [I p.flow, I p.block, I p.part, I p.fr, I p.tt, I p.height, I p.before, I p.after, I p.rep, .v (.slice none 0 0), B p.force, B p.kept]
theorem wk_nil : ∀ l : List Piece, (∀ p ∈ l, p.feet = []) → WkL (l.flatMap encNil) (l.flatMap encPiece)
  | [], _ => .nil
  | p :: l, h => by
    have hp : p.feet = [] := h p (by simp)
    refine WkL.app (a := encNil p) (b := encPiece p) ?_ (wk_nil l fun q hq => h q (by simp [hq]))
    rw [encPiece, hp]
    exact .cons (.refl _) (.cons (.refl _) (.cons (.refl _) (.cons (.refl _) (.cons (.refl _) (.cons (.refl _) (.cons (.refl _) (.cons (.refl _) (.cons (.refl _) (.cons (.nil 2) (.cons (.refl _) (.cons (.refl _) .nil)))))))))))


end Go.Proofs.YtnenmpeejjeopaaGreatDoor
