/- The walks of layer 48: the filler. -/
import Derived.Test.YtnenmpeejjeopaaGreatDoorPgData
namespace Go.Proofs.YtnenmpeejjeopaaGreatDoor
open Go.Th
set_option linter.unusedVariables false
set_option maxRecDepth 20000

def filler (r t nn f : Int) : Blk := ⟨[I r, I t, I nn, I f], 189, true⟩

/-- What add leaves behind: a block for the piece, one for each of the first k feet; the filler. -/
def junk (p : Piece) (k : Nat) : Heap := some (Blk.mk (encPiece p) 93 true) :: (p.feet.take k).map fun ft => some (Blk.mk (encFoot ft) 193 true)
def AH (H : Heap) (id : Nat) (p : Piece) (k : Nat) (c : Blk) : Heap := (H ++ junk p k).set id (some c)

section
variable {H : Heap} {id : Nat} {p : Piece} {k : Nat} {c : Blk}
theorem AH_get (h : id < H.length) : (AH H id p k c)[id]? = some (some c) := by
  have : id < (H ++ junk p k).length := by simp; omega
  rw [AH, List.getElem?_set_self this]
theorem AH_set (c' : Blk) : (AH H id p k c).set id (some c') = AH H id p k c' := by simp [AH]
theorem AH_app (h : id < H.length) {ft : Foot} (hf : p.feet[k]? = some ft) : AH H id p k c ++ [some (Blk.mk (encFoot ft) 193 true)] = AH H id p (k + 1) c := by
  have e : junk p (k + 1) = junk p k ++ [some (Blk.mk (encFoot ft) 193 true)] := by
    simp [junk, List.take_add_one, hf]
  have : id < (H ++ junk p k).length := by simp; omega
  rw [AH, AH, e, ← List.append_assoc, ← set_app this]
theorem AH_but : HBut id H (AH H id p k c) := ((HExt.app _ _).but _).trans (HBut.set _ _ _)
end

theorem add_ac (H : Heap) (id : Nat) (r t nn f gap : Int) (p : Piece) (q : PV) (h : H[id]? = some (some (filler r t nn f))) (hp : p.ok)
    (hq : (q = .v (.pointer none) ∧ gap = 0) ∨ (∃ x : Piece, x.ok ∧ q = .ept (encPiece x) 0 ∧ gap = x.after + p.before))
    (ht : 0 ≤ t ∧ t ≤ 1000000000000) (hn : 0 ≤ nn ∧ nn ≤ 1000000000000) (hf : 0 ≤ f ∧ f ≤ 1000000) :
    AC Tryz.prog 89 [.ptr id 0, .agg (encPiece p), q] H (fun x H' => x = .tup [] ∧ H' = AH H id p p.feet.length (filler r (t + gap + p.height) (nn + sumFeet p.feet) (f + p.feet.length))) := by
  have hlt := lt_of_get h
  have hne : id ≠ H.length := by omega
  have hgap : 0 ≤ gap ∧ gap ≤ 3000000000 := by
    rcases hq with ⟨_, rfl⟩ | ⟨x, hx, _, rfl⟩
    · omega
    · have := hx.after; have := hp.before; simp only [small] at *; omega
  have hh := hp.height
  simp only [small] at hh
  refine AC_enter Tryz.func89 rfl rfl rfl ?_
  refine wpA_seq ?_
  refine wpA_region ?_
  refine wpL_w rfl rfl (by decide) (OpW_box rfl rfl rfl) ?_
  refine wpL_end ?_
  refine wpA_cut (S := Unit) (fun _ => [(0, .ptr id 0), (4, .ptr H.length 0)]) (fun _ G => G = AH H id p 0 (filler r (t + gap) nn f)) ?_ ?_
  · rcases hq with ⟨rfl, rfl⟩ | ⟨x, hx, rfl, rfl⟩
    · skip
      repeat (first | refine wpL_end ?_ | refine wpL_nil ?_ | refine wpA_seq ?_ | refine wpA_region ?_ | refine wpA_block ?_ | refine wpL_v rfl rfl (by decide) (OpV_move rfl rfl) ?_ | refine wpL_v rfl rfl (by decide) (OpV_cmp rfl rfl rfl rfl) ?_ | refine wpL_v rfl rfl (by decide) (OpV_add rfl rfl rfl (by omega)) ?_ | refine wpL_v rfl rfl (by decide) (OpV_len rfl rfl rfl) ?_ | refine wpL_v rfl rfl (by decide) (OpV_nilCheck rfl rfl rfl) ?_ | refine wpL_v rfl rfl (by decide) (OpV_fieldAddr rfl rfl rfl rfl) ?_ | refine wpL_v rfl rfl (by decide) (OpV_load rfl rfl rfl) ?_ | refine wpL_v rfl rfl (by decide) (OpV_load_at rfl rfl (get_new _ _) rfl) ?_ | refine wpL_v rfl rfl (by decide) (OpV_nilptr rfl rfl rfl) ?_ | refine wpL_v rfl rfl (by decide) (OpV_beq rfl rfl rfl) ?_ | refine wpL_v rfl rfl (by decide) (OpV_bne rfl rfl rfl) ?_ | refine wpL_w rfl rfl (by decide) (OpW_alloc rfl rfl) ?_ | refine wpL_w rfl rfl (by decide) (OpW_box rfl rfl rfl) ?_ | refine wpL_s rfl rfl (OpS_store_new rfl rfl rfl rfl rfl rfl rfl) ?_ | refine wpL_s rfl rfl (OpS_store_new1 rfl rfl rfl rfl rfl rfl rfl) ?_ | refine wpL_s rfl rfl (OpS_store rfl rfl rfl rfl rfl rfl) ?_ | refine wpA_ct rfl (by first | rfl | exact decide_eq_true (by omega)) ?_ | refine wpA_cf rfl (by first | rfl | exact decide_eq_false (by omega)) ?_ | refine wpA_skip ?_ | refine wpA_exit ?_ | refine wpA_ret ?_ | refine x_then_exit ?_ | refine x_then_ret ?_ | refine x_then_normal ?_ | refine x_block_ret ?_ | refine x_block_normal ?_ | refine x_block_exit ?_ | refine x_block_other rfl ?_)
      exact ⟨(), .cons rfl (.cons rfl (.nil _)), by rw [Int.add_zero]; exact (set_self (get_app h)).symm⟩
    · have h1 := hx.after
      have h2 := hp.before
      simp only [small] at h1 h2
      repeat (first | refine wpL_end ?_ | refine wpL_nil ?_ | refine wpA_seq ?_ | refine wpA_region ?_ | refine wpA_block ?_ | refine wpL_v rfl rfl (by decide) (OpV_move rfl rfl) ?_ | refine wpL_v rfl rfl (by decide) (OpV_cmp rfl rfl rfl rfl) ?_ | refine wpL_v rfl rfl (by decide) (OpV_add rfl rfl rfl (by omega)) ?_ | refine wpL_v rfl rfl (by decide) (OpV_len rfl rfl rfl) ?_ | refine wpL_v rfl rfl (by decide) (OpV_nilCheck rfl rfl rfl) ?_ | refine wpL_v rfl rfl (by decide) (OpV_fieldAddr rfl rfl rfl rfl) ?_ | refine wpL_v rfl rfl (by decide) (OpV_load rfl rfl rfl) ?_ | refine wpL_v rfl rfl (by decide) (OpV_load_at rfl rfl (get_new _ _) rfl) ?_ | refine wpL_v rfl rfl (by decide) (OpV_nilptr rfl rfl rfl) ?_ | refine wpL_v rfl rfl (by decide) (OpV_beq rfl rfl rfl) ?_ | refine wpL_v rfl rfl (by decide) (OpV_bne rfl rfl rfl) ?_ | refine wpL_w rfl rfl (by decide) (OpW_alloc rfl rfl) ?_ | refine wpL_w rfl rfl (by decide) (OpW_box rfl rfl rfl) ?_ | refine wpL_s rfl rfl (OpS_store_new rfl rfl rfl rfl rfl rfl rfl) ?_ | refine wpL_s rfl rfl (OpS_store_new1 rfl rfl rfl rfl rfl rfl rfl) ?_ | refine wpL_s rfl rfl (OpS_store rfl rfl rfl rfl rfl rfl) ?_ | refine wpA_ct rfl (by first | rfl | exact decide_eq_true (by omega)) ?_ | refine wpA_cf rfl (by first | rfl | exact decide_eq_false (by omega)) ?_ | refine wpA_skip ?_ | refine wpA_exit ?_ | refine wpA_ret ?_ | refine x_then_exit ?_ | refine x_then_ret ?_ | refine x_then_normal ?_ | refine x_block_ret ?_ | refine x_block_normal ?_ | refine x_block_exit ?_ | refine x_block_other rfl ?_)
      refine wpA_dL [AH H id p 0 (filler r (t + (x.after + p.before)) nn f)] (AH H id p 0 (filler r (t + (x.after + p.before)) nn f)) mixed (by decide +kernel) (N := 1) (by decide +kernel) rfl ?_
      repeat (first | refine D_r 0 (by decide +kernel) (by decide +kernel) rfl rfl rfl rfl (by decide) (OpV_load_at rfl rfl (get_app h) rfl) ?_ | refine D_r 0 (by decide +kernel) (by decide +kernel) rfl rfl rfl rfl (by decide) (OpV_load_at rfl rfl (get_new _ _) rfl) ?_ | refine D_r 0 (by decide +kernel) (by decide +kernel) rfl rfl rfl rfl (by decide) (OpV_load rfl rfl rfl) ?_ | refine D_s 0 (by decide +kernel) rfl rfl rfl rfl (OpS_store_at rfl rfl rfl (get_app h) rfl rfl rfl rfl rfl) rfl ?_ | refine D_v rfl rfl rfl (by decide) (fun _ => OpV_move rfl rfl) ?_ | refine D_v rfl rfl rfl (by decide) (fun _ => OpV_cmp rfl rfl rfl rfl) ?_ | refine D_v rfl rfl rfl (by decide) (fun _ => OpV_add rfl rfl rfl (by omega)) ?_ | refine D_v rfl rfl rfl (by decide) (fun _ => OpV_len rfl rfl rfl) ?_ | refine D_v rfl rfl rfl (by decide) (fun _ => OpV_nilCheck rfl rfl rfl) ?_ | refine D_v rfl rfl rfl (by decide) (fun _ => OpV_fieldAddr rfl rfl rfl rfl) ?_ | refine D_end ?_)
      exact ⟨(), .cons rfl (.cons rfl (.nil _)), rfl⟩
  rintro ⟨⟩ G rfl
  have hG1 : (AH H id p 0 (filler r (t + gap) nn f))[id]? = _ := AH_get hlt
  have hG2 : ∀ c, (AH H id p 0 c)[H.length]? = some (some ⟨encPiece p, 93, true⟩) := fun c => get_set_ne (get_new _ _) hne
  have hG3 := hG2 (filler r (t + gap) nn f)
  refine wpA_seq ?_
  refine wpA_dL [AH H id p 0 (filler r (t + gap + p.height) nn f)] (AH H id p 0 (filler r (t + gap + p.height) nn f)) mixed (by decide +kernel) (N := 1) (by decide +kernel) rfl ?_
  repeat (first | refine D_r 0 (by decide +kernel) (by decide +kernel) rfl rfl rfl rfl (by decide) (OpV_load_at rfl rfl hG1 rfl) ?_ | refine D_r 0 (by decide +kernel) (by decide +kernel) rfl rfl rfl rfl (by decide) (OpV_load_at rfl rfl hG3 rfl) ?_ | refine D_s 0 (by decide +kernel) rfl rfl rfl rfl (OpS_store_at rfl rfl rfl hG1 rfl rfl rfl rfl rfl) (AH_set _).symm ?_ | refine D_v rfl rfl rfl (by decide) (fun _ => OpV_move rfl rfl) ?_ | refine D_v rfl rfl rfl (by decide) (fun _ => OpV_cmp rfl rfl rfl rfl) ?_ | refine D_v rfl rfl rfl (by decide) (fun _ => OpV_add rfl rfl rfl (by omega)) ?_ | refine D_v rfl rfl rfl (by decide) (fun _ => OpV_len rfl rfl rfl) ?_ | refine D_v rfl rfl rfl (by decide) (fun _ => OpV_nilCheck rfl rfl rfl) ?_ | refine D_v rfl rfl rfl (by decide) (fun _ => OpV_fieldAddr rfl rfl rfl rfl) ?_ | refine D_end ?_)
  have k2 := hG2 (filler r (t + gap + p.height) nn f)
  repeat (first | refine wpL_end ?_ | refine wpL_nil ?_ | refine wpA_seq ?_ | refine wpA_region ?_ | refine wpA_block ?_ | refine wpL_v rfl rfl (by decide) (OpV_load_at rfl rfl k2 rfl) ?_ | refine wpL_v rfl rfl (by decide) (OpV_move rfl rfl) ?_ | refine wpL_v rfl rfl (by decide) (OpV_cmp rfl rfl rfl rfl) ?_ | refine wpL_v rfl rfl (by decide) (OpV_add rfl rfl rfl (by omega)) ?_ | refine wpL_v rfl rfl (by decide) (OpV_len rfl rfl rfl) ?_ | refine wpL_v rfl rfl (by decide) (OpV_nilCheck rfl rfl rfl) ?_ | refine wpL_v rfl rfl (by decide) (OpV_fieldAddr rfl rfl rfl rfl) ?_ | refine wpL_v rfl rfl (by decide) (OpV_load rfl rfl rfl) ?_ | refine wpL_v rfl rfl (by decide) (OpV_load_at rfl rfl (get_new _ _) rfl) ?_ | refine wpL_v rfl rfl (by decide) (OpV_nilptr rfl rfl rfl) ?_ | refine wpL_v rfl rfl (by decide) (OpV_beq rfl rfl rfl) ?_ | refine wpL_v rfl rfl (by decide) (OpV_bne rfl rfl rfl) ?_ | refine wpL_w rfl rfl (by decide) (OpW_alloc rfl rfl) ?_ | refine wpL_w rfl rfl (by decide) (OpW_box rfl rfl rfl) ?_ | refine wpL_s rfl rfl (OpS_store_new rfl rfl rfl rfl rfl rfl rfl) ?_ | refine wpL_s rfl rfl (OpS_store_new1 rfl rfl rfl rfl rfl rfl rfl) ?_ | refine wpL_s rfl rfl (OpS_store rfl rfl rfl rfl rfl rfl) ?_ | refine wpA_ct rfl (by first | rfl | exact decide_eq_true (by omega)) ?_ | refine wpA_cf rfl (by first | rfl | exact decide_eq_false (by omega)) ?_ | refine wpA_skip ?_ | refine wpA_exit ?_ | refine wpA_ret ?_ | refine x_then_exit ?_ | refine x_then_ret ?_ | refine x_then_normal ?_ | refine x_block_ret ?_ | refine x_block_normal ?_ | refine x_block_exit ?_ | refine x_block_other rfl ?_)
  refine wpA_loopS (S := Nat) (fun k => [(0, .ptr id 0), (34, feetP p.feet), (35, I p.feet.length), (36, I k)])
    (fun k G => k ≤ p.feet.length ∧ G = AH H id p k (filler r (t + gap + p.height) (nn + sumFeet (p.feet.take k)) (f + k))) (fun k => p.feet.length - k) 0
    (.cons rfl (.cons rfl (.cons rfl (.cons rfl (.nil _))))) ⟨by omega, by simp [sumFeet]⟩ ?_
  rintro k G2 ⟨j1, j2⟩
  have hfl := hp.feet
  by_cases hk : k < p.feet.length
  · obtain ⟨ft, hft⟩ : ∃ ft, p.feet[k]? = some ft := ⟨_, List.getElem?_eq_getElem hk⟩
    have hs := sumFeet_take_le p.feet k hp.foot hfl
    have hs2 := sumFeet_take p.feet k ft hft
    have hfo := (hp.foot ft (List.mem_of_getElem? hft)).2
    simp only [small] at hfo
    have m0 : G2[id]? = some (some (filler r (t + gap + p.height) (nn + sumFeet (p.feet.take k)) (f + k))) := by rw [j2]; exact AH_get hlt
    have m1 : (G2 ++ [some ⟨encFoot ft, 193, true⟩])[id]? = _ := get_app m0
    repeat (first | refine wpL_end ?_ | refine wpL_nil ?_ | refine wpA_seq ?_ | refine wpA_region ?_ | refine wpA_block ?_ | refine wpL_v rfl rfl (by decide) (OpV_index_tr rfl rfl rfl (by omega) (feet_spot hft)) ?_ | refine wpL_v rfl rfl (by decide) (OpV_move rfl rfl) ?_ | refine wpL_v rfl rfl (by decide) (OpV_cmp rfl rfl rfl rfl) ?_ | refine wpL_v rfl rfl (by decide) (OpV_add rfl rfl rfl (by omega)) ?_ | refine wpL_v rfl rfl (by decide) (OpV_len rfl rfl rfl) ?_ | refine wpL_v rfl rfl (by decide) (OpV_nilCheck rfl rfl rfl) ?_ | refine wpL_v rfl rfl (by decide) (OpV_fieldAddr rfl rfl rfl rfl) ?_ | refine wpL_v rfl rfl (by decide) (OpV_load rfl rfl rfl) ?_ | refine wpL_v rfl rfl (by decide) (OpV_load_at rfl rfl (get_new _ _) rfl) ?_ | refine wpL_v rfl rfl (by decide) (OpV_nilptr rfl rfl rfl) ?_ | refine wpL_v rfl rfl (by decide) (OpV_beq rfl rfl rfl) ?_ | refine wpL_v rfl rfl (by decide) (OpV_bne rfl rfl rfl) ?_ | refine wpL_w rfl rfl (by decide) (OpW_alloc rfl rfl) ?_ | refine wpL_w rfl rfl (by decide) (OpW_box rfl rfl rfl) ?_ | refine wpL_s rfl rfl (OpS_store_new rfl rfl rfl rfl rfl rfl rfl) ?_ | refine wpL_s rfl rfl (OpS_store_new1 rfl rfl rfl rfl rfl rfl rfl) ?_ | refine wpL_s rfl rfl (OpS_store rfl rfl rfl rfl rfl rfl) ?_ | refine wpA_ct rfl (by first | rfl | exact decide_eq_true (by omega)) ?_ | refine wpA_cf rfl (by first | rfl | exact decide_eq_false (by omega)) ?_ | refine wpA_skip ?_ | refine wpA_exit ?_ | refine wpA_ret ?_ | refine x_then_exit ?_ | refine x_then_ret ?_ | refine x_then_normal ?_ | refine x_block_ret ?_ | refine x_block_normal ?_ | refine x_block_exit ?_ | refine x_block_other rfl ?_)
    have m2 : (G2 ++ [some (Blk.mk (encFoot ft) 193 true)])[G2.length]? = _ := get_new _ _
    have e0 : G2 ++ [some (Blk.mk (encFoot ft) 193 true)] = AH H id p (k + 1) (filler r (t + gap + p.height) (nn + sumFeet (p.feet.take k)) (f + k)) := by rw [j2, AH_app hlt hft]
    have e1 : nn + sumFeet (p.feet.take (k + 1)) = nn + sumFeet (p.feet.take k) + ft.h := by omega
    have e3 : AH H id p (k + 1) (filler r (t + gap + p.height) (nn + sumFeet (p.feet.take (k + 1))) (f + k)) = (G2 ++ [some (Blk.mk (encFoot ft) 193 true)]).set id (some (filler r (t + gap + p.height) (nn + sumFeet (p.feet.take (k + 1))) (f + k))) := by rw [e0, AH_set]
    have m3 : (AH H id p (k + 1) (filler r (t + gap + p.height) (nn + sumFeet (p.feet.take (k + 1))) (f + k)))[id]? = _ := AH_get hlt
    refine wpA_dL [AH H id p (k + 1) (filler r (t + gap + p.height) (nn + sumFeet (p.feet.take (k + 1))) (f + k))] (AH H id p (k + 1) (filler r (t + gap + p.height) (nn + sumFeet (p.feet.take (k + 1))) (f + k))) mixed (by decide +kernel) (N := 1) (by decide +kernel) rfl ?_
    repeat (first | refine D_r 0 (by decide +kernel) (by decide +kernel) rfl rfl rfl rfl (by decide) (OpV_load_at rfl rfl m1 rfl) ?_ | refine D_r 0 (by decide +kernel) (by decide +kernel) rfl rfl rfl rfl (by decide) (OpV_load_at rfl rfl m2 rfl) ?_ | refine D_s 0 (by decide +kernel) rfl rfl rfl rfl (OpS_store_at rfl rfl rfl m1 rfl rfl rfl rfl (by rw [e1]; rfl)) e3 ?_ | refine D_v rfl rfl rfl (by decide) (fun _ => OpV_move rfl rfl) ?_ | refine D_v rfl rfl rfl (by decide) (fun _ => OpV_cmp rfl rfl rfl rfl) ?_ | refine D_v rfl rfl rfl (by decide) (fun _ => OpV_add rfl rfl rfl (by omega)) ?_ | refine D_v rfl rfl rfl (by decide) (fun _ => OpV_len rfl rfl rfl) ?_ | refine D_v rfl rfl rfl (by decide) (fun _ => OpV_nilCheck rfl rfl rfl) ?_ | refine D_v rfl rfl rfl (by decide) (fun _ => OpV_fieldAddr rfl rfl rfl rfl) ?_ | refine D_end ?_)
    repeat (first | refine wpL_end ?_ | refine wpL_nil ?_ | refine wpA_seq ?_ | refine wpA_region ?_ | refine wpA_block ?_ | refine wpL_v rfl rfl (by decide) (OpV_load_at rfl rfl m3 rfl) ?_ | refine wpL_s rfl rfl (OpS_store_at rfl rfl rfl m3 rfl rfl rfl rfl rfl) ?_ | refine wpL_v rfl rfl (by decide) (OpV_move rfl rfl) ?_ | refine wpL_v rfl rfl (by decide) (OpV_cmp rfl rfl rfl rfl) ?_ | refine wpL_v rfl rfl (by decide) (OpV_add rfl rfl rfl (by omega)) ?_ | refine wpL_v rfl rfl (by decide) (OpV_len rfl rfl rfl) ?_ | refine wpL_v rfl rfl (by decide) (OpV_nilCheck rfl rfl rfl) ?_ | refine wpL_v rfl rfl (by decide) (OpV_fieldAddr rfl rfl rfl rfl) ?_ | refine wpL_v rfl rfl (by decide) (OpV_load rfl rfl rfl) ?_ | refine wpL_v rfl rfl (by decide) (OpV_load_at rfl rfl (get_new _ _) rfl) ?_ | refine wpL_v rfl rfl (by decide) (OpV_nilptr rfl rfl rfl) ?_ | refine wpL_v rfl rfl (by decide) (OpV_beq rfl rfl rfl) ?_ | refine wpL_v rfl rfl (by decide) (OpV_bne rfl rfl rfl) ?_ | refine wpL_w rfl rfl (by decide) (OpW_alloc rfl rfl) ?_ | refine wpL_w rfl rfl (by decide) (OpW_box rfl rfl rfl) ?_ | refine wpL_s rfl rfl (OpS_store_new rfl rfl rfl rfl rfl rfl rfl) ?_ | refine wpL_s rfl rfl (OpS_store_new1 rfl rfl rfl rfl rfl rfl rfl) ?_ | refine wpL_s rfl rfl (OpS_store rfl rfl rfl rfl rfl rfl) ?_ | refine wpA_ct rfl (by first | rfl | exact decide_eq_true (by omega)) ?_ | refine wpA_cf rfl (by first | rfl | exact decide_eq_false (by omega)) ?_ | refine wpA_skip ?_ | refine wpA_exit ?_ | refine wpA_ret ?_ | refine x_then_exit ?_ | refine x_then_ret ?_ | refine x_then_normal ?_ | refine x_block_ret ?_ | refine x_block_normal ?_ | refine x_block_exit ?_ | refine x_block_other rfl ?_)
    refine ⟨k + 1, by omega, .cons rfl (.cons rfl (.cons rfl (.cons rfl (.nil _)))), by omega, (AH_set _).trans ?_⟩
    have e2 : f + (k : Int) + 1 = f + ((k + 1 : Nat) : Int) := by omega
    rw [← e2]; rfl
  · have hk2 : k = p.feet.length := by omega
    subst hk2
    repeat (first | refine wpL_end ?_ | refine wpL_nil ?_ | refine wpA_seq ?_ | refine wpA_region ?_ | refine wpA_block ?_ | refine wpL_v rfl rfl (by decide) (OpV_move rfl rfl) ?_ | refine wpL_v rfl rfl (by decide) (OpV_cmp rfl rfl rfl rfl) ?_ | refine wpL_v rfl rfl (by decide) (OpV_add rfl rfl rfl (by omega)) ?_ | refine wpL_v rfl rfl (by decide) (OpV_len rfl rfl rfl) ?_ | refine wpL_v rfl rfl (by decide) (OpV_nilCheck rfl rfl rfl) ?_ | refine wpL_v rfl rfl (by decide) (OpV_fieldAddr rfl rfl rfl rfl) ?_ | refine wpL_v rfl rfl (by decide) (OpV_load rfl rfl rfl) ?_ | refine wpL_v rfl rfl (by decide) (OpV_load_at rfl rfl (get_new _ _) rfl) ?_ | refine wpL_v rfl rfl (by decide) (OpV_nilptr rfl rfl rfl) ?_ | refine wpL_v rfl rfl (by decide) (OpV_beq rfl rfl rfl) ?_ | refine wpL_v rfl rfl (by decide) (OpV_bne rfl rfl rfl) ?_ | refine wpL_w rfl rfl (by decide) (OpW_alloc rfl rfl) ?_ | refine wpL_w rfl rfl (by decide) (OpW_box rfl rfl rfl) ?_ | refine wpL_s rfl rfl (OpS_store_new rfl rfl rfl rfl rfl rfl rfl) ?_ | refine wpL_s rfl rfl (OpS_store_new1 rfl rfl rfl rfl rfl rfl rfl) ?_ | refine wpL_s rfl rfl (OpS_store rfl rfl rfl rfl rfl rfl) ?_ | refine wpA_ct rfl (by first | rfl | exact decide_eq_true (by omega)) ?_ | refine wpA_cf rfl (by first | rfl | exact decide_eq_false (by omega)) ?_ | refine wpA_skip ?_ | refine wpA_exit ?_ | refine wpA_ret ?_ | refine x_then_exit ?_ | refine x_then_ret ?_ | refine x_then_normal ?_ | refine x_block_ret ?_ | refine x_block_normal ?_ | refine x_block_exit ?_ | refine x_block_other rfl ?_)
    rw [List.take_length] at j2
    exact postA_0 rfl (.inl rfl) ⟨rfl, j2⟩
end Go.Proofs.YtnenmpeejjeopaaGreatDoor
