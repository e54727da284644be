/- Breaks. -/
import Derived.Test.YtnenmpeejjeopaaGreatDoorPgI
namespace Go.Proofs.YtnenmpeejjeopaaGreatDoor
open Go.RowKit Go.Th
set_option linter.unusedVariables false
set_option maxRecDepth 20000

def breaksL (l : List Piece) (height : Int) : List Int := (brk l height l.length 0).map Int.ofNat

theorem brk_len (l : List Piece) (height : Int) (n i : Nat) : (brk l height n i).length ≤ n := by
  induction n generalizing i with
  | zero => simp [brk]
  | succ n ih =>
    simp only [brk]
    split
    · have := ih (fillF l i height)
      simp; omega
    · simp

theorem starts_ac (H : Heap) (l : List Piece) (height : Int) {L : List (Nat × Blk)} (hG : Has H L) :
    AC Tryz.prog 32 [pcs l, I height] H (fun p G => ∃ id1 id2, p = .fn (.func 57) [.ptr id1 0, .ptr id2 0] ∧ Has G ((id2, ⟨[I height], 3, true⟩) :: (id1, ⟨[pcs l], 73, true⟩) :: L)) := by
  refine AC_enter Tryz.func32 rfl rfl rfl ?_
  repeat (first | refine wpL_end ?_ | refine wpL_nil ?_ | refine wpA_seq ?_ | refine wpA_region ?_ | refine wpA_block ?_ | refine wpL_v rfl rfl (by decide) (OpV_assign rfl rfl) ?_ | refine wpL_v rfl rfl (by decide) (OpV_makeFunc rfl rfl) ?_ | (refine wpL_boxH hG rfl rfl (by decide) rfl rfl rfl ?_; intro id G hG) | refine wpA_ct rfl (by first | rfl | exact decide_eq_true (by omega) | exact ndec_t (by omega)) ?_ | refine wpA_cf rfl (by first | rfl | exact decide_eq_false (by omega) | exact ndec_f (by omega)) ?_ | refine wpA_skip ?_ | refine wpA_exit ?_ | refine wpA_ret ?_ | refine x_then_exit ?_ | refine x_then_ret ?_ | refine x_then_normal ?_ | refine x_block_ret ?_ | refine x_block_normal ?_ | refine x_block_exit ?_ | refine x_block_other rfl ?_)
  exact postA_1 rfl rfl ⟨_, _, rfl, hG⟩

theorem collect_ac (H : Heap) (l : List Piece) (height : Int) (hl : allOk l) {id1 id2 : Nat} (h1 : H[id1]? = some (some ⟨[pcs l], 73, true⟩)) (h2 : H[id2]? = some (some ⟨[I height], 3, true⟩)) :
    AC Tryz.prog 31 [.fn (.func 57) [.ptr id1 0, .ptr id2 0]] H (fun p G => p = .sl H.length 0 (breaksL l height).length 1 ∧ G = H ++ [some ⟨(breaksL l height).map I, 3, true⟩]) := by
  refine ⟨⟨Tryz.f31, Tryz.func31, rfl, rfl⟩, fun m w vals hR hrep => ?_⟩
  have hlen := hl.1
  have hbl : (breaksL l height).length ≤ 120 := by
    have := brk_len l height l.length 0
    simp only [breaksL, List.length_map]; omega
  obtain ⟨hs, hv⟩ := hrep
  have hv0 := hv 0 _ rfl
  obtain ⟨v0, rfl⟩ : ∃ v0, vals = #[v0] := by
    cases vals with | mk l => match l with
      | [v] => exact ⟨v, rfl⟩
      | [] => simp at hs
      | _ :: _ :: _ => simp at hs
  simp at hv0
  cases hv0 with
  | fn vs hvs hcap =>
    obtain ⟨p1, p2, rfl⟩ : ∃ p1 p2, vs = #[p1, p2] := by
      cases vs with | mk l => match l with
        | [a, b] => exact ⟨a, b, rfl⟩
        | [] => simp at hvs
        | [_] => simp at hvs
        | _ :: _ :: _ :: _ => simp at hvs
    have r1 := hcap 0 _ rfl
    have r2 := hcap 1 _ rfl
    simp at r1 r2
    cases r1 with
    | ptr m1 =>
      rename_i b1 d1 lim1
      cases r2 with
      | ptr m2 =>
        rename_i b2 d2 lim2
        obtain ⟨rfl, ⟨cur1, e1, _, _, f1⟩, _, _⟩ := hR.blk id1 _ _ _ _ h1 m1
        obtain ⟨rfl, ⟨cur2, e2, _, _, f2⟩, _, _⟩ := hR.blk id2 _ _ _ _ h2 m2
        obtain ⟨v1, g1, q1, _⟩ := f1 0 _ rfl
        obtain ⟨v2, g2, q2, _⟩ := f2 0 _ rfl
        cases q2
        simp only [Nat.zero_add] at g1 g2
        have c1 : w.cell? ⟨b1, 0, none⟩ = some v1 := by simp [World.cell?, e1, g1]
        have c2 : w.cell? ⟨b2, 0, none⟩ = some (.int .i64 height) := by simp [World.cell?, e2, g2]
        have hc := (callsIn_wide (n := 4)).1 (collect_in 4 (by omega) 57 #[.pointer (some ⟨b1, 0, none⟩), .pointer (some ⟨b2, 0, none⟩)] (enters_of Tryz.func57 (by kernel_rfl) rfl) (breaksL l height) (by simp only [maxLen]; omega) (by omega) w
          (fun W hW => starts_gives 2 (by omega) l height hl hR.rk hR.kl q1 (hR.lt h1 m1) (hR.lt h2 m2) c1 c2 W hW))
        refine hc.mono ?_
        rintro e w' ⟨v, rfl, hrow, hnil, hb⟩
        obtain ⟨hR', hle'⟩ := hR.world hb.size hb.os hb.tape hb.output (fun b h => hb.block b (hR.kl b h)) (fun id B b d lim hB hm => hb.block b (hR.lt hB hm))
        rcases hrow.2 with ⟨rfl, h0⟩ | ⟨g, cap, cur, rfl, hg, hcur, k1, k2, k3, k4⟩
        · have hnil' : breaksL l height = [] := List.length_eq_zero_iff.1 h0
          rw [hnil']
          exact ⟨_, _, _, m, rfl, ⟨rfl, rfl⟩, .sl0 none, hR'.ghost _, hle'⟩
        · have hadd := hR'.add ⟨(breaksL l height).map I, 3, true⟩ (b := g) (lim := cur.size) ⟨cur, hcur, rfl, by simp; omega, fun j c hj => ?_⟩ rfl (fun hk => by have := hR.kl g hk; omega) (fun i C di li hi _ hm => by have := hR.lt (w := w) hi hm; omega)
          · refine ⟨_, _, _, _, rfl, ⟨rfl, rfl⟩, ?_, hadd.1, hle'.trans hadd.2⟩
            have := Rep.sl (m := { m with blk := fun i => if i = H.length then some (g, 0, cur.size) else m.blk i }) (w := w') (id := H.length) (off := 0) (len := (breaksL l height).length) (sz := 1) (b := g) (d := 0) (lim := cur.size) (cap := cap) (by simp) k1 k2 (by omega)
            simpa using this
          · simp only [List.getElem?_map] at hj
            cases hx : (breaksL l height)[j]? with
            | none => rw [hx] at hj; simp at hj
            | some x =>
              rw [hx] at hj
              simp at hj
              subst hj
              have hjl : j < (breaksL l height).length := (List.getElem?_eq_some_iff.1 hx).1
              have e3 : (cur.toList.take ((breaksL l height).length * 1))[j]? = some (.int .i64 x) := by rw [k4]; simp [hx]
              rw [List.getElem?_take, if_pos (by omega)] at e3
              exact ⟨.int .i64 x, by simpa using e3, .v _ rfl, rfl⟩
end Go.Proofs.YtnenmpeejjeopaaGreatDoor
