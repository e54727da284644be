/- A slice in a cell is closed. -/
import Derived.Test.YtpkeceifnmmhcaaThFourteen
namespace Go.Th
open Go.RowKit

theorem R.freeze {m : Mp} {H : Heap} {w : World} {id off len sz : Nat} {B : Blk} {cs : List PV} {v : Value} (h : R m H w) (hB : H[id]? = some (some B)) (hc : takeN (len * sz) (B.cells.drop off) = some cs) (hv : Rep m w (.sl id off len sz) v) :
    ∃ m', Le m w m' w ∧ R m' (H.set id none) w ∧ Rep m' w (.tr cs len sz) v := by
  have hat : At m w 1 [(0, .sl id off len sz)] H ⟨#[v], []⟩ w := ⟨rfl, rfl, m, Le.refl m w, h, fun t p ht => by
    rw [Env.get_cons] at ht
    by_cases e : 0 = t
    · subst e; rw [if_pos rfl] at ht; cases ht; exact hv
    · rw [if_neg e] at ht; simp [Env.get] at ht⟩
  obtain ⟨_, _, m', h3, h4, h5⟩ := hat.freeze (t := 0) rfl hB hc
  exact ⟨m', h3, h4, h5 0 _ rfl⟩

theorem R.altv {m : Mp} {H : Heap} {w : World} {id : Nat} {B : Blk} (h : R m H w) (hB : H[id]? = some (some B)) (B' : Blk) (ho : B'.own = B.own) (he : B'.elem = B.elem) (hl : B'.cells.length = B.cells.length)
    (hc : ∀ (b d lim : Nat) (cur : Array Value), m.blk id = some (b, d, lim) → w.heap[b]? = some (.cells cur B.elem (0, 0)) → ∀ (j : Nat) (c' : PV), B'.cells[j]? = some c' → ∃ c, B.cells[j]? = some c ∧ ∀ v, cur[d + j]? = some v → Rep m w c v → Rep m w c' v) : R m (H.set id (some B')) w := by
  have back : ∀ i C, (H.set id (some B'))[i]? = some (some C) → ∃ D, H[i]? = some (some D) ∧ D.own = C.own ∧ (i = id ∧ C = B' ∨ i ≠ id ∧ D = C) := fun i C hi => by
    rcases set_get hi with ⟨rfl, e⟩ | ⟨hne, hi⟩
    · cases e; exact ⟨B, hB, ho.symm, .inl ⟨rfl, rfl⟩⟩
    · exact ⟨C, hi, rfl, .inr ⟨hne, rfl⟩⟩
  refine ⟨h.rk, h.kl, fun i x hx => by simpa using h.dom i x hx, fun i C b d lim hi hm => ?_, fun i j C D bi di li bj dj lj hne hi hj h1 h2 hmi hmj => ?_⟩
  · obtain ⟨D, hD, hDo, hcase⟩ := back i C hi
    obtain ⟨q1, ⟨cur, c1, c2, c3, c4⟩, q3, q4⟩ := h.blk i D b d lim hD hm
    rcases hcase with ⟨rfl, rfl⟩ | ⟨_, rfl⟩
    · rw [hB] at hD; cases hD
      refine ⟨q1, ⟨cur, by rw [he]; exact c1, c2, by rw [hl]; exact c3, fun j c' hj => ?_⟩, by rw [ho]; exact q3, by rw [ho]; exact q4⟩
      obtain ⟨c, hcj, hcv⟩ := hc b d lim cur hm c1 j c' hj
      obtain ⟨v, hv, hr, h1⟩ := c4 j c hcj
      exact ⟨v, hv, hcv v hv hr, h1⟩
    · exact ⟨q1, ⟨cur, c1, c2, c3, c4⟩, q3, q4⟩
  · obtain ⟨C', hC', hCo, _⟩ := back i C hi
    obtain ⟨D', hD', hDo, _⟩ := back j D hj
    exact h.inj i j C' D' _ _ _ _ _ _ hne hC' hD' (by rw [hCo]; exact h1) (by rw [hDo]; exact h2) hmi hmj

theorem wpA_freezeC {P : Program} {n : Nat} {Q : QA} {E : Env} {H : Heap} {L : List (Nat × Blk)} {id pg len sz : Nat} {B C : Blk} {c : Code} (k j : Nat) (hG : Has H ((id, C) :: L)) (hk : L[k]? = some (pg, B)) (hc : B.cells[j]? = some (.sl id 0 len sz)) (hl : C.cells.length = len * sz)
    (h : ∀ G, Has G (L.set k (pg, { B with cells := B.cells.set j (.tr C.cells len sz) })) → wpA P n c Q E G) : wpA P n c Q E H := by
  rintro m0 w0 a w ⟨h1, h2, m, h3, h4, h5⟩
  have hB := hG.get (k + 1) pg B (by simpa using hk)
  have hC := hG.get 0 id C rfl
  have hB2 : (H.set id none)[pg]? = some (some B) := hG.forget.get k pg B hk
  have hH : Has ((H.set id none).set pg (some { B with cells := B.cells.set j (.tr C.cells len sz) })) (L.set k (pg, { B with cells := B.cells.set j (.tr C.cells len sz) })) := hG.forget.set hk _
  have hjl : j < B.cells.length := (List.getElem?_eq_some_iff.1 hc).1
  cases hm : m.blk pg with
  | none =>
    have hR : R m ((H.set id none).set pg (some { B with cells := B.cells.set j (.tr C.cells len sz) })) w :=
      (h4.kill id).altv hB2 _ rfl rfl (by simp) (fun b d lim cur e _ => by rw [hm] at e; cases e)
    exact h _ hH m0 w0 a w ⟨h1, h2, m, h3, hR, h5⟩
  | some x =>
    obtain ⟨b, d, lim⟩ := x
    obtain ⟨rfl, ⟨cur, c1, c2, c3, c4⟩, _, _⟩ := h4.blk pg B b d lim hB hm
    obtain ⟨v, hv, hr, _⟩ := c4 j _ hc
    obtain ⟨m', hle, hR', hr'⟩ := h4.freeze hC (takeN_all hl) hr
    have hR : R m' ((H.set id none).set pg (some { B with cells := B.cells.set j (.tr C.cells len sz) })) w := by
      refine hR'.altv hB2 _ rfl rfl (by simp) (fun b' d' lim' cur' e e' j' c' hj' => ?_)
      have e2 := hle.blk pg _ hm
      rw [e2] at e; cases e
      rw [c1] at e'; cases e'
      rcases listset hj' with ⟨rfl, rfl⟩ | ⟨_, hj'⟩
      · exact ⟨_, hc, fun u hu _ => by rw [hv] at hu; cases hu; exact hr'⟩
      · exact ⟨c', hj', fun u _ hu => hu⟩
    exact h _ hH m0 w0 a w ⟨h1, h2, m', h3.trans hle, hR, h5.mono h4.rk hle⟩

/-- An operation that looks at the heap, with or without one writing operation ahead of it. -/
theorem D_r2 {P : Program} {n : Nat} {l : List Oper} {acc : List PV} {Hs : Nat → Heap} {i : Nat} {o : Oper} {os : List Oper} {p : PV} {E : Env} {d : Nat} {K : Env → Prop} {H H2 : Heap} (c : Nat) (h1 : loCount l i = c) (h2 : hiCount l i = c + 1) (hH : Hs c = H) (hH2 : Hs (c + 1) = H2) (hg : o.guard = none) (hl : loudOp o = false) (hd : o.dst = some d) (hn : d < n)
    (h : OpV P o (opEnv o E) H p) (h' : OpV P o (opEnv o E) H2 p) (k : DX P n l Hs (i + 1) os (acc ++ [p]) ((d, p) :: E) K) : DX P n l Hs i (o :: os) acc E K := by
  refine ⟨p, ⟨fun d' hd' => by rw [hd] at hd'; cases hd'; exact hn, ?_⟩, by rw [hd]; exact k⟩
  rw [hg, hl]
  intro c' hc1 hc2
  rcases Nat.lt_or_ge c c' with hlt | hge
  · have : c' = c + 1 := by omega
    subst this
    rw [hH2]; exact h'.K
  · have : c' = c := by omega
    subst this
    rw [hH]; exact h.K
end Go.Th
