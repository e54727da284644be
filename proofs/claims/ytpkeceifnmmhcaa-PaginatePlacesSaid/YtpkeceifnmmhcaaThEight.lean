/- A statement whose order is open: the law. -/
import Derived.Test.YtpkeceifnmmhcaaThSeven
namespace Go.Th
open Go.RowKit

theorem zip_all {α : Type} {l : List α} {f : α × Nat → Bool} (h : l.zipIdx.all f = true) {i : Nat} {o : α} (hi : l[i]? = some o) : f (o, i) = true := by
  refine List.all_eq_true.1 h (o, i) ?_
  rw [List.mem_zipIdx_iff_getElem?]
  simpa using hi

structure DrawOk (l : List Oper) : Prop where
  down : ∀ (i : Nat) (o : Oper), l[i]? = some o → ∀ e ∈ o.after, Region.binds .any e = true → e.on < i
  slot : ∀ (i j : Nat) (oi oj : Oper) (d : Nat), i ≠ j → l[i]? = some oi → l[j]? = some oj → oi.dst = some d → d ∈ opSlots oj → (i < j → befB (bef l []) i j = true) ∧ (j < i → befB (bef l []) j i = true)
  dst : ∀ (i j : Nat) (oi oj : Oper) (d : Nat), i ≠ j → l[i]? = some oi → l[j]? = some oj → oi.dst = some d → oj.dst ≠ some d
  loud : ∀ (i j : Nat) (oi oj : Oper), i < j → l[i]? = some oi → l[j]? = some oj → loudOp oi = true → loudOp oj = true → befB (bef l []) i j = true
  guard : ∀ (i j : Nat) (o : Oper) (w : Bool), l[i]? = some o → o.guard = some (j, w) → befB (bef l []) j i = true ∧ j < i ∧ loudOp o = false

theorem drawOk {l : List Oper} (h : drawB l = true) : DrawOk l := by
  unfold drawB at h
  simp only [Bool.and_eq_true] at h
  obtain ⟨⟨h1, h2⟩, h3⟩ := h
  have pair : ∀ (i j : Nat) (oi oj : Oper), i ≠ j → l[i]? = some oi → l[j]? = some oj →
      ((oi.dst.all fun d => !(opSlots oj).contains d || (if i < j then befB (bef l []) i j else befB (bef l []) j i)) = true ∧ (oi.dst.all fun d => oj.dst.all fun d' => !Nat.beq d d') = true ∧
       (!(loudOp oi && loudOp oj) || (if i < j then befB (bef l []) i j else befB (bef l []) j i)) = true) := fun i j oi oj hne hi hj => by
    have := zip_all (zip_all h2 hi) hj
    simp only [Bool.or_eq_true, Bool.and_eq_true] at this
    rcases this with this | this
    · exact absurd (Nat.eq_of_beq_eq_true this) hne
    · simpa [Bool.or_eq_true, Bool.and_eq_true, and_assoc] using this
  refine ⟨fun i o hi e he hb => ?_, fun i j oi oj d hne hi hj hd hm => ?_, fun i j oi oj d hne hi hj hd hd' => ?_, fun i j oi oj hlt hi hj h1 h2 => ?_, fun i j o w hi hg => ?_⟩
  · have := zip_all h1 hi
    have := List.all_eq_true.1 this e (by simpa using he)
    simp only [hb, Bool.not_true, Bool.false_or] at this
    exact Nat.lt_of_lt_of_le (Nat.lt_succ_self _) (Nat.le_of_ble_eq_true this)
  · have := (pair i j oi oj hne hi hj).1
    rw [hd] at this
    simp only [Option.all_some, Bool.or_eq_true, Bool.not_eq_true'] at this
    rcases this with this | this
    · have hc : (opSlots oj).contains d = true := by simpa using hm
      rw [hc] at this; cases this
    · exact ⟨fun h => by rw [if_pos h] at this; exact this, fun h => by rw [if_neg (by omega)] at this; exact this⟩
  · have := (pair i j oi oj hne hi hj).2.1
    rw [hd, hd'] at this
    simp at this
  · have := (pair i j oi oj (by omega) hi hj).2.2
    rw [h1, h2] at this
    simpa [hlt] using this
  · have := zip_all h3 hi
    rw [hg] at this
    simp only [Bool.and_eq_true, Bool.not_eq_true'] at this
    exact ⟨this.1.1, Nat.lt_of_lt_of_le (Nat.lt_succ_self _) (Nat.le_of_ble_eq_true this.1.2), this.2⟩

theorem getD_both' {listed : Array Bool} {i : Nat} (h : listed.getD i true = false) : listed.getD i false = false := by
  rcases Nat.lt_or_ge i listed.size with h' | h'
  · simp [h'] at h ⊢; exact h
  · simp [Array.getElem?_eq_none h'] at h

theorem rep_getD (k j : Nat) : (Array.replicate k false).getD j false = false := by
  rcases Nat.lt_or_ge j k with h | h
  · simp [h]
  · simp [h]

theorem bef_lt : ∀ (l : List Oper) (acc : List Nat), (∀ (k : Nat) (o : Oper), l[k]? = some o → ∀ e ∈ o.after, Region.binds .any e = true → e.on < acc.length + k) →
    (∀ i j, i < acc.length → (acc.getD i 0).testBit j = true → j < i) → ∀ i j, ((bef l acc).getD i 0).testBit j = true → j < i
  | [], acc, _, h, i, j => fun hb => by
    rcases Nat.lt_or_ge i acc.length with hlt | hge
    · exact h i j hlt hb
    · simp only [bef, List.getD_eq_getElem?_getD, List.getElem?_eq_none hge] at hb; simp at hb
  | o :: r, acc, hd, h, i, j => by
    refine bef_lt r (acc ++ [maskOf acc o]) (fun k o' hk e he hb => ?_) (fun i j hi hb => ?_) i j
    · have := hd (k + 1) o' (by simpa using hk) e he hb
      simp; omega
    · rcases Nat.lt_or_ge i acc.length with hlt | hge
      · rw [List.getD_eq_getElem?_getD, List.getElem?_append_left hlt, ← List.getD_eq_getElem?_getD] at hb
        exact h i j hlt hb
      · have e : i = acc.length := by simp at hi; omega
        subst e
        rw [List.getD_eq_getElem?_getD, List.getElem?_append_right (Nat.le_refl _)] at hb
        simp at hb
        obtain ⟨e, he, hbind, h1⟩ := maskOf_spec hb
        have h2 := hd 0 o rfl e he hbind
        rcases h1 with h1 | h1
        · omega
        · have := h e.on j (by simpa using h2) h1
          simp at h2; omega

theorem DrawOk.irr {l : List Oper} (ho : DrawOk l) (i j : Nat) (h : befB (bef l []) j i = true) : j < i :=
  bef_lt l [] (fun k o hk e he hb => by have := ho.down k o hk e he hb; simpa using this) (fun i j hi => by simp at hi) i j h

section
variable {P : Program} {n : Nat} {l : List Oper} {vals : List PV} {Hs : Nat → Heap} {E0 : Env} {m0 : Mp} {w0 : World}

structure Inv (n : Nat) (l : List Oper) (vals : List PV) (Hs : Nat → Heap) (E0 : Env) (m0 : Mp) (w0 : World) (listed : Array Bool) (a : Act) (w : World) : Prop where
  size : listed.size = l.length
  closed : Closed l.toArray listed
  tmps : a.tmps.size = n
  defers : a.defers = []
  rel : ∃ m, Le m0 w0 m w ∧ R m (Hs (cnt l listed)) w ∧ (∀ (j : Nat) (o : Oper) (d : Nat) (p : PV), listed.getD j false = true → l[j]? = some o → o.dst = some d → vals[j]? = some p → Rep m w p (a.tmps.getD d undef)) ∧
    (∀ t p, E0.get t = some p → (∀ (j : Nat) (o : Oper), listed.getD j false = true → l[j]? = some o → o.dst ≠ some t) → Rep m w p (a.tmps.getD t undef))

theorem all_listed (ho : DrawOk l) {listed : Array Bool} (hs : listed.size = l.length) (h : Region.ready .any l.toArray listed = []) : ∀ i, i < l.length → listed.getD i false = true := by
  intro i
  induction i using Nat.strongRecOn with
  | _ i ih =>
    intro hi
    cases hf : listed.getD i false with
    | true => rfl
    | false =>
      exfalso
      have hmem : i ∈ Region.ready .any l.toArray listed := by
        rw [mem_ready]
        refine ⟨?_, l[i], by simp [hi], fun e he hb => ?_⟩
        · rw [Array.getD_eq_getD_getElem?, Array.getElem?_eq_getElem (by omega)] at hf ⊢
          simpa using hf
        · have := ho.down i l[i] (by simp [hi]) e he hb
          exact ih e.on this (by omega)
      rw [h] at hmem; cases hmem

theorem Env.only_self (E : Env) (ts : List Nat) (t : Nat) (p : PV) (h : (E.only ts).get t = some p) : t ∈ ts := by
  induction ts with
  | nil => simp [Env.only, Env.get] at h
  | cons x r ih =>
    simp only [Env.only] at h
    split at h
    · rw [Env.get_cons] at h
      by_cases e : x = t
      · simp [e]
      · rw [if_neg e] at h; simp [ih h]
    · simp [ih h]

theorem inv_step (ho : DrawOk l) (hv : vals.length = l.length) (hf : ∀ (i : Nat) (o : Oper) (p : PV), l[i]? = some o → vals[i]? = some p → DF P n l vals Hs E0 i o p) {Q : Exit → Act → World → Prop} {K : Act → World → Prop}
    {listed : Array Bool} {a : Act} {w : World} (hI : Inv n l vals Hs E0 m0 w0 listed a w) {i : Nat} (hi : i ∈ Region.ready .any l.toArray listed)
    (hK : ∀ a' w', Inv n l vals Hs E0 m0 w0 (listed.setIfInBounds i true) a' w' → K a' w') : wpOp P l.toArray Q i K a w := by
  obtain ⟨hiu, o, hio, hdeps⟩ := mem_ready.1 hi
  have hil : l[i]? = some o := by simpa using hio
  have hlt : i < l.length := (List.getElem?_eq_some_iff.1 hil).1
  obtain ⟨p, hp⟩ : ∃ p, vals[i]? = some p := ⟨_, List.getElem?_eq_getElem (by omega)⟩
  have hif : listed.getD i false = false := getD_both' hiu
  obtain ⟨m, hle, hR, hr1, hr2⟩ := hI.rel
  have hlen := hI.size
  -- what is listed behind this step
  have hL' : ∀ j, (listed.setIfInBounds i true).getD j false = true ↔ (listed.getD j false = true ∨ j = i) := fun j => by
    by_cases e : i = j
    · subst e; simp [Array.getD_eq_getD_getElem?, hlen, hlt]
    · rw [getD_set_ne false e]; simp [Ne.symm e]
  have hclosed' : Closed l.toArray (listed.setIfInBounds i true) := fun k ok hk hkl e he hb => by
    rw [hL'] at hkl ⊢
    rcases hkl with hkl | rfl
    · exact .inl (hI.closed k ok hk hkl e he hb)
    · rw [hio] at hk; cases hk
      exact .inl (hdeps e he hb)
  have hbefi : ∀ j, befB (bef l []) j i = true → j ≠ i → listed.getD j false = true := fun j hb hne => by
    have := bef_spec hclosed' l [] (fun k => by simp) (fun i j hi => by simp at hi) i j hb ((hL' i).2 (.inr rfl))
    rcases (hL' j).1 this with h | h
    · exact h
    · exact absurd h hne
  have hbefo : ∀ j, befB (bef l []) i j = true → listed.getD j false = false := fun j hb => by
    cases hj : listed.getD j false with
    | false => rfl
    | true =>
      have := bef_spec hI.closed l [] (fun k => by simp) (fun i j hi => by simp at hi) j i hb hj
      rw [hif] at this; cases this
  -- the operands
  have hEi : ∀ t q, (opEnv o (envOf (l.take i) (vals.take i) E0)).get t = some q → Rep m w q (a.tmps.getD t undef) := fun t q ht => by
    have hts : t ∈ opSlots o := Env.only_self _ _ t q ht
    have ht' := Env.only_get _ _ t q ht
    rcases envOf_get _ _ _ t q ht' with ⟨j, oj, h1, h2, h3, h4⟩ | ⟨h1, h2⟩
    · have hji : j < i := by simp at h1; omega
      rw [List.getElem?_take, if_pos hji] at h2 h4
      have := (ho.slot j i oj o t (by omega) h2 hil h3 hts).1 hji
      exact hr1 j oj t q (hbefi j this (by omega)) h2 h3 h4
    · refine hr2 t q h1 fun j oj hj hjl hd => ?_
      rcases Nat.lt_or_ge j i with hlt2 | hge
      · exact h2 j oj (by simp; omega) (by rw [List.getElem?_take, if_pos hlt2]; exact hjl) hd
      · have hne : j ≠ i := fun e => by rw [e] at hj; rw [hif] at hj; cases hj
        have := (ho.slot j i oj o t hne hjl hil hd hts).2 (by omega)
        rw [hbefo j this] at hj; cases hj
  have hev : ∀ x q, (opEnv o (envOf (l.take i) (vals.take i) E0)).ev x = some q → Rep m w q (a.eval x) := fun x q hx => FR.ev (a := a) hEi hx
  have hdf := hf i o p hil hp
  -- the step's end
  have fin : ∀ (v : Value) (m' : Mp) (w' : World), Le m w m' w' → R m' (Hs (cnt l (listed.setIfInBounds i true))) w' → Rep m' w' p v → K (a.put o.dst v) w' := fun v m' w' hle' hR' hrep => by
    refine hK _ _ ⟨by simp [hlen], hclosed', by cases o.dst <;> simp [Act.put, hI.tmps], by cases o.dst <;> simp [Act.put, hI.defers], m', hle.trans hle', hR', fun j oj d q hj hjl hd hq => ?_, fun t q ht hno => ?_⟩
    · rcases (hL' j).1 hj with hj | rfl
      · have hne : i ≠ j := fun e => by rw [← e, hif] at hj; cases hj
        have hrj := (hr1 j oj d q hj hjl hd hq).mono hR.rk hle'
        cases hdo : o.dst with
        | none => simpa [Act.put, hdo] using hrj
        | some d' =>
          have hdd : d' ≠ d := fun e => ho.dst i j o oj d hne hil hjl (by rw [hdo, e]) hd
          simpa [Act.put, hdo, Array.getD_eq_getD_getElem?, Array.getElem?_setIfInBounds_ne hdd] using hrj
      · rw [hil] at hjl; cases hjl
        rw [hp] at hq; cases hq
        have hdn : d < a.tmps.size := by rw [hI.tmps]; exact hdf.1 d hd
        simpa [Act.put, hd, Array.getD_eq_getD_getElem?, hdn] using hrep
    · have hdt : o.dst ≠ some t := hno i o ((hL' i).2 (.inr rfl)) hil
      have hrt := (hr2 t q ht (fun j oj hj hjl => hno j oj ((hL' j).2 (.inl hj)) hjl)).mono hR.rk hle'
      cases hdo : o.dst with
      | none => simpa [Act.put, hdo] using hrt
      | some d' =>
        have hdd : d' ≠ t := fun e => hdt (by rw [hdo, e])
        simpa [Act.put, hdo, Array.getD_eq_getD_getElem?, Array.getElem?_setIfInBounds_ne hdd] using hrt
  have hla : loudAt l i = loudOp o := by simp [loudAt, hil]
  have hcnt := cnt_set (l := l) hlt hlen hif
  rw [hla] at hcnt
  -- the heap at this step
  have hlo : loCount l i ≤ cnt l listed := by
    rw [loCount_eq]
    refine countP_le _ _ _ fun j hj hb => ?_
    simp only [Bool.and_eq_true] at hb ⊢
    exact ⟨hb.1, hbefi j hb.2 (Nat.ne_of_lt (ho.irr i j hb.2))⟩
  have hhi : cnt l listed ≤ hiCount l i := by
    rw [hiCount_eq]
    refine countP_le _ _ _ fun j hj hb => ?_
    simp only [Bool.and_eq_true, Bool.not_eq_true'] at hb ⊢
    refine ⟨hb.1, ?_⟩
    cases hbb : befB (bef l []) i j with
    | false => rfl
    | true => rw [hbefo j hbb] at hb; cases hb.2
  unfold wpOp
  simp only [hio]
  cases hg : o.guard with
  | none =>
    have hw : Region.wanted o (yielded l.toArray a.tmps) = true := by simp [Region.wanted, hg]
    rw [if_pos hw]
    refine .inl ?_
    have h2 := hdf.2
    rw [hg] at h2
    simp only at h2
    cases hlo' : loudOp o with
    | true =>
      rw [hlo'] at h2 hcnt
      simp only at h2
      have hn : cnt l listed = nLoud l i := by
        rw [nLoud_eq]
        apply List.countP_congr
        intro j hj
        have hjl : j < l.length := List.mem_range.1 hj
        have hjo : l[j]? = some l[j] := List.getElem?_eq_getElem hjl
        cases hla2 : loudAt l j with
        | false => simp
        | true =>
          have hlj : loudOp l[j] = true := by simpa [loudAt, hjo] using hla2
          simp only [Bool.true_and, decide_eq_true_eq]
          constructor
          · intro hlj2
            rcases Nat.lt_trichotomy j i with h | h | h
            · exact h
            · rw [h, hif] at hlj2; cases hlj2
            · have := hbefo j (ho.loud i j o l[j] h hil hjo hlo' hlj)
              rw [this] at hlj2; cases hlj2
          · intro h
            exact hbefi j (ho.loud j i l[j] o h hjo hil hlj hlo') (by omega)
      refine h2 m w a _ _ (by rw [← hn]; exact hR) hev fun v m' w' h3 h4 h5 => fin v m' w' h3 ?_ h5
      rw [hcnt, hn]; simpa using h4
    | false =>
      rw [hlo'] at h2 hcnt
      simp only at h2
      refine h2 _ hlo hhi m w a _ _ hR hev fun v m' w' h3 h4 h5 => fin v m' w' h3 ?_ h5
      rw [hcnt]; simpa using h4
  | some jw =>
    obtain ⟨j, want⟩ := jw
    have h2 := hdf.2
    rw [hg] at h2
    simp only at h2
    obtain ⟨b, oj, hvj, hjl, hjd, h3, h4⟩ := h2
    obtain ⟨g1, g2, g3⟩ := ho.guard i j o want hil hg
    have hlj := hbefi j g1 (by omega)
    obtain ⟨dj, hdj⟩ := Option.isSome_iff_exists.1 hjd
    have hrj := hr1 j oj dj _ hlj hjl hdj hvj
    have he : a.tmps.getD dj undef = .bool b := rep_v hrj
    have hdn : dj < a.tmps.size := by
      rcases Nat.lt_or_ge dj a.tmps.size with h | h
      · exact h
      · rw [Array.getD_eq_getD_getElem?, Array.getElem?_eq_none h] at he; simp [undef] at he
    have hy : yielded l.toArray a.tmps j = some b := by
      have : a.tmps[dj]? = some (.bool b) := by
        rw [Array.getD_eq_getD_getElem?, Array.getElem?_eq_getElem hdn] at he
        rw [Array.getElem?_eq_getElem hdn]
        simpa using he
      simp [yielded, hjl, hdj, this]
    rw [g3] at hcnt
    by_cases e : b = want
    · have hw : Region.wanted o (yielded l.toArray a.tmps) = true := by simp [Region.wanted, hg, hy, e]
      rw [if_pos hw]
      refine .inl (h3 e _ hlo hhi m w a _ _ hR hev fun v m' w' h5 h6 h7 => fin v m' w' h5 ?_ h7)
      rw [hcnt]; simpa using h6
    · have hw : Region.wanted o (yielded l.toArray a.tmps) = false := by simp [Region.wanted, hg, hy, e]
      rw [hw, if_neg (by simp)]
      have hpu := h4 e
      subst hpu
      refine fin undef m w (Le.refl m w) ?_ (.v _ rfl)
      rw [hcnt]; simpa using hR

theorem inv_all (ho : DrawOk l) (hv : vals.length = l.length) (hf : ∀ (i : Nat) (o : Oper) (p : PV), l[i]? = some o → vals[i]? = some p → DF P n l vals Hs E0 i o p) {Q : Exit → Act → World → Prop}
    (hQ : ∀ listed a w, Inv n l vals Hs E0 m0 w0 listed a w → (∀ i, i < l.length → listed.getD i false = true) → Q .normal a w) :
    ∀ (fuel : Nat) (listed : Array Bool) (a : Act) (w : World), Inv n l vals Hs E0 m0 w0 listed a w → ((List.range l.length).countP fun i => !listed.getD i false) ≤ fuel → wpAny P .any l.toArray Q fuel listed a w
  | 0, listed, a, w, hI, hc => by
    have hall : ∀ i, i < l.length → listed.getD i false = true := fun i hi => by
      have := List.countP_eq_zero.1 (Nat.le_zero.1 hc) i (List.mem_range.2 hi)
      simpa using this
    refine ⟨?_, hQ listed a w hI hall⟩
    cases hr : Region.ready .any l.toArray listed with
    | nil => rfl
    | cons i r =>
      have hm : i ∈ Region.ready .any l.toArray listed := by rw [hr]; simp
      obtain ⟨h1, o, h2, _⟩ := mem_ready.1 hm
      have hlt : i < l.length := by simpa using (Array.getElem?_eq_some_iff.1 h2).1
      have := hall i hlt
      rw [getD_both' h1] at this; cases this
  | fuel + 1, listed, a, w, hI, hc => by
    refine ⟨fun hr => hQ listed a w hI (all_listed ho hI.size hr), fun i hi => ?_⟩
    refine inv_step ho hv hf hI hi fun a' w' hI' => inv_all ho hv hf hQ fuel _ a' w' hI' ?_
    obtain ⟨h1, o, h2, _⟩ := mem_ready.1 hi
    have hlt : i < l.length := by simpa using (Array.getElem?_eq_some_iff.1 h2).1
    have hif := getD_both' h1
    have hlen := hI.size
    have hget : ∀ j, (listed.setIfInBounds i true).getD j false = (listed.getD j false || decide (j = i)) := fun j => by
      by_cases e : i = j
      · subst e; simp [Array.getD_eq_getD_getElem?, hlen, hlt]
      · rw [getD_set_ne false e]; simp [Ne.symm e]
    have key : ∀ (r : List Nat), r.Nodup → i ∈ r → (r.countP fun j => !(listed.setIfInBounds i true).getD j false) + 1 = r.countP fun j => !listed.getD j false := by
      intro r
      induction r with
      | nil => intro _ h; cases h
      | cons x r ih =>
        intro hnd hmem
        rw [List.nodup_cons] at hnd
        rw [List.countP_cons, List.countP_cons]
        by_cases e : x = i
        · subst e
          have hrest : (r.countP fun j => !(listed.setIfInBounds x true).getD j false) = r.countP fun j => !listed.getD j false := by
            apply List.countP_congr
            intro j hj
            have : j ≠ x := fun e => hnd.1 (e ▸ hj)
            rw [hget]; simp [this]
          rw [hrest, hget, hif]
          simp
        · have hm : i ∈ r := by
            rcases List.mem_cons.1 hmem with h | h
            · exact absurd h.symm e
            · exact h
          have := ih hnd.2 hm
          have e2 : (!(listed.getD x false || decide (x = i))) = !listed.getD x false := by simp [e]
          rw [hget, e2]
          omega
    have := key _ List.nodup_range (List.mem_range.2 hlt)
    omega

/-- THE LAW: a region that draws its order. -/
theorem wpA_draw {Q : QA} {id : Nat} (hm : P.follows .mixedOrders = true) (hB : drawB l = true) (hv : vals.length = l.length) (hf : ∀ (i : Nat) (o : Oper) (p : PV), l[i]? = some o → vals[i]? = some p → DF P n l vals Hs E0 i o p)
    (k : Q .normal (envOf l vals E0) (Hs (nLoud l l.length))) : wpA P n (.region id l.toArray true) Q E0 (Hs 0) := by
  rintro m1 w1 a w ⟨h1, h2, m, h3, h4, h5⟩
  have ho := drawOk hB
  have h4' := h4.drew
  refine wp_region_any hm ?_
  have hcnt0 : cnt l (Array.replicate l.length false) = 0 := by
    unfold cnt
    rw [List.countP_eq_zero]
    intro i _
    rw [rep_getD]
    simp
  refine inv_all (Hs := Hs) (E0 := E0) (m0 := m1) (w0 := w1) ho hv hf (fun listed a' w' hI hall => ?_) _ _ a w.drew ⟨by simp, fun i o hi hl => ?_, h1, h2, m, h3.trans h4'.2, by simpa [hcnt0] using h4'.1, fun j o d p hl => ?_, fun t p ht _ => (h5 t p ht).mono h4.rk h4'.2⟩ ?_
  · obtain ⟨m', g1, g2, g3, g4⟩ := hI.rel
    refine ⟨_, _, k, hI.tmps, hI.defers, m', g1, ?_, fun t p ht => ?_⟩
    · have : cnt l listed = nLoud l l.length := by
        rw [nLoud_eq]
        apply List.countP_congr
        intro j hj
        have hjl := List.mem_range.1 hj
        simp [hall j hjl, hjl]
      rw [← this]; exact g2
    · rcases envOf_get l vals E0 t p ht with ⟨j, oj, e1, e2, e3, e4⟩ | ⟨e1, e2⟩
      · exact g3 j oj t p (hall j (by omega)) e2 e3 e4
      · exact g4 t p e1 fun j oj _ hjl => e2 j oj (by have := (List.getElem?_eq_some_iff.1 hjl).1; omega) hjl
  · rw [rep_getD] at hl; cases hl
  · rw [rep_getD] at hl; cases hl
  · simp only [List.size_toArray]
    refine Nat.le_trans List.countP_le_length ?_
    simp

end
end Go.Th
