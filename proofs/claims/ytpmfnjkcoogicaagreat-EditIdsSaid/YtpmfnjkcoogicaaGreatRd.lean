/- What lies in memory as an argument, as data of the mind: printed by mkrd.py. -/
import Derived.Test.YtpmfnjkcoogicaaGreatFr
import Derived.Test.YtpmfnjkcoogicaaGreatDa
namespace Go.Proofs.YtpmfnjkcoogicaaGreat
open Go.ChangeShapes Go.WideShapes Go.ChangeAt Go.RowKit Go.Th
set_option linter.unusedVariables false
set_option maxRecDepth 20000

def CRo (m : Mp) (w : World) (o : Nat) (ps : List PV) (cs : List Value) : Prop := ∀ (j : Nat) (c : PV), ps[j]? = some c → ∃ v, cs[o + j]? = some v ∧ Rep m w c v
theorem CRo_nil {m : Mp} {w : World} {o : Nat} {cs : List Value} : CRo m w o [] cs := fun j c hj => by simp at hj
theorem CRo_app {m : Mp} {w : World} {o : Nat} {ps qs : List PV} {cs : List Value} (h : CRo m w o ps cs) (k : CRo m w (o + ps.length) qs cs) : CRo m w o (ps ++ qs) cs := fun j c hj => by
  rcases Nat.lt_or_ge j ps.length with hlt | hge
  · rw [List.getElem?_append_left hlt] at hj; exact h j c hj
  · rw [List.getElem?_append_right hge] at hj
    obtain ⟨v, h1, h2⟩ := k _ c hj
    refine ⟨v, ?_, h2⟩
    rw [← h1]; congr 1; omega
theorem CRo_of {m : Mp} {w : World} {o s : Nat} {ps : List PV} {cs : List Value} (h : CR m w ps ((cs.drop o).take s)) : CRo m w o ps cs := fun j c hj => by
  obtain ⟨v, h1, h2⟩ := h.2 j c hj
  rw [List.getElem?_take] at h1
  split at h1
  · rw [List.getElem?_drop] at h1; exact ⟨v, h1, h2⟩
  · cases h1
theorem CR_fin {m : Mp} {w : World} {ps : List PV} {cs : List Value} (hl : cs.length = ps.length) (h : CRo m w 0 ps cs) : CR m w ps cs := ⟨hl, fun j c hj => by
  obtain ⟨v, h1, h2⟩ := h j c hj
  exact ⟨v, by simpa using h1, h2⟩⟩

section
variable {H : Type} {tok : TypeId × Value → H} {w : World} {base : Nat} {spare : Nat → Bool} {held : Bool} {fuel : Nat} {cs : List Value} {x : DataW H × List MemPlace}

theorem rd_row {α : Type} {enc : α → List PV} {sz : Nat} (henc : ∀ x, (enc x).length = sz) (hsz : 0 < sz) {t e : TypeId} (ht : Tryz.prog.underlying t = some (.slice e)) (hC : Tryz.prog.cellsOf e = sz)
    (h : DataW.trod tok Tryz.prog w base spare held fuel t cs = some x)
    (build : ∀ n cs' y, n < fuel → DataW.trod tok Tryz.prog w base spare held n e cs' = some y → ∃ a : α, CR (mW w) w (enc a) cs') : ∃ l : List α, CR (mW w) w [rowP enc sz l] cs := by
  have one : ∀ (p : PV) (v : Value), Rep (mW w) w p v → CR (mW w) w [p] [v] := fun p v hr => ⟨rfl, fun j c hj => by
    cases j with
    | zero => simp at hj; subst hj; exact ⟨v, rfl, hr⟩
    | succ j => simp at hj⟩
  rcases DataW.trod_slice ht h with ⟨rfl, _⟩ | ⟨a, len, cap, elems, rest, n, rfl, rfl, _, _, hl, hm, hlen, hel, _, _⟩
  · exact ⟨[], one _ _ .trn⟩
  · obtain ⟨l, hll, hr⟩ := rep_row (w := w) (a := a) henc hsz hl hm (fun i hil => by
      have h1 := hel i hil
      rw [hC] at h1
      obtain ⟨y, hy⟩ : ∃ y, elems[i]? = some y := ⟨_, List.getElem?_eq_getElem (by omega)⟩
      rw [hy] at h1
      obtain ⟨cs', hc, ht'⟩ := Option.bind_eq_some_iff.1 h1
      obtain ⟨_, hcl, hat⟩ := World.cells?_some hc
      obtain ⟨b, hb⟩ := build n cs' y (Nat.lt_succ_self n) ht'
      refine ⟨b, fun j c hj => ?_⟩
      obtain ⟨v, hv, hrv⟩ := hb.2 j c hj
      have hjs : j < sz := by rw [← henc b]; exact (List.getElem?_eq_some_iff.1 hj).1
      refine ⟨v, ?_, hrv⟩
      have := hat j hjs
      rw [Go.Deep.add_add] at this
      rw [this]; exact hv)
    subst hll
    exact ⟨l, one _ _ hr⟩

theorem rd_int (h : DataW.trod tok Tryz.prog w base spare held fuel 3 cs = some x) : ∃ n, CR (mW w) w [I n] cs := by
  obtain ⟨n, rfl, _, _⟩ := DataW.trod_int Tryz.underlying3 h
  exact ⟨n, rfl, fun j c hj => by
    cases j with
    | zero => simp at hj; subst hj; exact ⟨_, rfl, .v _ rfl⟩
    | succ j => simp at hj⟩
theorem rd_bool (h : DataW.trod tok Tryz.prog w base spare held fuel 4 cs = some x) : ∃ b, CR (mW w) w [B b] cs := by
  obtain ⟨n, rfl, _⟩ := DataW.trod_bool Tryz.underlying4 h
  exact ⟨n, rfl, fun j c hj => by
    cases j with
    | zero => simp at hj; subst hj; exact ⟨_, rfl, .v _ rfl⟩
    | succ j => simp at hj⟩
theorem rd_str (h : DataW.trod tok Tryz.prog w base spare held fuel 9 cs = some x) : ∃ s, CR (mW w) w [S s] cs := by
  obtain ⟨n, rfl, _⟩ := DataW.trod_string Tryz.underlying9 h
  exact ⟨n, rfl, fun j c hj => by
    cases j with
    | zero => simp at hj; subst hj; exact ⟨_, rfl, .v _ rfl⟩
    | succ j => simp at hj⟩

theorem rd_Prp (h : DataW.trod tok Tryz.prog w base spare held fuel 123 cs = some x) : ∃ a, CR (mW w) w (encPrp a) cs := by
  obtain ⟨xs, n, rfl, _, hl, hxs, hf⟩ := DataW.trod_struct Tryz.underlying123 h
  have hl : cs.length = 2 := hl.trans (by kernel_rfl)
  have hxs : xs.length = 2 := hxs
  obtain ⟨a0, e0⟩ := rd_int ((hf 0 _ rfl).trans (List.getElem?_eq_getElem (by omega)))
  obtain ⟨a1, e1⟩ := rd_int ((hf 1 _ rfl).trans (List.getElem?_eq_getElem (by omega)))
  refine ⟨⟨a0, a1⟩, CR_fin hl (by exact CRo_app (CRo_of e0) (CRo_app (CRo_of e1) (CRo_nil)))⟩
theorem rd_Dl (h : DataW.trod tok Tryz.prog w base spare held fuel 126 cs = some x) : ∃ a, CR (mW w) w (encDl a) cs := by
  obtain ⟨xs, n, rfl, _, hl, hxs, hf⟩ := DataW.trod_struct Tryz.underlying126 h
  have hl : cs.length = 2 := hl.trans (by kernel_rfl)
  have hxs : xs.length = 2 := hxs
  obtain ⟨a0, e0⟩ := rd_int ((hf 0 _ rfl).trans (List.getElem?_eq_getElem (by omega)))
  obtain ⟨a1, e1⟩ := rd_int ((hf 1 _ rfl).trans (List.getElem?_eq_getElem (by omega)))
  refine ⟨⟨a0, a1⟩, CR_fin hl (by exact CRo_app (CRo_of e0) (CRo_app (CRo_of e1) (CRo_nil)))⟩
theorem rd_Lyr (h : DataW.trod tok Tryz.prog w base spare held fuel 129 cs = some x) : ∃ a, CR (mW w) w (encLyr a) cs := by
  obtain ⟨xs, n, rfl, _, hl, hxs, hf⟩ := DataW.trod_struct Tryz.underlying129 h
  have hl : cs.length = 4 := hl.trans (by kernel_rfl)
  have hxs : xs.length = 4 := hxs
  obtain ⟨a0, e0⟩ := rd_int ((hf 0 _ rfl).trans (List.getElem?_eq_getElem (by omega)))
  obtain ⟨a1, e1⟩ := rd_int ((hf 1 _ rfl).trans (List.getElem?_eq_getElem (by omega)))
  obtain ⟨a2, e2⟩ := rd_int ((hf 2 _ rfl).trans (List.getElem?_eq_getElem (by omega)))
  obtain ⟨a3, e3⟩ := rd_bool ((hf 3 _ rfl).trans (List.getElem?_eq_getElem (by omega)))
  refine ⟨⟨a0, a1, a2, a3⟩, CR_fin hl (by exact CRo_app (CRo_of e0) (CRo_app (CRo_of e1) (CRo_app (CRo_of e2) (CRo_app (CRo_of e3) (CRo_nil)))))⟩
theorem prp_len2 (x : Prp) : (encPrp x).length = 2 := rfl
theorem dl_len2 (x : Dl) : (encDl x).length = 2 := rfl
theorem lyr_len2 (x : Lyr) : (encLyr x).length = 4 := rfl
theorem rd_Prps (h : DataW.trod tok Tryz.prog w base spare held fuel 35 cs = some x) : ∃ l, CR (mW w) w [rowP encPrp 2 l] cs :=
  rd_row prp_len2 (by omega) Tryz.underlying35 (by kernel_rfl) h fun n cs' y _ hy => rd_Prp hy
theorem rd_Dls (h : DataW.trod tok Tryz.prog w base spare held fuel 36 cs = some x) : ∃ l, CR (mW w) w [rowP encDl 2 l] cs :=
  rd_row dl_len2 (by omega) Tryz.underlying36 (by kernel_rfl) h fun n cs' y _ hy => rd_Dl hy
theorem rd_Lyrs (h : DataW.trod tok Tryz.prog w base spare held fuel 37 cs = some x) : ∃ l, CR (mW w) w [rowP encLyr 4 l] cs :=
  rd_row lyr_len2 (by omega) Tryz.underlying37 (by kernel_rfl) h fun n cs' y _ hy => rd_Lyr hy
theorem rd_marks (h : DataW.trod tok Tryz.prog w base spare held fuel 39 cs = some x) : ∃ (i m : Int) (d : List Dl) (l : List Lyr), CR (mW w) w [I i, I m, delsP d, lyrsP l] cs := by
  obtain ⟨xs, n, rfl, _, hl, hxs, hf⟩ := DataW.trod_struct Tryz.underlying39 h
  have hl : cs.length = 4 := hl.trans (by kernel_rfl)
  have hxs : xs.length = 4 := hxs
  obtain ⟨a0, e0⟩ := rd_int ((hf 0 _ rfl).trans (List.getElem?_eq_getElem (by omega)))
  obtain ⟨a1, e1⟩ := rd_int ((hf 1 _ rfl).trans (List.getElem?_eq_getElem (by omega)))
  obtain ⟨a2, e2⟩ := rd_Dls ((hf 2 _ rfl).trans (List.getElem?_eq_getElem (by omega)))
  obtain ⟨a3, e3⟩ := rd_Lyrs ((hf 3 _ rfl).trans (List.getElem?_eq_getElem (by omega)))
  refine ⟨a0, a1, a2, a3, CR_fin hl (by exact CRo_app (CRo_of e0) (CRo_app (CRo_of e1) (CRo_app (CRo_of e2) (CRo_app (CRo_of e3) (CRo_nil)))))⟩
theorem rd_head (h : DataW.trod tok Tryz.prog w base spare held fuel 41 cs = some x) : ∃ h, CR (mW w) w (encHead h) cs := by
  obtain ⟨xs, n, rfl, _, hl, hxs, hf⟩ := DataW.trod_struct Tryz.underlying41 h
  have hl : cs.length = 5 := hl.trans (by kernel_rfl)
  have hxs : xs.length = 2 := hxs
  obtain ⟨a0, e0⟩ := rd_Prps ((hf 0 _ rfl).trans (List.getElem?_eq_getElem (by omega)))
  obtain ⟨a1, a2, a3, a4, e1⟩ := rd_marks ((hf 1 _ rfl).trans (List.getElem?_eq_getElem (by omega)))
  refine ⟨⟨a0, a1, a2, a3, a4⟩, CR_fin hl (by exact CRo_app (CRo_of e0) (CRo_app (CRo_of e1) (CRo_nil)))⟩
theorem rd_Level (h : DataW.trod tok Tryz.prog w base spare held fuel 81 cs = some x) : ∃ a, CR (mW w) w (encLevel a) cs := by
  obtain ⟨xs, n, rfl, _, hl, hxs, hf⟩ := DataW.trod_struct Tryz.underlying81 h
  have hl : cs.length = 4 := hl.trans (by kernel_rfl)
  have hxs : xs.length = 4 := hxs
  obtain ⟨a0, e0⟩ := rd_int ((hf 0 _ rfl).trans (List.getElem?_eq_getElem (by omega)))
  obtain ⟨a1, e1⟩ := rd_int ((hf 1 _ rfl).trans (List.getElem?_eq_getElem (by omega)))
  obtain ⟨a2, e2⟩ := rd_str ((hf 2 _ rfl).trans (List.getElem?_eq_getElem (by omega)))
  obtain ⟨a3, e3⟩ := rd_int ((hf 3 _ rfl).trans (List.getElem?_eq_getElem (by omega)))
  refine ⟨⟨a0, a1, a2, a3⟩, CR_fin hl (by exact CRo_app (CRo_of e0) (CRo_app (CRo_of e1) (CRo_app (CRo_of e2) (CRo_app (CRo_of e3) (CRo_nil)))))⟩
theorem level_len2 (x : Level) : (encLevel x).length = 4 := rfl
theorem rd_Levels (h : DataW.trod tok Tryz.prog w base spare held fuel 76 cs = some x) : ∃ l, CR (mW w) w [rowP encLevel 4 l] cs :=
  rd_row level_len2 (by omega) Tryz.underlying76 (by kernel_rfl) h fun n cs' y _ hy => rd_Level hy
theorem rd_Lst (h : DataW.trod tok Tryz.prog w base spare held fuel 78 cs = some x) : ∃ a, CR (mW w) w (encLst a) cs := by
  obtain ⟨xs, n, rfl, _, hl, hxs, hf⟩ := DataW.trod_struct Tryz.underlying78 h
  have hl : cs.length = 2 := hl.trans (by kernel_rfl)
  have hxs : xs.length = 2 := hxs
  obtain ⟨a0, e0⟩ := rd_int ((hf 0 _ rfl).trans (List.getElem?_eq_getElem (by omega)))
  obtain ⟨a1, e1⟩ := rd_Levels ((hf 1 _ rfl).trans (List.getElem?_eq_getElem (by omega)))
  refine ⟨⟨a0, a1⟩, CR_fin hl (by exact CRo_app (CRo_of e0) (CRo_app (CRo_of e1) (CRo_nil)))⟩
theorem lst_len2 (x : Lst) : (encLst x).length = 2 := rfl
theorem rd_Lsts (h : DataW.trod tok Tryz.prog w base spare held fuel 26 cs = some x) : ∃ l, CR (mW w) w [rowP encLst 2 l] cs :=
  rd_row lst_len2 (by omega) Tryz.underlying26 (by kernel_rfl) h fun n cs' y _ hy => rd_Lst hy
theorem rd_Style (h : DataW.trod tok Tryz.prog w base spare held fuel 120 cs = some x) : ∃ a, CR (mW w) w (encStyle a) cs := by
  obtain ⟨xs, n, rfl, _, hl, hxs, hf⟩ := DataW.trod_struct Tryz.underlying120 h
  have hl : cs.length = 6 := hl.trans (by kernel_rfl)
  have hxs : xs.length = 6 := hxs
  obtain ⟨a0, e0⟩ := rd_int ((hf 0 _ rfl).trans (List.getElem?_eq_getElem (by omega)))
  obtain ⟨a1, e1⟩ := rd_int ((hf 1 _ rfl).trans (List.getElem?_eq_getElem (by omega)))
  obtain ⟨a2, e2⟩ := rd_str ((hf 2 _ rfl).trans (List.getElem?_eq_getElem (by omega)))
  obtain ⟨a3, e3⟩ := rd_int ((hf 3 _ rfl).trans (List.getElem?_eq_getElem (by omega)))
  obtain ⟨a4, e4⟩ := rd_int ((hf 4 _ rfl).trans (List.getElem?_eq_getElem (by omega)))
  obtain ⟨a5, e5⟩ := rd_Prps ((hf 5 _ rfl).trans (List.getElem?_eq_getElem (by omega)))
  refine ⟨⟨a0, a1, a2, a3, a4, a5⟩, CR_fin hl (by exact CRo_app (CRo_of e0) (CRo_app (CRo_of e1) (CRo_app (CRo_of e2) (CRo_app (CRo_of e3) (CRo_app (CRo_of e4) (CRo_app (CRo_of e5) (CRo_nil)))))))⟩
theorem style_len2 (x : Style) : (encStyle x).length = 6 := rfl
theorem rd_Styles (h : DataW.trod tok Tryz.prog w base spare held fuel 25 cs = some x) : ∃ l, CR (mW w) w [rowP encStyle 6 l] cs :=
  rd_row style_len2 (by omega) Tryz.underlying25 (by kernel_rfl) h fun n cs' y _ hy => rd_Style hy
theorem rd_Comment (h : DataW.trod tok Tryz.prog w base spare held fuel 91 cs = some x) : ∃ a, CR (mW w) w (encComment a) cs := by
  obtain ⟨xs, n, rfl, _, hl, hxs, hf⟩ := DataW.trod_struct Tryz.underlying91 h
  have hl : cs.length = 6 := hl.trans (by kernel_rfl)
  have hxs : xs.length = 6 := hxs
  obtain ⟨a0, e0⟩ := rd_int ((hf 0 _ rfl).trans (List.getElem?_eq_getElem (by omega)))
  obtain ⟨a1, e1⟩ := rd_int ((hf 1 _ rfl).trans (List.getElem?_eq_getElem (by omega)))
  obtain ⟨a2, e2⟩ := rd_str ((hf 2 _ rfl).trans (List.getElem?_eq_getElem (by omega)))
  obtain ⟨a3, e3⟩ := rd_int ((hf 3 _ rfl).trans (List.getElem?_eq_getElem (by omega)))
  obtain ⟨a4, e4⟩ := rd_str ((hf 4 _ rfl).trans (List.getElem?_eq_getElem (by omega)))
  obtain ⟨a5, e5⟩ := rd_bool ((hf 5 _ rfl).trans (List.getElem?_eq_getElem (by omega)))
  refine ⟨⟨a0, a1, a2, a3, a4, a5⟩, CR_fin hl (by exact CRo_app (CRo_of e0) (CRo_app (CRo_of e1) (CRo_app (CRo_of e2) (CRo_app (CRo_of e3) (CRo_app (CRo_of e4) (CRo_app (CRo_of e5) (CRo_nil)))))))⟩
theorem comment_len2 (x : Comment) : (encComment x).length = 6 := rfl
theorem rd_Comments (h : DataW.trod tok Tryz.prog w base spare held fuel 27 cs = some x) : ∃ l, CR (mW w) w [rowP encComment 6 l] cs :=
  rd_row comment_len2 (by omega) Tryz.underlying27 (by kernel_rfl) h fun n cs' y _ hy => rd_Comment hy
theorem rd_Var (h : DataW.trod tok Tryz.prog w base spare held fuel 94 cs = some x) : ∃ a, CR (mW w) w (encVar a) cs := by
  obtain ⟨xs, n, rfl, _, hl, hxs, hf⟩ := DataW.trod_struct Tryz.underlying94 h
  have hl : cs.length = 2 := hl.trans (by kernel_rfl)
  have hxs : xs.length = 2 := hxs
  obtain ⟨a0, e0⟩ := rd_str ((hf 0 _ rfl).trans (List.getElem?_eq_getElem (by omega)))
  obtain ⟨a1, e1⟩ := rd_str ((hf 1 _ rfl).trans (List.getElem?_eq_getElem (by omega)))
  refine ⟨⟨a0, a1⟩, CR_fin hl (by exact CRo_app (CRo_of e0) (CRo_app (CRo_of e1) (CRo_nil)))⟩
theorem var_len2 (x : Var) : (encVar x).length = 2 := rfl
theorem rd_Vars (h : DataW.trod tok Tryz.prog w base spare held fuel 28 cs = some x) : ∃ l, CR (mW w) w [rowP encVar 2 l] cs :=
  rd_row var_len2 (by omega) Tryz.underlying28 (by kernel_rfl) h fun n cs' y _ hy => rd_Var hy
theorem rd_sets (h : DataW.trod tok Tryz.prog w base spare held fuel 30 cs = some x) : ∃ s, CR (mW w) w (encSets s) cs := by
  obtain ⟨xs, n, rfl, _, hl, hxs, hf⟩ := DataW.trod_struct Tryz.underlying30 h
  have hl : cs.length = 4 := hl.trans (by kernel_rfl)
  have hxs : xs.length = 4 := hxs
  obtain ⟨a0, e0⟩ := rd_Styles ((hf 0 _ rfl).trans (List.getElem?_eq_getElem (by omega)))
  obtain ⟨a1, e1⟩ := rd_Lsts ((hf 1 _ rfl).trans (List.getElem?_eq_getElem (by omega)))
  obtain ⟨a2, e2⟩ := rd_Comments ((hf 2 _ rfl).trans (List.getElem?_eq_getElem (by omega)))
  obtain ⟨a3, e3⟩ := rd_Vars ((hf 3 _ rfl).trans (List.getElem?_eq_getElem (by omega)))
  refine ⟨⟨a0, a1, a2, a3⟩, CR_fin hl (by exact CRo_app (CRo_of e0) (CRo_app (CRo_of e1) (CRo_app (CRo_of e2) (CRo_app (CRo_of e3) (CRo_nil)))))⟩
end

section
variable {H : Type} {tok : TypeId × Value → H} {w : World} {base : Nat} {spare : Nat → Bool} {held : Bool}
/-- Items are read, where slices of items are that take less fuel. -/
abbrev RdI (tok : TypeId × Value → H) (w : World) (base : Nat) (spare : Nat → Bool) (held : Bool) (fuel : Nat) : Prop := ∀ (cs : List Value) (x : DataW H × List MemPlace), DataW.trod tok Tryz.prog w base spare held fuel 22 cs = some x → ∃ l, CR (mW w) w [itemsP l] cs

theorem rd_cell {fuel : Nat} {cs : List Value} {x : DataW H × List MemPlace} (IH : ∀ m, m < fuel → RdI tok w base spare held m) (h : DataW.trod tok Tryz.prog w base spare held fuel 59 cs = some x) : ∃ a, CR (mW w) w (encCell a) cs := by
  obtain ⟨xs, n, rfl, _, hl, hxs, hf⟩ := DataW.trod_struct Tryz.underlying59 h
  have hl : cs.length = 7 := hl.trans (by kernel_rfl)
  have hxs : xs.length = 3 := hxs
  obtain ⟨a0, e0⟩ := rd_int ((hf 0 _ rfl).trans (List.getElem?_eq_getElem (by omega)))
  obtain ⟨a1, e1⟩ := rd_head ((hf 1 _ rfl).trans (List.getElem?_eq_getElem (by omega)))
  obtain ⟨a2, e2⟩ := IH n (by omega) _ _ ((hf 2 _ rfl).trans (List.getElem?_eq_getElem (by omega)))
  refine ⟨.mk a0 a1 a2, CR_fin (hl.trans ((encCell_len _).symm)) (by rw [encCell_mk]; exact CRo_app (CRo_of e0) (CRo_app (CRo_of e1) (CRo_app (CRo_of e2) (CRo_nil))))⟩
theorem rd_cells {fuel : Nat} {cs : List Value} {x : DataW H × List MemPlace} (IH : ∀ m, m < fuel → RdI tok w base spare held m) (h : DataW.trod tok Tryz.prog w base spare held fuel 24 cs = some x) : ∃ l, CR (mW w) w [cellsP l] cs :=
  rd_row encCell_len (by omega) Tryz.underlying24 (by kernel_rfl) h fun n cs' y hn hy => rd_cell (fun m hm => IH m (by omega)) hy
theorem rd_row_ {fuel : Nat} {cs : List Value} {x : DataW H × List MemPlace} (IH : ∀ m, m < fuel → RdI tok w base spare held m) (h : DataW.trod tok Tryz.prog w base spare held fuel 43 cs = some x) : ∃ a, CR (mW w) w (encRow a) cs := by
  obtain ⟨xs, n, rfl, _, hl, hxs, hf⟩ := DataW.trod_struct Tryz.underlying43 h
  have hl : cs.length = 6 := hl.trans (by kernel_rfl)
  have hxs : xs.length = 2 := hxs
  obtain ⟨a0, e0⟩ := rd_head ((hf 0 _ rfl).trans (List.getElem?_eq_getElem (by omega)))
  obtain ⟨a1, e1⟩ := rd_cells (fun m hm => IH m (by omega)) ((hf 1 _ rfl).trans (List.getElem?_eq_getElem (by omega)))
  refine ⟨.mk a0 a1, CR_fin (hl.trans ((encRow_len _).symm)) (by rw [encRow_mk]; exact CRo_app (CRo_of e0) (CRo_app (CRo_of e1) (CRo_nil)))⟩
theorem rd_rows {fuel : Nat} {cs : List Value} {x : DataW H × List MemPlace} (IH : ∀ m, m < fuel → RdI tok w base spare held m) (h : DataW.trod tok Tryz.prog w base spare held fuel 23 cs = some x) : ∃ l, CR (mW w) w [rowsP l] cs :=
  rd_row encRow_len (by omega) Tryz.underlying23 (by kernel_rfl) h fun n cs' y hn hy => rd_row_ (fun m hm => IH m (by omega)) hy
theorem rd_item {fuel : Nat} {cs : List Value} {x : DataW H × List MemPlace} (IH : ∀ m, m < fuel → RdI tok w base spare held m) (h : DataW.trod tok Tryz.prog w base spare held fuel 45 cs = some x) : ∃ a, CR (mW w) w (encItem a) cs := by
  obtain ⟨xs, n, rfl, _, hl, hxs, hf⟩ := DataW.trod_struct Tryz.underlying45 h
  have hl : cs.length = 11 := hl.trans (by kernel_rfl)
  have hxs : xs.length = 7 := hxs
  obtain ⟨a0, e0⟩ := rd_int ((hf 0 _ rfl).trans (List.getElem?_eq_getElem (by omega)))
  obtain ⟨a1, e1⟩ := rd_int ((hf 1 _ rfl).trans (List.getElem?_eq_getElem (by omega)))
  obtain ⟨a2, e2⟩ := rd_int ((hf 2 _ rfl).trans (List.getElem?_eq_getElem (by omega)))
  obtain ⟨a3, e3⟩ := rd_str ((hf 3 _ rfl).trans (List.getElem?_eq_getElem (by omega)))
  obtain ⟨a4, e4⟩ := rd_head ((hf 4 _ rfl).trans (List.getElem?_eq_getElem (by omega)))
  obtain ⟨a5, e5⟩ := IH n (by omega) _ _ ((hf 5 _ rfl).trans (List.getElem?_eq_getElem (by omega)))
  obtain ⟨a6, e6⟩ := rd_rows (fun m hm => IH m (by omega)) ((hf 6 _ rfl).trans (List.getElem?_eq_getElem (by omega)))
  refine ⟨.mk a0 a1 a2 a3 a4 a5 a6, CR_fin (hl.trans ((encItem_len _).symm)) (by rw [encItem_mk]; exact CRo_app (CRo_of e0) (CRo_app (CRo_of e1) (CRo_app (CRo_of e2) (CRo_app (CRo_of e3) (CRo_app (CRo_of e4) (CRo_app (CRo_of e5) (CRo_app (CRo_of e6) (CRo_nil))))))))⟩
theorem rd_items : ∀ fuel, RdI tok w base spare held fuel := by
  intro fuel
  induction fuel using Nat.strongRecOn with
  | _ fuel ih =>
    intro cs x h
    exact rd_row encItem_len (by omega) Tryz.underlying22 (by kernel_rfl) h fun n cs' y hn hy => rd_item (fun m hm => ih m (by omega)) hy
variable {fuel : Nat} {cs : List Value} {x : DataW H × List MemPlace}
theorem rd_Rev (h : DataW.trod tok Tryz.prog w base spare held fuel 86 cs = some x) : ∃ a, CR (mW w) w (encRev a) cs := by
  obtain ⟨xs, n, rfl, _, hl, hxs, hf⟩ := DataW.trod_struct Tryz.underlying86 h
  have hl : cs.length = 3 := hl.trans (by kernel_rfl)
  have hxs : xs.length = 3 := hxs
  obtain ⟨a0, e0⟩ := rd_int ((hf 0 _ rfl).trans (List.getElem?_eq_getElem (by omega)))
  obtain ⟨a1, e1⟩ := rd_str ((hf 1 _ rfl).trans (List.getElem?_eq_getElem (by omega)))
  obtain ⟨a2, e2⟩ := rd_int ((hf 2 _ rfl).trans (List.getElem?_eq_getElem (by omega)))
  refine ⟨⟨a0, a1, a2⟩, CR_fin hl (by exact CRo_app (CRo_of e0) (CRo_app (CRo_of e1) (CRo_app (CRo_of e2) (CRo_nil))))⟩
theorem rev_len2 (x : Rev) : (encRev x).length = 3 := rfl
theorem rd_Revs (h : DataW.trod tok Tryz.prog w base spare held fuel 49 cs = some x) : ∃ l, CR (mW w) w [rowP encRev 3 l] cs :=
  rd_row rev_len2 (by omega) Tryz.underlying49 (by kernel_rfl) h fun n cs' y _ hy => rd_Rev hy
theorem rd_doc (h : DataW.trod tok Tryz.prog w base spare held fuel 51 cs = some x) : ∃ a, CR (mW w) w (encDoc a) cs := by
  obtain ⟨xs, n, rfl, _, hl, hxs, hf⟩ := DataW.trod_struct Tryz.underlying51 h
  have hl : cs.length = 11 := hl.trans (by kernel_rfl)
  have hxs : xs.length = 4 := hxs
  obtain ⟨a0, e0⟩ := rd_items _ _ _ ((hf 0 _ rfl).trans (List.getElem?_eq_getElem (by omega)))
  obtain ⟨a1, e1⟩ := rd_head ((hf 1 _ rfl).trans (List.getElem?_eq_getElem (by omega)))
  obtain ⟨a2, e2⟩ := rd_Revs ((hf 2 _ rfl).trans (List.getElem?_eq_getElem (by omega)))
  obtain ⟨a3, e3⟩ := rd_sets ((hf 3 _ rfl).trans (List.getElem?_eq_getElem (by omega)))
  refine ⟨⟨a0, a1, a2, a3⟩, CR_fin hl (by exact CRo_app (CRo_of e0) (CRo_app (CRo_of e1) (CRo_app (CRo_of e2) (CRo_app (CRo_of e3) (CRo_nil)))))⟩
theorem rd_edit (h : DataW.trod tok Tryz.prog w base spare held fuel 32 cs = some x) : ∃ a, CR (mW w) w (encEdit a) cs := by
  obtain ⟨xs, n, rfl, _, hl, hxs, hf⟩ := DataW.trod_struct Tryz.underlying32 h
  have hl : cs.length = 18 := hl.trans (by kernel_rfl)
  have hxs : xs.length = 15 := hxs
  obtain ⟨a0, e0⟩ := rd_int ((hf 0 _ rfl).trans (List.getElem?_eq_getElem (by omega)))
  obtain ⟨a1, e1⟩ := rd_int ((hf 1 _ rfl).trans (List.getElem?_eq_getElem (by omega)))
  obtain ⟨a2, e2⟩ := rd_int ((hf 2 _ rfl).trans (List.getElem?_eq_getElem (by omega)))
  obtain ⟨a3, e3⟩ := rd_int ((hf 3 _ rfl).trans (List.getElem?_eq_getElem (by omega)))
  obtain ⟨a4, e4⟩ := rd_int ((hf 4 _ rfl).trans (List.getElem?_eq_getElem (by omega)))
  obtain ⟨a5, e5⟩ := rd_int ((hf 5 _ rfl).trans (List.getElem?_eq_getElem (by omega)))
  obtain ⟨a6, e6⟩ := rd_int ((hf 6 _ rfl).trans (List.getElem?_eq_getElem (by omega)))
  obtain ⟨a7, e7⟩ := rd_int ((hf 7 _ rfl).trans (List.getElem?_eq_getElem (by omega)))
  obtain ⟨a8, e8⟩ := rd_int ((hf 8 _ rfl).trans (List.getElem?_eq_getElem (by omega)))
  obtain ⟨a9, e9⟩ := rd_int ((hf 9 _ rfl).trans (List.getElem?_eq_getElem (by omega)))
  obtain ⟨a10, e10⟩ := rd_bool ((hf 10 _ rfl).trans (List.getElem?_eq_getElem (by omega)))
  obtain ⟨a11, e11⟩ := rd_items _ _ _ ((hf 11 _ rfl).trans (List.getElem?_eq_getElem (by omega)))
  obtain ⟨a12, e12⟩ := rd_rows (fun m _ => rd_items m) ((hf 12 _ rfl).trans (List.getElem?_eq_getElem (by omega)))
  obtain ⟨a13, e13⟩ := rd_cells (fun m _ => rd_items m) ((hf 13 _ rfl).trans (List.getElem?_eq_getElem (by omega)))
  obtain ⟨a14, e14⟩ := rd_sets ((hf 14 _ rfl).trans (List.getElem?_eq_getElem (by omega)))
  refine ⟨⟨a0, a1, a2, a3, a4, a5, a6, a7, a8, a9, a10, a11, a12, a13, a14⟩, CR_fin hl (by exact CRo_app (CRo_of e0) (CRo_app (CRo_of e1) (CRo_app (CRo_of e2) (CRo_app (CRo_of e3) (CRo_app (CRo_of e4) (CRo_app (CRo_of e5) (CRo_app (CRo_of e6) (CRo_app (CRo_of e7) (CRo_app (CRo_of e8) (CRo_app (CRo_of e9) (CRo_app (CRo_of e10) (CRo_app (CRo_of e11) (CRo_app (CRo_of e12) (CRo_app (CRo_of e13) (CRo_app (CRo_of e14) (CRo_nil))))))))))))))))⟩
end
end Go.Proofs.YtpmfnjkcoogicaaGreat
