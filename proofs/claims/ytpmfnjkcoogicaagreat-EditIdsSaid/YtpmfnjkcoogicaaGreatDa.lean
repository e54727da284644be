/- Documents and edits as data of the mind, and how they lie in cells. -/
import Derived.Laws.StructEq
import Derived.Test.YtpmfnjkcoogicaaGreatThInst
import Derived.Test.YtpmfnjkcoogicaaGreatThC
namespace Go.Proofs.YtpmfnjkcoogicaaGreat
open Go.RowKit Go.Th
set_option linter.unusedVariables false

def I (n : Int) : PV := .v (.int .i64 n)
def B (b : Bool) : PV := .v (.bool b)
def S (b : ByteArray) : PV := .v (.string b)
theorem tree_I (n : Int) : Tree (I n) := Tree.v _
theorem tree_B (b : Bool) : Tree (B b) := Tree.v _
theorem tree_S (b : ByteArray) : Tree (S b) := Tree.v _

def rowP {α : Type} (enc : α → List PV) (sz : Nat) (l : List α) : PV := .tr (l.flatMap enc) l.length sz
theorem tree_rowP {α : Type} {enc : α → List PV} {sz : Nat} {l : List α} (h : ∀ x ∈ l, ∀ c ∈ enc x, Tree c) : Tree (rowP enc sz l) := Tree.tr fun c hc => by
  obtain ⟨x, hx, hc⟩ := List.mem_flatMap.1 hc
  exact h x hx c hc

structure Prp where
  key : Int
  val : Int
structure Dl where
  rev : Int
  move : Int
structure Lyr where
  rev : Int
  key : Int
  before : Int
  had : Bool
structure Head where
  props : List Prp
  ins : Int
  move : Int
  dels : List Dl
  lyrs : List Lyr
mutual
inductive Item where
  | mk (kind code id : Int) (text : ByteArray) (head : Head) (flow : List Item) (rows : List Row)
inductive Row where
  | mk (head : Head) (cells : List Cell)
inductive Cell where
  | mk (id : Int) (head : Head) (flow : List Item)
end
structure Style where
  id : Int
  kind : Int
  name : ByteArray
  base : Int
  next : Int
  props : List Prp
structure Level where
  format : Int
  start : Int
  template : ByteArray
  restart : Int
structure Lst where
  id : Int
  levels : List Level
structure Comment where
  id : Int
  parent : Int
  author : ByteArray
  time : Int
  text : ByteArray
  done : Bool
structure Var where
  name : ByteArray
  value : ByteArray
structure Rev where
  id : Int
  author : ByteArray
  time : Int
structure Sets where
  styles : List Style
  lists : List Lst
  comments : List Comment
  vars : List Var
structure Doc where
  flow : List Item
  fin : Head
  revs : List Rev
  sets : Sets
structure Edit where
  kind : Int
  flow : Int
  at_ : Int
  count : Int
  sub : Int
  to : Int
  toAt : Int
  fresh : Int
  key : Int
  value : Int
  clear : Bool
  items : List Item
  rows : List Row
  cells : List Cell
  sets : Sets

def encPrp (x : Prp) : List PV := [I x.key, I x.val]
def encDl (x : Dl) : List PV := [I x.rev, I x.move]
def encLyr (x : Lyr) : List PV := [I x.rev, I x.key, I x.before, B x.had]
def propsP (l : List Prp) : PV := rowP encPrp 2 l
def delsP (l : List Dl) : PV := rowP encDl 2 l
def lyrsP (l : List Lyr) : PV := rowP encLyr 4 l
def encHead (h : Head) : List PV := [propsP h.props, I h.ins, I h.move, delsP h.dels, lyrsP h.lyrs]
mutual
def encItem : Item → List PV
  | .mk k c i t h f r => [I k, I c, I i, S t, propsP h.props, I h.ins, I h.move, delsP h.dels, lyrsP h.lyrs, .tr (encItems f) f.length 11, .tr (encRows r) r.length 6]
def encItems : List Item → List PV
  | [] => []
  | x :: l => encItem x ++ encItems l
def encRow : Row → List PV
  | .mk h c => [propsP h.props, I h.ins, I h.move, delsP h.dels, lyrsP h.lyrs, .tr (encCells c) c.length 7]
def encRows : List Row → List PV
  | [] => []
  | x :: l => encRow x ++ encRows l
def encCell : Cell → List PV
  | .mk i h f => [I i, propsP h.props, I h.ins, I h.move, delsP h.dels, lyrsP h.lyrs, .tr (encItems f) f.length 11]
def encCells : List Cell → List PV
  | [] => []
  | x :: l => encCell x ++ encCells l
end
def itemsP (l : List Item) : PV := rowP encItem 11 l
def rowsP (l : List Row) : PV := rowP encRow 6 l
def cellsP (l : List Cell) : PV := rowP encCell 7 l
theorem encItems_eq : ∀ l, encItems l = l.flatMap encItem
  | [] => rfl
  | x :: l => by rw [encItems, encItems_eq l]; rfl
theorem encRows_eq : ∀ l, encRows l = l.flatMap encRow
  | [] => rfl
  | x :: l => by rw [encRows, encRows_eq l]; rfl
theorem encCells_eq : ∀ l, encCells l = l.flatMap encCell
  | [] => rfl
  | x :: l => by rw [encCells, encCells_eq l]; rfl
theorem encItem_mk (k c i : Int) (t : ByteArray) (h : Head) (f : List Item) (r : List Row) :
    encItem (.mk k c i t h f r) = [I k, I c, I i, S t, propsP h.props, I h.ins, I h.move, delsP h.dels, lyrsP h.lyrs, itemsP f, rowsP r] := by
  rw [encItem, encItems_eq, encRows_eq]; rfl
theorem encRow_mk (h : Head) (c : List Cell) : encRow (.mk h c) = [propsP h.props, I h.ins, I h.move, delsP h.dels, lyrsP h.lyrs, cellsP c] := by
  rw [encRow, encCells_eq]; rfl
theorem encCell_mk (i : Int) (h : Head) (f : List Item) : encCell (.mk i h f) = [I i, propsP h.props, I h.ins, I h.move, delsP h.dels, lyrsP h.lyrs, itemsP f] := by
  rw [encCell, encItems_eq]; rfl
theorem encItem_len (x : Item) : (encItem x).length = 11 := by cases x; rw [encItem_mk]; rfl
theorem encRow_len (x : Row) : (encRow x).length = 6 := by cases x; rw [encRow_mk]; rfl
theorem encCell_len (x : Cell) : (encCell x).length = 7 := by cases x; rw [encCell_mk]; rfl

def encStyle (x : Style) : List PV := [I x.id, I x.kind, S x.name, I x.base, I x.next, propsP x.props]
def encLevel (x : Level) : List PV := [I x.format, I x.start, S x.template, I x.restart]
def levelsP (l : List Level) : PV := rowP encLevel 4 l
def encLst (x : Lst) : List PV := [I x.id, levelsP x.levels]
def encComment (x : Comment) : List PV := [I x.id, I x.parent, S x.author, I x.time, S x.text, B x.done]
def encVar (x : Var) : List PV := [S x.name, S x.value]
def encRev (x : Rev) : List PV := [I x.id, S x.author, I x.time]
def stylesP (l : List Style) : PV := rowP encStyle 6 l
def listsP (l : List Lst) : PV := rowP encLst 2 l
def commentsP (l : List Comment) : PV := rowP encComment 6 l
def varsP (l : List Var) : PV := rowP encVar 2 l
def revsP (l : List Rev) : PV := rowP encRev 3 l
def encSets (s : Sets) : List PV := [stylesP s.styles, listsP s.lists, commentsP s.comments, varsP s.vars]
def encDoc (d : Doc) : List PV := [itemsP d.flow, propsP d.fin.props, I d.fin.ins, I d.fin.move, delsP d.fin.dels, lyrsP d.fin.lyrs, revsP d.revs, stylesP d.sets.styles, listsP d.sets.lists, commentsP d.sets.comments, varsP d.sets.vars]
def encEdit (e : Edit) : List PV := [I e.kind, I e.flow, I e.at_, I e.count, I e.sub, I e.to, I e.toAt, I e.fresh, I e.key, I e.value, B e.clear, itemsP e.items, rowsP e.rows, cellsP e.cells, stylesP e.sets.styles, listsP e.sets.lists, commentsP e.sets.comments, varsP e.sets.vars]

theorem trees_of {l : List PV} (h : ∀ c ∈ l, Tree c) : ∀ c ∈ l, Tree c := h
theorem tree_propsP (l : List Prp) : Tree (propsP l) := tree_rowP fun x _ => trees_cons (tree_I _) (trees_cons (tree_I _) trees_nil)
theorem tree_delsP (l : List Dl) : Tree (delsP l) := tree_rowP fun x _ => trees_cons (tree_I _) (trees_cons (tree_I _) trees_nil)
theorem tree_lyrsP (l : List Lyr) : Tree (lyrsP l) := tree_rowP fun x _ => trees_cons (tree_I _) (trees_cons (tree_I _) (trees_cons (tree_I _) (trees_cons (tree_B _) trees_nil)))
theorem tree_levelsP (l : List Level) : Tree (levelsP l) := tree_rowP fun x _ => trees_cons (tree_I _) (trees_cons (tree_I _) (trees_cons (tree_S _) (trees_cons (tree_I _) trees_nil)))
theorem tree_stylesP (l : List Style) : Tree (stylesP l) := tree_rowP fun x _ => trees_cons (tree_I _) (trees_cons (tree_I _) (trees_cons (tree_S _) (trees_cons (tree_I _) (trees_cons (tree_I _) (trees_cons (tree_propsP _) trees_nil)))))
theorem tree_listsP (l : List Lst) : Tree (listsP l) := tree_rowP fun x _ => trees_cons (tree_I _) (trees_cons (tree_levelsP _) trees_nil)
theorem tree_commentsP (l : List Comment) : Tree (commentsP l) := tree_rowP fun x _ => trees_cons (tree_I _) (trees_cons (tree_I _) (trees_cons (tree_S _) (trees_cons (tree_I _) (trees_cons (tree_S _) (trees_cons (tree_B _) trees_nil)))))
theorem tree_varsP (l : List Var) : Tree (varsP l) := tree_rowP fun x _ => trees_cons (tree_S _) (trees_cons (tree_S _) trees_nil)
theorem tree_revsP (l : List Rev) : Tree (revsP l) := tree_rowP fun x _ => trees_cons (tree_I _) (trees_cons (tree_S _) (trees_cons (tree_I _) trees_nil))
theorem trees_head (h : Head) : ∀ c ∈ encHead h, Tree c := trees_cons (tree_propsP _) (trees_cons (tree_I _) (trees_cons (tree_I _) (trees_cons (tree_delsP _) (trees_cons (tree_lyrsP _) trees_nil))))
mutual
theorem trees_item : ∀ x, ∀ c ∈ encItem x, Tree c
  | .mk k c i t h f r => by
    rw [encItem]
    exact trees_cons (tree_I _) (trees_cons (tree_I _) (trees_cons (tree_I _) (trees_cons (tree_S _) (trees_cons (tree_propsP _) (trees_cons (tree_I _) (trees_cons (tree_I _) (trees_cons (tree_delsP _) (trees_cons (tree_lyrsP _)
      (trees_cons (Tree.tr (trees_items f)) (trees_cons (Tree.tr (trees_rows r)) trees_nil))))))))))
theorem trees_items : ∀ l, ∀ c ∈ encItems l, Tree c
  | [] => fun c hc => by rw [encItems] at hc; cases hc
  | x :: l => fun c hc => by
    rw [encItems] at hc
    rcases List.mem_append.1 hc with h | h
    · exact trees_item x c h
    · exact trees_items l c h
theorem trees_row : ∀ x, ∀ c ∈ encRow x, Tree c
  | .mk h c => by
    rw [encRow]
    exact trees_cons (tree_propsP _) (trees_cons (tree_I _) (trees_cons (tree_I _) (trees_cons (tree_delsP _) (trees_cons (tree_lyrsP _) (trees_cons (Tree.tr (trees_cells c)) trees_nil)))))
theorem trees_rows : ∀ l, ∀ c ∈ encRows l, Tree c
  | [] => fun c hc => by rw [encRows] at hc; cases hc
  | x :: l => fun c hc => by
    rw [encRows] at hc
    rcases List.mem_append.1 hc with h | h
    · exact trees_row x c h
    · exact trees_rows l c h
theorem trees_cell : ∀ x, ∀ c ∈ encCell x, Tree c
  | .mk i h f => by
    rw [encCell]
    exact trees_cons (tree_I _) (trees_cons (tree_propsP _) (trees_cons (tree_I _) (trees_cons (tree_I _) (trees_cons (tree_delsP _) (trees_cons (tree_lyrsP _) (trees_cons (Tree.tr (trees_items f)) trees_nil))))))
theorem trees_cells : ∀ l, ∀ c ∈ encCells l, Tree c
  | [] => fun c hc => by rw [encCells] at hc; cases hc
  | x :: l => fun c hc => by
    rw [encCells] at hc
    rcases List.mem_append.1 hc with h | h
    · exact trees_cell x c h
    · exact trees_cells l c h
end
theorem tree_itemsP (l : List Item) : Tree (itemsP l) := tree_rowP fun x _ => trees_item x
theorem tree_rowsP (l : List Row) : Tree (rowsP l) := tree_rowP fun x _ => trees_row x
theorem tree_cellsP (l : List Cell) : Tree (cellsP l) := tree_rowP fun x _ => trees_cell x

/-! ### Equality, as a truth value -/
noncomputable def eqv {α : Type} (a b : α) : Bool := @decide (a = b) (Classical.propDecidable _)
theorem eqv_iff {α : Type} {a b : α} : eqv a b = true ↔ a = b := by unfold eqv; exact @decide_eq_true_iff _ (Classical.propDecidable _)
theorem eqv_self {α : Type} (a : α) : eqv a a = true := eqv_iff.2 rfl
theorem eqv_ne {α : Type} {a b : α} (h : a ≠ b) : eqv a b = false := by
  cases e : eqv a b with
  | false => rfl
  | true => exact absurd (eqv_iff.1 e) h
theorem eqv_comm {α : Type} (a b : α) : eqv a b = eqv b a := by
  rw [Bool.eq_iff_iff, eqv_iff, eqv_iff]; exact ⟨Eq.symm, Eq.symm⟩
theorem eqv_int (a b : Int) : decide (a = b) = eqv a b := by rw [Bool.eq_iff_iff, eqv_iff, decide_eq_true_iff]
theorem eqv_intb (a b : Int) : (a == b) = eqv a b := by rw [Bool.eq_iff_iff, eqv_iff]; simp
theorem eqv_bool (a b : Bool) : (a == b) = eqv a b := by rw [Bool.eq_iff_iff, eqv_iff]; simp
theorem toList_inj {a b : ByteArray} (h : a.toList = b.toList) : a = b := by
  rw [ByteArray.toList_eq, ByteArray.toList_eq] at h
  obtain ⟨⟨x⟩⟩ := a
  obtain ⟨⟨y⟩⟩ := b
  simp only at h
  subst h; rfl
theorem eqv_str (a b : ByteArray) : (a.toList == b.toList) = eqv a b := by
  rw [Bool.eq_iff_iff, eqv_iff]
  simp only [beq_iff_eq]
  exact ⟨toList_inj, fun h => by rw [h]⟩
theorem eqv_len {α : Type} {l m : List α} (h : l.length ≠ m.length) : eqv l m = false := eqv_ne fun e => h (by rw [e])
theorem eqv_drop {α : Type} {l m : List α} {i : Nat} {x y : α} (hx : l[i]? = some x) (hy : m[i]? = some y) : eqv (l.drop i) (m.drop i) = (eqv x y && eqv (l.drop (i + 1)) (m.drop (i + 1))) := by
  obtain ⟨l1, e1⟩ := List.getElem?_eq_some_iff.1 hx
  obtain ⟨l2, e2⟩ := List.getElem?_eq_some_iff.1 hy
  rw [List.drop_eq_getElem_cons l1, List.drop_eq_getElem_cons l2, e1, e2, Bool.eq_iff_iff, Bool.and_eq_true, eqv_iff, eqv_iff, eqv_iff, List.cons.injEq]
theorem eqv_end {α : Type} {l m : List α} {i : Nat} (h1 : i = l.length) (h2 : l.length = m.length) : eqv (l.drop i) (m.drop i) = true := by
  subst h1
  rw [List.drop_length, h2, List.drop_length]; exact eqv_self _
theorem eqv_Prp (a b : Prp) : eqv a b = (eqv a.key b.key && eqv a.val b.val) := by
  cases a; cases b; rw [Bool.eq_iff_iff]; simp only [Bool.and_eq_true, eqv_iff, Prp.mk.injEq]
theorem eqv_Dl (a b : Dl) : eqv a b = (eqv a.rev b.rev && eqv a.move b.move) := by
  cases a; cases b; rw [Bool.eq_iff_iff]; simp only [Bool.and_eq_true, eqv_iff, Dl.mk.injEq]
theorem eqv_Lyr (a b : Lyr) : eqv a b = (eqv a.rev b.rev && eqv a.key b.key && eqv a.before b.before && eqv a.had b.had) := by
  cases a; cases b; rw [Bool.eq_iff_iff]; simp only [Bool.and_eq_true, eqv_iff, Lyr.mk.injEq, and_assoc]
theorem eqv_Head (a b : Head) : eqv a b = (eqv a.props b.props && eqv a.ins b.ins && eqv a.move b.move && eqv a.dels b.dels && eqv a.lyrs b.lyrs) := by
  cases a; cases b; rw [Bool.eq_iff_iff]; simp only [Bool.and_eq_true, eqv_iff, Head.mk.injEq, and_assoc]
theorem eqv_Style (a b : Style) : eqv a b = (eqv a.id b.id && eqv a.kind b.kind && eqv a.name b.name && eqv a.base b.base && eqv a.next b.next && eqv a.props b.props) := by
  cases a; cases b; rw [Bool.eq_iff_iff]; simp only [Bool.and_eq_true, eqv_iff, Style.mk.injEq, and_assoc]
theorem eqv_Level (a b : Level) : eqv a b = (eqv a.format b.format && eqv a.start b.start && eqv a.template b.template && eqv a.restart b.restart) := by
  cases a; cases b; rw [Bool.eq_iff_iff]; simp only [Bool.and_eq_true, eqv_iff, Level.mk.injEq, and_assoc]
theorem eqv_Lst (a b : Lst) : eqv a b = (eqv a.id b.id && eqv a.levels b.levels) := by
  cases a; cases b; rw [Bool.eq_iff_iff]; simp only [Bool.and_eq_true, eqv_iff, Lst.mk.injEq]
theorem eqv_Comment (a b : Comment) : eqv a b = (eqv a.id b.id && eqv a.parent b.parent && eqv a.author b.author && eqv a.time b.time && eqv a.text b.text && eqv a.done b.done) := by
  cases a; cases b; rw [Bool.eq_iff_iff]; simp only [Bool.and_eq_true, eqv_iff, Comment.mk.injEq, and_assoc]
theorem eqv_Var (a b : Var) : eqv a b = (eqv a.name b.name && eqv a.value b.value) := by
  cases a; cases b; rw [Bool.eq_iff_iff]; simp only [Bool.and_eq_true, eqv_iff, Var.mk.injEq]
theorem eqv_Rev (a b : Rev) : eqv a b = (eqv a.id b.id && eqv a.author b.author && eqv a.time b.time) := by
  cases a; cases b; rw [Bool.eq_iff_iff]; simp only [Bool.and_eq_true, eqv_iff, Rev.mk.injEq, and_assoc]
theorem eqv_Sets (a b : Sets) : eqv a b = (eqv a.styles b.styles && eqv a.lists b.lists && eqv a.comments b.comments && eqv a.vars b.vars) := by
  cases a; cases b; rw [Bool.eq_iff_iff]; simp only [Bool.and_eq_true, eqv_iff, Sets.mk.injEq, and_assoc]
theorem eqv_Doc (a b : Doc) : eqv a b = (eqv a.flow b.flow && eqv a.fin b.fin && eqv a.revs b.revs && eqv a.sets.styles b.sets.styles && eqv a.sets.lists b.sets.lists && eqv a.sets.comments b.sets.comments && eqv a.sets.vars b.sets.vars) := by
  obtain ⟨_, _, _, ⟨_, _, _, _⟩⟩ := a; obtain ⟨_, _, _, ⟨_, _, _, _⟩⟩ := b; rw [Bool.eq_iff_iff]; simp only [Bool.and_eq_true, eqv_iff, Doc.mk.injEq, Sets.mk.injEq, and_assoc]
theorem eqv_Edit (a b : Edit) : eqv a b = (eqv a.kind b.kind && eqv a.flow b.flow && eqv a.at_ b.at_ && eqv a.count b.count && eqv a.sub b.sub && eqv a.to b.to && eqv a.toAt b.toAt && eqv a.fresh b.fresh && eqv a.key b.key && eqv a.value b.value && eqv a.clear b.clear && eqv a.items b.items && eqv a.rows b.rows && eqv a.cells b.cells && eqv a.sets b.sets) := by
  cases a; cases b; rw [Bool.eq_iff_iff]; simp only [Bool.and_eq_true, eqv_iff, Edit.mk.injEq, and_assoc]
theorem eqv_Item (k c i k' c' i' : Int) (t t' : ByteArray) (h h' : Head) (f f' : List Item) (r r' : List Row) : eqv (Item.mk k c i t h f r) (Item.mk k' c' i' t' h' f' r') = (eqv k k' && eqv c c' && eqv i i' && eqv t t' && eqv h h' && eqv f f' && eqv r r') := by
  rw [Bool.eq_iff_iff]; simp only [Bool.and_eq_true, eqv_iff, Item.mk.injEq, and_assoc]
theorem eqv_Row (h h' : Head) (c c' : List Cell) : eqv (Row.mk h c) (Row.mk h' c') = (eqv h h' && eqv c c') := by
  rw [Bool.eq_iff_iff]; simp only [Bool.and_eq_true, eqv_iff, Row.mk.injEq]
theorem eqv_Cell (i i' : Int) (h h' : Head) (f f' : List Item) : eqv (Cell.mk i h f) (Cell.mk i' h' f') = (eqv i i' && eqv h h' && eqv f f') := by
  rw [Bool.eq_iff_iff]; simp only [Bool.and_eq_true, eqv_iff, Cell.mk.injEq, and_assoc]

/-! ### Laws for walks -/
theorem has_nil : Has [] [] := Has.nil []
/-- A slice among the arguments of a call is no longer than Go lets a slice be. -/
theorem Iso_tr {P : Program} {f : FuncId} {fn : Func} {args : List PV} {Q : PV → Prop} {cells : List PV} {len sz : Nat} (j : Nat) (hj : args[j]? = some (.tr cells len sz)) (hf : P.funcs[f]? = some fn) (hn : (fn.name == "runtime.NumGoroutine") = false) (hb : fn.body.isNone = false)
    (k : len ≤ 9223372036854775807 → Iso P f args Q) : Iso P f args Q := by
  refine ⟨⟨fn, hf, hn, hb⟩, fun m w vals h1 h2 h3 hr => ?_⟩
  have h := hr.2 j _ hj
  have hl : len ≤ maxLen := by
    generalize vals.getD j undef = v at h
    cases h with
    | tr f a b c d e g => omega
    | tr0 a b => exact Nat.zero_le _
    | trn => exact Nat.zero_le _
  exact (k (by simp only [maxLen] at hl; omega)).2 m w vals h1 h2 h3 hr

section
variable {P : Program} {o : Oper} {E : Env} {H : Heap}
theorem run_seq {P : Program} {t : TypeId} {x y : Operand} (w : World) (a b : ByteArray) : (do eqGuard .eql t x y (.string a) (.string b); binOp .eql t (.string a) (.string b) : Sem Value).run P w = .ok (.bool (a.toList == b.toList)) w := rfl
theorem run_sne {P : Program} {t : TypeId} {x y : Operand} (w : World) (a b : ByteArray) : (do eqGuard .neq t x y (.string a) (.string b); binOp .neq t (.string a) (.string b) : Sem Value).run P w = .ok (.bool (!(a.toList == b.toList))) w := rfl
theorem OpV_seq {t ty : TypeId} {x y : Operand} {a b : ByteArray} (ho : o.op = .binOp .eql t x y ty) (hx : E.ev x = some (.v (.string a))) (hy : E.ev y = some (.v (.string b))) : OpV P o E H (.v (.bool (a.toList == b.toList))) :=
  OpV_bin ho hx hy rfl rfl (fun w => run_seq w a b) rfl
theorem OpV_sne {t ty : TypeId} {x y : Operand} {a b : ByteArray} (ho : o.op = .binOp .neq t x y ty) (hx : E.ev x = some (.v (.string a))) (hy : E.ev y = some (.v (.string b))) : OpV P o E H (.v (.bool (!(a.toList == b.toList)))) :=
  OpV_bin ho hx hy rfl rfl (fun w => run_sne w a b) rfl
end
theorem item_at {l : List Item} {i : Nat} {k c d : Int} {t : ByteArray} {h : Head} {f : List Item} {r : List Row} (hx : l[i]? = some (.mk k c d t h f r)) :
    takeN 11 ((l.flatMap encItem).drop (i * 11)) = some [I k, I c, I d, S t, propsP h.props, I h.ins, I h.move, delsP h.dels, lyrsP h.lyrs, itemsP f, rowsP r] := by
  rw [flat_at encItem_len l i _ hx, encItem_mk]
theorem row_at {l : List Row} {i : Nat} {h : Head} {c : List Cell} (hx : l[i]? = some (.mk h c)) :
    takeN 6 ((l.flatMap encRow).drop (i * 6)) = some [propsP h.props, I h.ins, I h.move, delsP h.dels, lyrsP h.lyrs, cellsP c] := by
  rw [flat_at encRow_len l i _ hx, encRow_mk]
theorem cell_at {l : List Cell} {i : Nat} {d : Int} {h : Head} {f : List Item} (hx : l[i]? = some (.mk d h f)) :
    takeN 7 ((l.flatMap encCell).drop (i * 7)) = some [I d, propsP h.props, I h.ins, I h.move, delsP h.dels, lyrsP h.lyrs, itemsP f] := by
  rw [flat_at encCell_len l i _ hx, encCell_mk]
end Go.Proofs.YtpmfnjkcoogicaaGreat
