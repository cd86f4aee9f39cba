/- Part 1 of a proof: walks of the program in a small memory, plain lemmas. -/
import Derived.Calls
import Derived.Orders
import Derived.Below
import Derived.LoopN
import Derived.Scope
import Derived.Tactics
import Derived.Laws.IdiomCopy
import Derived.Deep.MidRow
import Derived.Deep.AppendSrc
import Derived.Laws.Strings
import Derived.Laws.StructEq
import Derived.Laws.Cover3
import Derived.Laws.Pointers
import Derived.Laws.BytesString
import Derived.Laws.MakeOwn
import Derived.Laws.Slices
import Derived.Laws.Tables
import Derived.Deep.Upon
import Derived.Lib.AppendZeros
import Derived.Lib.ConvBytes
set_option linter.all false
/-! GHOST WORLDS: a small deterministic memory, in which a walk goes; how it stands to the model's worlds. -/
namespace Go.Proofs.Gh
open Go Go.RowKit

/-- a block of the ghost memory: its cells; is it still good; does it belong to what came in -/
structure GB where
  cells : List Value
  alive : Bool
  ro : Bool
structure GH where
  n : Nat
  b : Nat → GB
def GH.alloc (h : GH) (x : GB) : GH := ⟨h.n + 1, fun i => if i = h.n then x else h.b i⟩
def GH.upd (h : GH) (g : Nat) (x : GB) : GH := ⟨h.n, fun i => if i = g then x else h.b i⟩
def GH.empty : GH := ⟨0, fun _ => ⟨[], false, true⟩⟩
@[simp] theorem GH.alloc_n (h : GH) (x : GB) : (h.alloc x).n = h.n + 1 := rfl
@[simp] theorem GH.upd_n (h : GH) (g : Nat) (x : GB) : (h.upd g x).n = h.n := rfl
theorem GH.alloc_b (h : GH) (x : GB) (i : Nat) : (h.alloc x).b i = if i = h.n then x else h.b i := rfl
theorem GH.upd_b (h : GH) (g : Nat) (x : GB) (i : Nat) : (h.upd g x).b i = if i = g then x else h.b i := rfl
/-- a capacity that isn't known; 'unk + e': the row may grow, its elements have e cells -/
def unk : Nat := 18446744073709551616

/-- where a ghost block lies: real block, its first cell there, how many cells from there on, the cells of an element (0: not told) -/
structure M where
  r : Nat
  s : Nat
  room : Nat
  esz : Nat
abbrev Mu := Nat → Option M

/-- an error that isn't looked into: the ghost has this type's number and no more -/
def errT : Nat := 4294967296
inductive VR (μ : Mu) : Value → Value → Prop
  | bool (b : Bool) : VR μ (.bool b) (.bool b)
  | int (k : IntKind) (n : Int) : VR μ (.int k n) (.int k n)
  | string (s : ByteArray) : VR μ (.string s) (.string s)
  | nilFunc : VR μ .nilFunc .nilFunc
  | nilIface : VR μ .nilIface .nilIface
  | nilPtr : VR μ (.pointer none) (.pointer none)
  | nilSlice : VR μ (.slice none 0 0) (.slice none 0 0)
  | ptr {g o : Nat} {m : M} : μ g = some m → VR μ (.pointer (some ⟨g, o, none⟩)) (.pointer (some ⟨m.r, m.s + o, none⟩))
  | slice {g o : Nat} {m : M} {len c c' : Nat} : μ g = some m → len ≤ c' → ((c = c' ∧ c < unk) ∨ (∃ e, c = unk + e ∧ (e = 0 ∨ (m.esz = e ∧ o + c' * e ≤ m.room)))) →
      VR μ (.slice (some ⟨g, o, none⟩) len c) (.slice (some ⟨m.r, m.s + o, none⟩) len c')
  | slice0 {g o : Nat} {m : M} {a' : Addr} {c : Nat} : μ g = some m → c = 0 ∨ unk ≤ c → VR μ (.slice (some ⟨g, o, none⟩) 0 c) (.slice (some a') 0 0)
  | func {fn : Fn} {f f' c c' : Array Value} : f.size = f'.size → (∀ i (h : i < f.size) (h' : i < f'.size), VR μ f[i] f'[i]) →
      c.size = c'.size → (∀ i (h : i < c.size) (h' : i < c'.size), VR μ c[i] c'[i]) → VR μ (.func fn f c) (.func fn f' c')
  | iface {t : TypeId} {v v' : Value} : VR μ v v' → VR μ (.iface t v) (.iface t v')
  | err {t : TypeId} {v : Value} : VR μ (.iface errT (.tuple #[])) (.iface t v)
  | agg {c c' : Array Value} : c.size = c'.size → (∀ i (h : i < c.size) (h' : i < c'.size), VR μ c[i] c'[i]) → VR μ (.agg c) (.agg c')
  | tuple {c c' : Array Value} : c.size = c'.size → (∀ i (h : i < c.size) (h' : i < c'.size), VR μ c[i] c'[i]) → VR μ (.tuple c) (.tuple c')

/-- rows of values, one by one -/
def LR (μ : Mu) (l l' : List Value) : Prop := l.length = l'.length ∧ ∀ i (h : i < l.length) (h' : i < l'.length), VR μ l[i] l'[i]
def AR (μ : Mu) (a a' : Array Value) : Prop := a.size = a'.size ∧ ∀ i (h : i < a.size) (h' : i < a'.size), VR μ a[i] a'[i]
theorem VR.undef {μ : Mu} : VR μ undef undef := .tuple rfl (fun i h => by simp at h)

/-- values without addresses -/
def flat0 : Value → Bool
  | .bool _ | .int _ _ | .string _ | .nilFunc | .nilIface | .pointer none | .slice none 0 0 => true
  | _ => false
def flat1 : Value → Bool
  | .agg cs => cs.all flat0
  | .iface _ v => flat0 v
  | v => flat0 v
def flat : Value → Bool
  | .tuple vs => vs.all flat1
  | v => flat1 v

theorem VR.of_flat0 {μ : Mu} {v : Value} (h : flat0 v = true) : VR μ v v := by
  unfold flat0 at h
  split at h <;> first | constructor | cases h
theorem VR.eq0 {μ : Mu} {v v' : Value} (h : VR μ v v') (hf : flat0 v = true) : v' = v := by
  cases h <;> first | rfl | simp [flat0] at hf
theorem VR.of_flat1 {μ : Mu} {v : Value} (h : flat1 v = true) : VR μ v v := by
  unfold flat1 at h
  split at h
  · refine .agg rfl (fun i hi _ => VR.of_flat0 ?_)
    exact (Array.all_eq_true.1 h) i hi
  · exact .iface (VR.of_flat0 h)
  · exact VR.of_flat0 h
theorem VR.eq1 {μ : Mu} {v v' : Value} (h : VR μ v v') (hf : flat1 v = true) : v' = v := by
  cases h with
  | agg hs hr =>
    congr 1
    refine Array.ext hs.symm (fun i h1 h2 => ?_)
    exact (hr i h2 h1).eq0 ((Array.all_eq_true.1 hf) i h2)
  | iface h => rw [h.eq0 hf]
  | _ => first | rfl | simp [flat1, flat0] at hf
theorem VR.of_flat {μ : Mu} {v : Value} (h : flat v = true) : VR μ v v := by
  unfold flat at h
  split at h
  · refine .tuple rfl (fun i hi _ => VR.of_flat1 ?_)
    exact (Array.all_eq_true.1 h) i hi
  · exact VR.of_flat1 h
theorem VR.eq {μ : Mu} {v v' : Value} (h : VR μ v v') (hf : flat v = true) : v' = v := by
  cases h with
  | tuple hs hr =>
    congr 1
    refine Array.ext hs.symm (fun i h1 h2 => ?_)
    exact (hr i h2 h1).eq1 ((Array.all_eq_true.1 hf) i h2)
  | agg hs hr => exact (VR.agg hs hr).eq1 hf
  | iface h => exact (VR.iface h).eq1 hf
  | _ => first | rfl | simp [flat, flat1, flat0] at hf

theorem VR.mono {μ μ' : Mu} (hm : ∀ g m, μ g = some m → μ' g = some m) {v v' : Value} (h : VR μ v v') : VR μ' v v' := by
  induction h with
  | ptr h => exact .ptr (hm _ _ h)
  | slice h1 h2 h3 => exact .slice (hm _ _ h1) h2 h3
  | slice0 h1 h2 => exact .slice0 (hm _ _ h1) h2
  | func h1 _ h3 _ ih1 ih2 => exact .func h1 ih1 h3 ih2
  | iface _ ih => exact .iface ih
  | agg h1 _ ih => exact .agg h1 ih
  | tuple h1 _ ih => exact .tuple h1 ih
  | _ => constructor

theorem AR.mono {μ μ' : Mu} (hm : ∀ g m, μ g = some m → μ' g = some m) {v v' : Array Value} (h : AR μ v v') : AR μ' v v' :=
  ⟨h.1, fun i h1 h2 => (h.2 i h1 h2).mono hm⟩
theorem LR.mono {μ μ' : Mu} (hm : ∀ g m, μ g = some m → μ' g = some m) {v v' : List Value} (h : LR μ v v') : LR μ' v v' :=
  ⟨h.1, fun i h1 h2 => (h.2 i h1 h2).mono hm⟩
theorem AR.toList {μ : Mu} {v v' : Array Value} (h : AR μ v v') : LR μ v.toList v'.toList :=
  ⟨by simpa using h.1, fun i h1 h2 => by simpa using h.2 i (by simpa using h1) (by simpa using h2)⟩
theorem LR.toArray {μ : Mu} {v v' : List Value} (h : LR μ v v') : AR μ v.toArray v'.toArray :=
  ⟨by simpa using h.1, fun i h1 h2 => by simpa using h.2 i (by simpa using h1) (by simpa using h2)⟩
theorem AR.getD {μ : Mu} {v v' : Array Value} (h : AR μ v v') (i : Nat) : VR μ (v.getD i undef) (v'.getD i undef) := by
  by_cases hi : i < v.size
  · have hi' : i < v'.size := h.1 ▸ hi
    simpa [Array.getD, hi, hi'] using h.2 i hi hi'
  · have hi' : ¬ i < v'.size := h.1 ▸ hi
    simpa [Array.getD, hi, hi'] using VR.undef
theorem AR.get {μ : Mu} {v v' : Array Value} (h : AR μ v v') {i : Nat} {x : Value} (hx : v[i]? = some x) : ∃ x', v'[i]? = some x' ∧ VR μ x x' := by
  obtain ⟨hi, rfl⟩ := Array.getElem?_eq_some_iff.1 hx
  have hi' : i < v'.size := h.1 ▸ hi
  exact ⟨v'[i], Array.getElem?_eq_getElem hi', h.2 i hi hi'⟩
theorem LR.get {μ : Mu} {v v' : List Value} (h : LR μ v v') {i : Nat} {x : Value} (hx : v[i]? = some x) : ∃ x', v'[i]? = some x' ∧ VR μ x x' := by
  obtain ⟨hi, rfl⟩ := List.getElem?_eq_some_iff.1 hx
  have hi' : i < v'.length := h.1 ▸ hi
  exact ⟨v'[i], List.getElem?_eq_getElem hi', h.2 i hi hi'⟩
theorem LR.nil {μ : Mu} : LR μ [] [] := ⟨rfl, fun i h => by simp at h⟩
theorem LR.cons {μ : Mu} {x x' : Value} {l l' : List Value} (hx : VR μ x x') (h : LR μ l l') : LR μ (x :: l) (x' :: l') := by
  refine ⟨by simp [h.1], fun i h1 h2 => ?_⟩
  cases i with
  | zero => exact hx
  | succ i => exact h.2 i (by simpa using h1) (by simpa using h2)
theorem LR.append {μ : Mu} {a a' b b' : List Value} (h : LR μ a a') (k : LR μ b b') : LR μ (a ++ b) (a' ++ b') := by
  refine ⟨by simp [h.1, k.1], fun i h1 h2 => ?_⟩
  by_cases hi : i < a.length
  · rw [List.getElem_append_left hi, List.getElem_append_left (h.1 ▸ hi)]
    exact h.2 i hi _
  · have e := h.1
    rw [List.getElem_append_right (by omega), List.getElem_append_right (by omega)]
    have := k.2 (i - a.length) (by simp at h1; omega) (by simp at h2; omega)
    simpa [e] using this
theorem LR.drop {μ : Mu} {a a' : List Value} (h : LR μ a a') (n : Nat) : LR μ (a.drop n) (a'.drop n) := by
  refine ⟨by simp [h.1], fun i h1 h2 => ?_⟩
  rw [List.getElem_drop, List.getElem_drop]
  exact h.2 _ (by simp at h1; omega) (by simp at h2; omega)
theorem LR.take {μ : Mu} {a a' : List Value} (h : LR μ a a') (n : Nat) : LR μ (a.take n) (a'.take n) := by
  refine ⟨by simp [h.1], fun i h1 h2 => ?_⟩
  rw [List.getElem_take, List.getElem_take]
  exact h.2 _ (by simp at h1; omega) (by simp at h2; omega)
theorem AR.set {μ : Mu} {a a' : Array Value} (h : AR μ a a') (i : Nat) {x x' : Value} (hx : VR μ x x') : AR μ (a.setIfInBounds i x) (a'.setIfInBounds i x') := by
  refine ⟨by simp [h.1], fun j h1 h2 => ?_⟩
  have e1 := Array.getElem_setIfInBounds (xs := a) (i := i) (a := x) (j := j) (by simpa using h1)
  have e2 := Array.getElem_setIfInBounds (xs := a') (i := i) (a := x') (j := j) (by simpa using h2)
  rw [e1, e2]
  split
  · exact hx
  · exact h.2 j (by simpa using h1) (by simpa using h2)
theorem AR.append {μ : Mu} {a a' b b' : Array Value} (h : AR μ a a') (k : AR μ b b') : AR μ (a ++ b) (a' ++ b') := by
  have := (h.toList.append k.toList).toArray
  rwa [← Array.toList_append, ← Array.toList_append, Array.toArray_toList, Array.toArray_toList] at this
theorem AR.map {μ : Mu} {α : Type} (xs : Array α) {f f' : α → Value} (h : ∀ x, VR μ (f x) (f' x)) : AR μ (xs.map f) (xs.map f') :=
  ⟨by simp, fun i h1 h2 => by simpa using h _⟩
theorem AR.replicate {μ : Mu} (n : Nat) {x x' : Value} (h : VR μ x x') : AR μ (Array.replicate n x) (Array.replicate n x') :=
  ⟨by simp, fun i h1 h2 => by simpa using h⟩
theorem AR.of_flat {μ : Mu} {a : Array Value} (h : a.all flat = true) : AR μ a a :=
  ⟨rfl, fun i h1 _ => VR.of_flat ((Array.all_eq_true.1 h) i h1)⟩
theorem AR.eq {μ : Mu} {a a' : Array Value} (h : AR μ a a') (hf : a.all flat = true) : a' = a :=
  Array.ext h.1.symm (fun i h1 h2 => (h.2 i h2 h1).eq ((Array.all_eq_true.1 hf) i h2))
theorem VR.cells {μ : Mu} {v v' : Value} (h : VR μ v v') : AR μ v.cells v'.cells := by
  cases h with
  | agg hs hr => exact ⟨hs, hr⟩
  | _ =>
    refine ⟨rfl, fun i h1 h2 => ?_⟩
    have : i = 0 := by simp [Value.cells] at h1; omega
    subst this
    simp only [Value.cells, List.getElem_toArray, List.getElem_cons_zero]
    constructor <;> assumption
end Go.Proofs.Gh
namespace Go.Proofs.Gh
open Go Go.RowKit

def setL : List Value → Nat → List Value → List Value
  | c, _, [] => c
  | c, o, v :: vs => setL (c.set o v) (o + 1) vs
theorem setL_length : ∀ (vs c : List Value) (o : Nat), (setL c o vs).length = c.length
  | [], _, _ => rfl
  | v :: vs, c, o => by rw [setL, setL_length vs]; simp
theorem setL_get : ∀ (vs c : List Value) (o i : Nat), (setL c o vs)[i]? = if o ≤ i ∧ i < o + vs.length ∧ i < c.length then vs[i - o]? else c[i]?
  | [], c, o, i => by
    rw [setL, if_neg]; simp; omega
  | v :: vs, c, o, i => by
    rw [setL, setL_get vs, List.length_set, List.getElem?_set]
    by_cases h : o = i
    · subst h
      have h0 : ¬ (o + 1 ≤ o ∧ o < o + 1 + vs.length ∧ o < c.length) := by omega
      rw [if_neg h0]
      by_cases hc : o < c.length
      · simp [hc]
      · have h1 : ¬ (o ≤ o ∧ o < o + (v :: vs).length ∧ o < c.length) := by omega
        rw [if_neg h1]
        simp [hc]
    · rw [if_neg h]
      by_cases h2 : o + 1 ≤ i ∧ i < o + 1 + vs.length ∧ i < c.length
      · rw [if_pos h2, if_pos (by simp; omega)]
        rw [show i - o = (i - (o + 1)) + 1 by omega, List.getElem?_cons_succ]
      · rw [if_neg h2, if_neg (by simp; omega)]

def GH.load (h : GH) (g o n : Nat) : Option (List Value) :=
  if g < h.n ∧ (h.b g).alive = true ∧ o + n ≤ (h.b g).cells.length then some (((h.b g).cells.drop o).take n) else none
def GH.store (h : GH) (g o : Nat) (vs : List Value) : Option GH :=
  if g < h.n ∧ (h.b g).alive = true ∧ (h.b g).ro = false ∧ o + vs.length ≤ (h.b g).cells.length ∧ vs.all Value.oneCell' = true then
    some (h.upd g ⟨setL (h.b g).cells o vs, true, false⟩) else none

structure BlkOk (μ : Mu) (w : World) (B : Nat) (m : M) (x : GB) (cs : Array Value) (t : TypeId) (fr : Nat × Nat) : Prop where
  heap : w.heap[m.r]? = some (.cells cs t fr)
  cell : ∀ i v, x.cells[i]? = some v → ∃ v', cs[m.s + i]? = some v' ∧ VR μ v v'
  one : ∀ v ∈ x.cells, v.oneCell' = true
  own : x.ro = false → B ≤ m.r ∧ m.s + m.room = cs.size ∧ ∀ i, m.s ≤ i → i < cs.size → ¬ (fr.1 ≤ i ∧ i < fr.2)

structure Inv (w0 : World) (B : Nat) (μ : Mu) (h : GH) (w : World) : Prop where
  below : Below B w0 w
  hB : B ≤ w.heap.size
  dom : ∀ g, h.n ≤ g → μ g = none
  blk : ∀ g m, μ g = some m → (h.b g).alive = true → ∃ cs t fr, BlkOk μ w B m (h.b g) cs t fr
  sep : ∀ g g' m m', μ g = some m → μ g' = some m' → g ≠ g' → (h.b g).alive = true → (h.b g').alive = true → (h.b g).ro = false → m.r ≠ m'.r

theorem Inv.lt {w0 : World} {B : Nat} {μ : Mu} {h : GH} {w : World} (hi : Inv w0 B μ h w) {g : Nat} {m : M} (hm : μ g = some m) : g < h.n := by
  rcases Nat.lt_or_ge g h.n with h1 | h1
  · exact h1
  · rw [hi.dom g h1] at hm; cases hm

/-- what a step does to the rest -/
structure Ext (μ μ' : Mu) (h h' : GH) (w w' : World) : Prop where
  n : h.n ≤ h'.n
  keep : ∀ g, g < h.n → μ' g = μ g
  new : ∀ g m', h.n ≤ g → μ' g = some m' → (∃ g0 m0, μ g0 = some m0 ∧ m0.r = m'.r) ∨ w.heap.size ≤ m'.r
  frame : ∀ r, r < w.heap.size → (∀ g m, μ g = some m → m.r ≠ r) → w'.heap[r]? = w.heap[r]?
  size : w.heap.size ≤ w'.heap.size
  still : ∀ g, g < h.n → μ g = none → h'.b g = h.b g
  ros : ∀ g, g < h.n → (h.b g).ro = true → h'.b g = h.b g

theorem Ext.refl (μ : Mu) (h : GH) (w : World) (hd : ∀ g, h.n ≤ g → μ g = none) : Ext μ μ h h w w :=
  ⟨Nat.le_refl _, fun _ _ => rfl, fun g m hg hm => (by rw [hd g hg] at hm; cases hm), fun _ _ _ => rfl, Nat.le_refl _, fun _ _ _ => rfl, fun _ _ _ => rfl⟩
theorem Ext.mono {μ μ' : Mu} {h h' : GH} {w w' : World} (e : Ext μ μ' h h' w w') (hd : ∀ g, h.n ≤ g → μ g = none) : ∀ g m, μ g = some m → μ' g = some m := by
  intro g m hm
  rcases Nat.lt_or_ge g h.n with h1 | h1
  · rw [e.keep g h1]; exact hm
  · rw [hd g h1] at hm; cases hm
theorem Ext.trans {μ μ1 μ2 : Mu} {h h1 h2 : GH} {w w1 w2 : World} (a : Ext μ μ1 h h1 w w1) (b : Ext μ1 μ2 h1 h2 w1 w2) : Ext μ μ2 h h2 w w2 where
  n := Nat.le_trans a.n b.n
  keep g hg := (b.keep g (Nat.lt_of_lt_of_le hg a.n)).trans (a.keep g hg)
  new g m' hg hm := by
    have img : ∀ g0 m0, μ1 g0 = some m0 → (∃ g1 m1, μ g1 = some m1 ∧ m1.r = m0.r) ∨ w.heap.size ≤ m0.r := by
      intro g0 m0 h0
      rcases Nat.lt_or_ge g0 h.n with hl | hl
      · rw [a.keep g0 hl] at h0; exact .inl ⟨g0, m0, h0, rfl⟩
      · exact a.new g0 m0 hl h0
    rcases Nat.lt_or_ge g h1.n with hl | hl
    · rw [b.keep g hl] at hm
      exact img g m' hm
    · rcases b.new g m' hl hm with ⟨g0, m0, h0, e0⟩ | hs
      · rw [← e0]; exact img g0 m0 h0
      · exact .inr (Nat.le_trans a.size hs)
  frame r hr hn := by
    refine (b.frame r (Nat.lt_of_lt_of_le hr a.size) (fun g m hm => ?_)).trans (a.frame r hr hn)
    rcases Nat.lt_or_ge g h.n with hl | hl
    · rw [a.keep g hl] at hm; exact hn g m hm
    · rcases a.new g m hl hm with ⟨g0, m0, h0, e0⟩ | hs
      · rw [← e0]; exact hn g0 m0 h0
      · omega
  size := Nat.le_trans a.size b.size
  still g hg hm := by
    rw [b.still g (Nat.lt_of_lt_of_le hg a.n) (by rw [a.keep g hg]; exact hm), a.still g hg hm]
  ros g hg hr := by
    have e := a.ros g hg hr
    rw [b.ros g (Nat.lt_of_lt_of_le hg a.n) (by rw [e]; exact hr), e]

section
variable {w0 : World} {B : Nat} {μ : Mu} {h : GH} {w : World}

theorem Inv.load (hi : Inv w0 B μ h w) {g o n : Nat} {l : List Value} (hl : h.load g o n = some l) {m : M} (hm : μ g = some m) :
    l.length = n ∧ ∃ l', LR μ l l' ∧ ∀ j v, l'[j]? = some v → w.cell? ⟨m.r, m.s + o + j, none⟩ = some v := by
  unfold GH.load at hl
  split at hl
  case isFalse => cases hl
  rename_i hc
  obtain ⟨h1, h2, h3⟩ := hc
  injection hl with hl
  subst hl
  obtain ⟨cs, t, fr, hb⟩ := hi.blk g m hm h2
  have hlen : (((h.b g).cells.drop o).take n).length = n := by simp; omega
  refine ⟨hlen, ((cs.toList.drop (m.s + o)).take n), ?_, ?_⟩
  · have hcell : ∀ i, i < n → ∃ v v', (h.b g).cells[o + i]? = some v ∧ cs[m.s + (o + i)]? = some v' ∧ VR μ v v' := by
      intro i hi'
      have : o + i < (h.b g).cells.length := by omega
      obtain ⟨v', h4, h5⟩ := hb.cell (o + i) _ (List.getElem?_eq_getElem this)
      exact ⟨_, v', List.getElem?_eq_getElem this, h4, h5⟩
    have hsz : ∀ i, i < n → m.s + (o + i) < cs.size := by
      intro i hi'
      obtain ⟨_, v', _, h4, _⟩ := hcell i hi'
      exact (Array.getElem?_eq_some_iff.1 h4).1
    have hlen' : ((cs.toList.drop (m.s + o)).take n).length = n := by
      rcases Nat.eq_zero_or_pos n with rfl | hp
      · simp
      · have := hsz (n - 1) (by omega)
        simp; omega
    refine ⟨by rw [hlen, hlen'], fun i h4 h5 => ?_⟩
    obtain ⟨v, v', h6, h7, h8⟩ := hcell i (by omega)
    rw [List.getElem_take, List.getElem_drop, List.getElem_take, List.getElem_drop]
    have e1 := (List.getElem?_eq_some_iff.1 h6).2
    have e2 := (Array.getElem?_eq_some_iff.1 h7).2
    simp only [e1, Array.getElem_toList, Nat.add_assoc, e2]
    exact h8
  · intro j v hv
    rw [List.getElem?_take] at hv
    split at hv
    · rw [List.getElem?_drop] at hv
      have : cs[m.s + o + j]? = some v := by simpa using hv
      simp [World.cell?, hb.heap, this]
    · cases hv

theorem Inv.step {w' : World} (hi : Inv w0 B μ h w) (hb : Below w.heap.size w w') : Inv w0 B μ h w' where
  below := hi.below.trans (hb.mono hi.hB)
  hB := Nat.le_trans hi.hB hb.size
  dom := hi.dom
  blk g m hm ha := by
    obtain ⟨cs, t, fr, k⟩ := hi.blk g m hm ha
    have hlt : m.r < w.heap.size := by
      rcases Nat.lt_or_ge m.r w.heap.size with h1 | h1
      · exact h1
      · have := k.heap; rw [Array.getElem?_eq_none h1] at this; cases this
    exact ⟨cs, t, fr, (hb.block _ hlt).trans k.heap, k.cell, k.one, k.own⟩
  sep := hi.sep
theorem Ext.step {w' : World} (hd : ∀ g, h.n ≤ g → μ g = none) (hb : Below w.heap.size w w') : Ext μ μ h h w w' :=
  ⟨Nat.le_refl _, fun _ _ => rfl, fun g m hg hm => (by rw [hd g hg] at hm; cases hm), fun r hr _ => hb.block r hr, hb.size, fun _ _ _ => rfl, fun _ _ _ => rfl⟩

theorem VR.oneCell {v v' : Value} (hv : VR μ v v') : v'.oneCell' = v.oneCell' := by cases hv <;> rfl
theorem LR.oneCell {l l' : List Value} (hl : LR μ l l') (h1 : ∀ v ∈ l, v.oneCell' = true) : ∀ v ∈ l', v.oneCell' = true := by
  intro v hv
  obtain ⟨i, hi, rfl⟩ := List.getElem_of_mem hv
  have hi' : i < l.length := hl.1 ▸ hi
  rw [(hl.2 i hi' hi).oneCell]
  exact h1 _ (List.getElem_mem hi')

def Mu.put (μ : Mu) (g : Nat) (m : M) : Mu := fun i => if i = g then some m else μ i
theorem Mu.put_self (μ : Mu) (g : Nat) (m : M) : (μ.put g m) g = some m := by simp [Mu.put]
theorem Mu.put_ne (μ : Mu) {g i : Nat} (m : M) (hne : i ≠ g) : (μ.put g m) i = μ i := by simp [Mu.put, hne]
theorem Mu.put_mono (μ : Mu) {g : Nat} (m : M) (hn : μ g = none) : ∀ i x, μ i = some x → (μ.put g m) i = some x := by
  intro i x hx
  rw [Mu.put_ne]
  · exact hx
  · rintro rfl; rw [hn] at hx; cases hx

/-- a new block -/
theorem Inv.alloc (hi : Inv w0 B μ h w) {cells : List Value} {cs : Array Value} (hr : LR μ cells (cs.toList.take cells.length)) (h1 : ∀ v ∈ cells, v.oneCell' = true) (t : TypeId) (e : Nat) :
    Inv w0 B (μ.put h.n ⟨w.heap.size, 0, cs.size, e⟩) (h.alloc ⟨cells, true, false⟩) (w.alloc (.cells cs t)) ∧
      Ext μ (μ.put h.n ⟨w.heap.size, 0, cs.size, e⟩) h (h.alloc ⟨cells, true, false⟩) w (w.alloc (.cells cs t)) := by
  have hfree := hi.dom h.n (Nat.le_refl _)
  have hmono := μ.put_mono ⟨w.heap.size, 0, cs.size, e⟩ hfree
  have hsize : (w.alloc (.cells cs t)).heap.size = w.heap.size + 1 := by simp
  have hold : ∀ g m, μ g = some m → (h.b g).alive = true → m.r < w.heap.size := by
    intro g m hm ha
    obtain ⟨cs', t', fr, k⟩ := hi.blk g m hm ha
    rcases Nat.lt_or_ge m.r w.heap.size with h2 | h2
    · exact h2
    · have := k.heap; rw [Array.getElem?_eq_none h2] at this; cases this
  refine ⟨⟨hi.below.alloc hi.hB _, by rw [hsize]; have := hi.hB; omega, ?_, ?_, ?_⟩, ⟨?_, ?_, ?_, ?_, by rw [hsize]; omega, ?_, ?_⟩⟩
  · intro g hg
    rw [GH.alloc_n] at hg
    rw [Mu.put_ne _ _ (by omega)]
    exact hi.dom g (by omega)
  · intro g m hm ha
    by_cases hg : g = h.n
    · subst hg
      rw [Mu.put_self] at hm
      injection hm with hm
      subst hm
      refine ⟨cs, t, (0, 0), ?_, ?_, ?_, ?_⟩
      · show (w.heap.push _)[w.heap.size]? = _
        simp
      · intro i v hv
        simp only [GH.alloc_b, if_true] at hv
        obtain ⟨v', h2, h3⟩ := hr.get hv
        refine ⟨v', ?_, h3.mono hmono⟩
        rw [List.getElem?_take] at h2
        split at h2
        · simpa using h2
        · cases h2
      · simpa [GH.alloc_b] using h1
      · intro _
        exact ⟨hi.hB, by simp, fun i _ _ => by simp⟩
    · rw [Mu.put_ne _ _ hg] at hm
      rw [GH.alloc_b, if_neg hg] at ha ⊢
      have hlt := hold g m hm ha
      obtain ⟨cs', t', fr, k⟩ := hi.blk g m hm ha
      exact ⟨cs', t', fr, (Below.heap_alloc w _ _ hlt).trans k.heap, fun i v hv => (k.cell i v hv).imp fun v' hv' => ⟨hv'.1, hv'.2.mono hmono⟩, k.one, k.own⟩
  · intro g g' m m' hm hm' hne ha ha' hro
    by_cases hg : g = h.n
    · subst hg
      have hg' : g' ≠ h.n := fun e => hne e.symm
      rw [Mu.put_self] at hm
      injection hm with hm
      subst hm
      rw [Mu.put_ne _ _ hg'] at hm'
      rw [GH.alloc_b, if_neg hg'] at ha'
      have := hold g' m' hm' ha'
      exact fun e => by simp only at e; omega
    · rw [Mu.put_ne _ _ hg] at hm
      rw [GH.alloc_b, if_neg hg] at ha hro
      by_cases hg' : g' = h.n
      · subst hg'
        rw [Mu.put_self] at hm'
        injection hm' with hm'
        subst hm'
        have := hold g m hm ha
        exact fun e => by simp only at e; omega
      · rw [Mu.put_ne _ _ hg'] at hm'
        rw [GH.alloc_b, if_neg hg'] at ha'
        exact hi.sep g g' m m' hm hm' hne ha ha' hro
  · simp
  · intro g hg
    exact Mu.put_ne _ _ (by omega)
  · intro g m' hg hm
    by_cases hgn : g = h.n
    · subst hgn
      rw [Mu.put_self] at hm
      injection hm with hm
      subst hm
      exact .inr (Nat.le_refl _)
    · rw [Mu.put_ne _ _ hgn, hi.dom g hg] at hm; cases hm
  · intro r hr' _
    exact Below.heap_alloc w _ _ hr'
  · intro g hg _
    rw [GH.alloc_b, if_neg (by omega)]
  · intro g hg _
    rw [GH.alloc_b, if_neg (by omega)]
end
end Go.Proofs.Gh
namespace Go.Proofs.Gh
open Go Go.RowKit

theorem heap_setCells (b : Nat) : ∀ (vs : List Value) (o : Nat) (w : World) (cs : Array Value) (t : TypeId) (fr : Nat × Nat), w.heap[b]? = some (.cells cs t fr) →
    ∃ cs' : Array Value, (w.setCells b o vs).heap[b]? = some (.cells cs' t fr) ∧ cs'.size = cs.size ∧ ∀ i, cs'[i]? = if o ≤ i ∧ i < o + vs.length ∧ i < cs.size then vs[i - o]? else cs[i]?
  | [], o, w, cs, t, fr, hh => ⟨cs, hh, rfl, fun i => by rw [if_neg]; simp; omega⟩
  | v :: vs, o, w, cs, t, fr, hh => by
    have h1 : (w.setCell ⟨b, o, none⟩ v).heap[b]? = some (.cells (cs.setIfInBounds o v) t fr) := by
      simp [World.setCell, Array.getElem?_modify, hh]
    obtain ⟨cs', h2, h3, h4⟩ := heap_setCells b vs (o + 1) _ _ t fr h1
    refine ⟨cs', h2, by rw [h3]; simp, fun i => ?_⟩
    rw [h4, Array.size_setIfInBounds, Array.getElem?_setIfInBounds]
    by_cases h : o = i
    · subst h
      have h0 : ¬ (o + 1 ≤ o ∧ o < o + 1 + vs.length ∧ o < cs.size) := by omega
      rw [if_neg h0]
      by_cases hc : o < cs.size
      · simp [hc]
      · have h1 : ¬ (o ≤ o ∧ o < o + (v :: vs).length ∧ o < cs.size) := by omega
        rw [if_neg h1]
        simp [hc]
    · rw [if_neg h]
      by_cases h2 : o + 1 ≤ i ∧ i < o + 1 + vs.length ∧ i < cs.size
      · rw [if_pos h2, if_pos (by simp; omega)]
        rw [show i - o = (i - (o + 1)) + 1 by omega, List.getElem?_cons_succ]
      · rw [if_neg h2, if_neg (by simp; omega)]
theorem heap_setCells_ne (b : Nat) : ∀ (vs : List Value) (o : Nat) (w : World) (r : Nat), r ≠ b → (w.setCells b o vs).heap[r]? = w.heap[r]?
  | [], _, _, _, _ => rfl
  | v :: vs, o, w, r, hr => by rw [World.setCells, heap_setCells_ne b vs _ _ r hr, Below.heap_setCell _ _ _ _ hr]
theorem size_setCells (b : Nat) : ∀ (vs : List Value) (o : Nat) (w : World), (w.setCells b o vs).heap.size = w.heap.size
  | [], _, _ => rfl
  | v :: vs, o, w => by rw [World.setCells, size_setCells b vs]; simp [World.setCell]
theorem below_setCells {B : Nat} {a : World} (b : Nat) (hb : B ≤ b) : ∀ (vs : List Value) (o : Nat) (w : World), Below B a w → Below B a (w.setCells b o vs)
  | [], _, _, h => h
  | v :: vs, o, w, h => below_setCells b hb vs (o + 1) _ (h.setCell (p := ⟨b, o, none⟩) hb v)

section
variable {w0 : World} {B : Nat} {μ : Mu} {h : GH} {w : World}

/-- cells are written, of a block that isn't what came in; its ghost's cells become xs -/
theorem Inv.write (hi : Inv w0 B μ h w) {g : Nat} {m : M} (hm : μ g = some m) (ha : (h.b g).alive = true) (hro : (h.b g).ro = false)
    {cs : Array Value} {t : TypeId} {fr : Nat × Nat} (hb : BlkOk μ w B m (h.b g) cs t fr) (o : Nat) (vs' : List Value) (xs : List Value)
    (hx : ∀ i v, xs[i]? = some v → ∃ v', (if o ≤ m.s + i ∧ m.s + i < o + vs'.length ∧ m.s + i < cs.size then vs'[m.s + i - o]? else cs[m.s + i]?) = some v' ∧ VR μ v v')
    (h1 : ∀ v ∈ xs, v.oneCell' = true) :
    Inv w0 B μ (h.upd g ⟨xs, true, false⟩) (w.setCells m.r o vs') ∧ Ext μ μ h (h.upd g ⟨xs, true, false⟩) w (w.setCells m.r o vs') := by
  obtain ⟨hB, hroom, hfr⟩ := hb.own hro
  have hsz := size_setCells m.r vs' o w
  obtain ⟨cs', hc1, hc2, hc3⟩ := heap_setCells m.r vs' o w cs t fr hb.heap
  refine ⟨⟨below_setCells m.r hB vs' o w hi.below, by rw [hsz]; exact hi.hB, hi.dom, ?_, ?_⟩, ⟨Nat.le_refl _, fun _ _ => rfl, ?_, ?_, by rw [hsz]; exact Nat.le_refl _, ?_, ?_⟩⟩
  · intro g' m' hm' ha'
    by_cases hg : g' = g
    · subst hg
      rw [hm] at hm'
      injection hm' with hm'
      subst hm'
      refine ⟨cs', t, fr, hc1, ?_, ?_, ?_⟩
      · intro i v hv
        simp only [GH.upd_b, if_true] at hv
        rw [hc3]
        exact hx i v hv
      · simpa [GH.upd_b] using h1
      · intro _
        exact ⟨hB, by rw [hc2]; exact hroom, fun i h2 h3 => hfr i h2 (hc2 ▸ h3)⟩
    · rw [GH.upd_b, if_neg hg] at ha' ⊢
      have hne : m'.r ≠ m.r := fun e => hi.sep g g' m m' hm hm' (Ne.symm hg) ha ha' hro e.symm
      obtain ⟨cs2, t2, fr2, k⟩ := hi.blk g' m' hm' ha'
      exact ⟨cs2, t2, fr2, (heap_setCells_ne m.r vs' o w m'.r hne).trans k.heap, k.cell, k.one, k.own⟩
  · intro g1 g2 m1 m2 hm1 hm2 hne ha1 ha2 hro1
    have f : ∀ i, ((h.upd g ⟨xs, true, false⟩).b i).alive = true → (h.b i).alive = true := by
      intro i hi'
      rw [GH.upd_b] at hi'
      split at hi'
      · rename_i e; rw [e]; exact ha
      · exact hi'
    have f2 : ∀ i, ((h.upd g ⟨xs, true, false⟩).b i).ro = false → (h.b i).ro = false := by
      intro i hi'
      rw [GH.upd_b] at hi'
      split at hi'
      · rename_i e; rw [e]; exact hro
      · exact hi'
    exact hi.sep g1 g2 m1 m2 hm1 hm2 hne (f _ ha1) (f _ ha2) (f2 _ hro1)
  · intro g' m' hg hm'
    rw [hi.dom g' hg] at hm'; cases hm'
  · intro r _ hn
    exact heap_setCells_ne m.r vs' o w r (fun e => hn g m hm e.symm)
  · intro g' _ hg'
    rw [GH.upd_b, if_neg]
    rintro rfl
    rw [hm] at hg'; cases hg'
  · intro g' _ hr
    rw [GH.upd_b, if_neg]
    rintro rfl
    rw [hro] at hr; cases hr

theorem Inv.store (hi : Inv w0 B μ h w) {g o : Nat} {vs : List Value} {h' : GH} (hs : h.store g o vs = some h') {m : M} (hm : μ g = some m) {vs' : List Value} (hv : LR μ vs vs') (P : Program) :
    (storeCells ⟨m.r, m.s + o, none⟩ vs').run P w = .ok () (w.setCells m.r (m.s + o) vs') ∧ Inv w0 B μ h' (w.setCells m.r (m.s + o) vs') ∧ Ext μ μ h h' w (w.setCells m.r (m.s + o) vs') := by
  unfold GH.store at hs
  split at hs
  case isFalse => cases hs
  rename_i hc
  obtain ⟨h1, h2, h3, h4, h5⟩ := hc
  injection hs with hs
  subst hs
  obtain ⟨cs, t, fr, hb⟩ := hi.blk g m hm h2
  obtain ⟨hB, hroom, hfr⟩ := hb.own h3
  have hone : ∀ v ∈ vs, v.oneCell' = true := by simpa using h5
  have hlen := hv.1
  have hsz : ∀ i, i < (h.b g).cells.length → m.s + i < cs.size := by
    intro i hi'
    obtain ⟨v', h6, _⟩ := hb.cell i _ (List.getElem?_eq_getElem hi')
    exact (Array.getElem?_eq_some_iff.1 h6).1
  refine ⟨?_, hi.write hm h2 h3 hb (m.s + o) vs' _ ?_ ?_⟩
  · have := run_storeCells_cells (P := P) m.r (m.s + o) vs' 0 w (fun j hj => ?_) (fun j hj => ?_) (hv.oneCell hone)
    · simpa using this
    · have h6 := hsz (o + j) (by omega)
      have h7 : m.s + o + j < cs.size := by omega
      simp [World.cell?, hb.heap, h7]
    · have h6 := hsz (o + j) (by omega)
      have h7 := hfr (m.s + o + j) (by omega) (by omega)
      simp only [World.frozen?, hb.heap, Nat.add_zero]
      simp only [Bool.and_eq_false_iff, decide_eq_false_iff_not]
      omega
  · intro i v hv'
    rw [setL_get] at hv'
    by_cases hc : o ≤ i ∧ i < o + vs.length ∧ i < (h.b g).cells.length
    · rw [if_pos hc] at hv'
      have h6 := hsz i hc.2.2
      rw [if_pos (by omega)]
      obtain ⟨v', h7, h8⟩ := hv.get hv'
      refine ⟨v', ?_, h8⟩
      rw [show m.s + i - (m.s + o) = i - o by omega]
      exact h7
    · rw [if_neg hc] at hv'
      have h9 : i < (h.b g).cells.length := (List.getElem?_eq_some_iff.1 hv').1
      rw [if_neg (by omega)]
      exact hb.cell i v hv'
  · intro v hv'
    obtain ⟨i, hi', rfl⟩ := List.getElem_of_mem hv'
    have h6 : (setL (h.b g).cells o vs)[i]? = some (setL (h.b g).cells o vs)[i] := List.getElem?_eq_getElem hi'
    rw [setL_get] at h6
    split at h6
    · exact hone _ (List.mem_of_getElem? h6)
    · exact hb.one _ (List.mem_of_getElem? h6)

/-- a block is no longer used -/
theorem Inv.kill (hi : Inv w0 B μ h w) (g : Nat) {m : M} (hm : μ g = some m) (hro : (h.b g).ro = false) (x : GB) (hx : x.alive = false) : Inv w0 B μ (h.upd g x) w ∧ Ext μ μ h (h.upd g x) w w := by
  have f : ∀ i, ((h.upd g x).b i).alive = true → (h.upd g x).b i = h.b i := by
    intro i hi'
    rw [GH.upd_b] at hi' ⊢
    split
    · rename_i e; rw [if_pos e, hx] at hi'; cases hi'
    · rfl
  refine ⟨⟨hi.below, hi.hB, hi.dom, ?_, ?_⟩, ⟨Nat.le_refl _, fun _ _ => rfl, ?_, fun _ _ _ => rfl, Nat.le_refl _, ?_, ?_⟩⟩
  · intro g' m' hm' ha'
    have e := f _ ha'
    rw [e] at ha' ⊢
    exact hi.blk g' m' hm' ha'
  · intro g1 g2 m1 m2 hm1 hm2 hne ha1 ha2 hro1
    have e1 := f _ ha1
    have e2 := f _ ha2
    rw [e1] at ha1 hro1
    rw [e2] at ha2
    exact hi.sep g1 g2 m1 m2 hm1 hm2 hne ha1 ha2 hro1
  · intro g' m' hg hm'
    rw [hi.dom g' hg] at hm'; cases hm'
  · intro g' _ hg'
    rw [GH.upd_b, if_neg]
    rintro rfl
    rw [hm] at hg'; cases hg'
  · intro g' _ hr
    rw [GH.upd_b, if_neg]
    rintro rfl
    rw [hro] at hr; cases hr
end
end Go.Proofs.Gh
namespace Go.Proofs.Gh
open Go Go.RowKit

/-! ### What a walk asks of the program's types -/
/-- a type: is a variable of it a row of cells; how many cells it has -/
def tk (P : Program) (t : TypeId) : Option (Bool × Nat) :=
  match P.underlying t, P.info? t with
  | some (.struct _), some i => some (true, i.size)
  | some (.array _ _), some i => some (true, i.size)
  | some _, some i => some (false, i.size)
  | _, _ => none
/-- a type's zero, as cells -/
def zk (P : Program) (t : TypeId) : Option (Array Value) :=
  match P.info? t with
  | some i => match i.zero with
    | some z => if z.cells.all flat0 then some z.cells else none
    | none => none
  | none => none
/-- a field: where it begins, its type -/
def fk (P : Program) (s f : Nat) : Option (Nat × TypeId) :=
  match P.underlying s with
  | some (.struct fs) => match fs[f]? with
    | some d => some (d.offset, d.type)
    | none => none
  | _ => none
/-- an element's type of a slice's -/
def sk (P : Program) (t : TypeId) : Option TypeId := match P.underlying t with | some (.slice e) => some e | _ => none
/-- an array's length and element -/
def ak (P : Program) (t : TypeId) : Option (Nat × TypeId) := match P.underlying t with | some (.array n e) => some (n, e) | _ => none
/-- kinds of what is compared -/
def nk (P : Program) (t : TypeId) : Nat :=
  match P.underlying t with
  | some .bool => 1
  | some (.pointer _) => 2
  | some (.slice _) => 3
  | some (.func _ _ _) => 4
  | some (.interface _) => 5
  | _ => 0

abbrev Post (w0 : World) (B : Nat) (μ : Mu) (h : GH) (w : World) (gv : Value) (h' : GH) (r : Result Value) : Prop :=
  ∃ μ' v' w', r = .ok v' w' ∧ Inv w0 B μ' h' w' ∧ VR μ' gv v' ∧ Ext μ μ' h h' w w'
theorem Post.same {w0 : World} {B : Nat} {μ : Mu} {h : GH} {w : World} (hi : Inv w0 B μ h w) {gv v' : Value} (hv : VR μ gv v') {r : Result Value} (hr : r = .ok v' w) : Post w0 B μ h w gv h r :=
  ⟨μ, v', w, hr, hi, hv, Ext.refl _ _ _ hi.dom⟩

theorem tk_run {P : Program} {t : TypeId} {b : Bool} {n : Nat} (ht : tk P t = some (b, n)) (w : World) : (isAgg t).run P w = .ok b w ∧ (sizeOf t).run P w = .ok n w := by
  unfold tk at ht
  split at ht
  · rename_i h1 h2
    simp only [Option.some.injEq, Prod.mk.injEq] at ht
    obtain ⟨rfl, rfl⟩ := ht
    simp [isAgg, run_underlying h1, sizeOf, typeInfo, h2]
  · rename_i h1 h2
    simp only [Option.some.injEq, Prod.mk.injEq] at ht
    obtain ⟨rfl, rfl⟩ := ht
    simp [isAgg, run_underlying h1, sizeOf, typeInfo, h2]
  · rename_i d i h1 h2 h3 h4
    simp only [Option.some.injEq, Prod.mk.injEq] at ht
    obtain ⟨rfl, rfl⟩ := ht
    refine ⟨?_, by simp [sizeOf, typeInfo, h4]⟩
    simp only [isAgg, Sem.run_bind, run_underlying h3, Result.andThen_ok]
    cases d <;> first | rfl | (rename_i x; exact absurd rfl (h1 x)) | (rename_i x y; exact absurd rfl (h2 x y))
  · cases ht
theorem zk_run {P : Program} {t : TypeId} {z : Array Value} (ht : zk P t = some z) (w : World) : ∃ v, (zeroValue t).run P w = .ok v w ∧ v.cells = z ∧ z.all flat0 = true := by
  unfold zk at ht
  split at ht
  · rename_i i h1
    split at ht
    · rename_i z' h2
      split at ht
      · rename_i h3
        injection ht with ht
        subst ht
        exact ⟨z', by simp [zeroValue, typeInfo, h1, h2], rfl, h3⟩
      · cases ht
    · cases ht
  · cases ht

theorem LR.of_flat0 {μ : Mu} {l : List Value} (h : l.all flat0 = true) : LR μ l l :=
  ⟨rfl, fun i h1 _ => VR.of_flat0 (List.all_eq_true.1 h _ (List.getElem_mem h1))⟩
theorem one_of_flat0 {v : Value} (h : flat0 v = true) : v.oneCell' = true := by
  unfold flat0 at h; split at h <;> first | rfl | cases h
theorem ones_of_flat0 {l : List Value} (h : l.all flat0 = true) : ∀ v ∈ l, v.oneCell' = true := fun v hv => one_of_flat0 (List.all_eq_true.1 h v hv)

/-! ### The operations -/
def gPtr (g o : Nat) : Value := .pointer (some ⟨g, o, none⟩)
def gAlloc (P : Program) (t : TypeId) (h : GH) : Option (Value × GH) :=
  match zk P t with
  | some z => some (gPtr h.n 0, h.alloc ⟨z.toList, true, false⟩)
  | none => none
def gBox (v : Value) (h : GH) : Option (Value × GH) :=
  if v.cells.toList.all Value.oneCell' = true then some (gPtr h.n 0, h.alloc ⟨v.cells.toList, true, false⟩) else none
def gLoad (P : Program) (t : TypeId) (a : Value) (h : GH) : Option Value :=
  match a with
  | .pointer (some ⟨g, o, none⟩) =>
    match tk P t with
    | some (true, n) => (h.load g o n).map fun l => .agg l.toArray
    | some (false, _) => match h.load g o 1 with
      | some [v] => some v
      | _ => none
    | none => none
  | _ => none
def gStore (P : Program) (t : TypeId) (a v : Value) (h : GH) : Option GH :=
  match a with
  | .pointer (some ⟨g, o, none⟩) =>
    match tk P t with
    | some (_, n) => if v.cells.size = n then h.store g o v.cells.toList else none
    | none => none
  | _ => none
def gNil (v : Value) : Option Value :=
  match v with
  | .pointer (some a) => some (.pointer (some a))
  | .func (.func f) a b => some (.func (.func f) a b)
  | _ => none
def gFieldAddr (P : Program) (s : TypeId) (v : Value) (f : Nat) : Option Value :=
  match v with
  | .pointer (some ⟨g, o, none⟩) =>
    match fk P s f with
    | some (off, t) => match tk P t with
      | some (_, 0) => none
      | some (_, _) => some (gPtr g (o + off))
      | none => none
    | none => none
  | _ => none
def gPart (P : Program) (t : TypeId) (cs : Array Value) (off : Nat) : Option Value :=
  match tk P t with
  | some (true, n) => some (.agg (cs.extract off (off + n)))
  | some (false, _) => cs[off]?
  | none => none
def gField (P : Program) (s : TypeId) (v : Value) (f : Nat) : Option Value :=
  match v with
  | .agg cs => match fk P s f with
    | some (off, t) => gPart P t cs off
    | none => none
  | _ => none
def gIndexAddr (P : Program) (t : TypeId) (x i : Value) : Option Value :=
  match x, i with
  | .slice (some ⟨g, o, none⟩) len _, .int _ j =>
    match sk P t with
    | some e => match tk P e with
      | some (_, n) => if 0 ≤ j ∧ j < len then some (gPtr g (o + j.toNat * n)) else none
      | none => none
    | none => none
  | .pointer (some ⟨g, o, none⟩), .int _ j =>
    match ak P t with
    | some (len, e) => match tk P e with
      | some (_, n) => if 0 ≤ j ∧ j < len then some (gPtr g (o + j.toNat * n)) else none
      | none => none
    | none => none
  | _, _ => none
def gIndex (P : Program) (t : TypeId) (x i : Value) : Option Value :=
  match x, i with
  | .agg cs, .int _ j =>
    match ak P t with
    | some (len, e) => match tk P e with
      | some (_, n) => if 0 ≤ j ∧ j < len then gPart P e cs (j.toNat * n) else none
      | none => none
    | none => none
  | .string s, .int _ j =>
    match P.underlying t with
    | some .string => if 0 ≤ j then (s.data.toList[j.toNat]?).map fun b => .int .u8 b.toNat else none
    | _ => none
  | _, _ => none

section
variable {w0 : World} {B : Nat} {μ : Mu} {h : GH} {w : World} {P : Program}

theorem gAlloc_sound (hi : Inv w0 B μ h w) {t : TypeId} {gv : Value} {h' : GH} (hg : gAlloc P t h = some (gv, h')) :
    Post w0 B μ h w gv h' ((Instr.alloc t true (.tuple #[])).run P w) := by
  unfold gAlloc at hg
  split at hg
  case h_2 => cases hg
  rename_i z hz
  injection hg with hg
  injection hg with h1 h2
  subst h1 h2
  obtain ⟨v, hv, rfl, hf⟩ := zk_run hz w
  have hl : v.cells.toList.all flat0 = true := by simpa using hf
  obtain ⟨ha, hb⟩ := hi.alloc (cs := v.cells) (cells := v.cells.toList) (by rw [List.take_length]; exact LR.of_flat0 hl) (ones_of_flat0 hl) t 0
  refine ⟨_, .pointer (some ⟨w.heap.size, 0, none⟩), _, ?_, ha, ?_, hb⟩
  · simp only [Instr.alloc, Sem.run_bind, hv, Result.andThen_ok, newVar, newRow, run_newObj, Sem.run_pure]
    rfl
  · have := VR.ptr (μ := μ.put h.n ⟨w.heap.size, 0, v.cells.size, 0⟩) (o := 0) (μ.put_self h.n _)
    simpa [gPtr] using this
theorem gBox_sound (hi : Inv w0 B μ h w) {t : TypeId} {v v' : Value} (hv : VR μ v v') {gv : Value} {h' : GH} (hg : gBox v h = some (gv, h')) :
    Post w0 B μ h w gv h' ((Instr.box t v').run P w) := by
  unfold gBox at hg
  split at hg
  case isFalse => cases hg
  rename_i h1
  injection hg with hg
  injection hg with h2 h3
  subst h2 h3
  have hc := hv.cells.toList
  obtain ⟨ha, hb⟩ := hi.alloc (cs := v'.cells) (cells := v.cells.toList) (by rw [hc.1, List.take_length]; exact hc) (List.all_eq_true.1 h1) t 0
  refine ⟨_, .pointer (some ⟨w.heap.size, 0, none⟩), _, ?_, ha, ?_, hb⟩
  · simp only [Instr.box, Sem.run_bind, Result.andThen_ok, newVar, newRow, run_newObj, Sem.run_pure]
    rfl
  · have := VR.ptr (μ := μ.put h.n ⟨w.heap.size, 0, v'.cells.size, 0⟩) (o := 0) (μ.put_self h.n _)
    simpa [gPtr] using this

theorem VR.ptr_inv {g o : Nat} {v' : Value} (hv : VR μ (.pointer (some ⟨g, o, none⟩)) v') : ∃ m, μ g = some m ∧ v' = .pointer (some ⟨m.r, m.s + o, none⟩) := by
  cases hv with
  | ptr h => exact ⟨_, h, rfl⟩

theorem gLoad_sound (hi : Inv w0 B μ h w) {t : TypeId} {a a' : Value} (ha : VR μ a a') {gv : Value} (hg : gLoad P t a h = some gv) :
    ∃ v', (Instr.loadAt t a').run P w = .ok v' w ∧ VR μ gv v' := by
  unfold gLoad at hg
  split at hg
  case h_2 => cases hg
  rename_i g o
  obtain ⟨m, hm, rfl⟩ := ha.ptr_inv
  split at hg
  · rename_i n ht
    obtain ⟨l, hl, rfl⟩ := Option.map_eq_some_iff.1 hg
    obtain ⟨h1, l', h2, h3⟩ := hi.load hl hm
    obtain ⟨ht1, ht2⟩ := tk_run ht w
    have h4 : (loadCells ⟨m.r, m.s + o, none⟩ l'.length).run P w = .ok l'.toArray w :=
      run_loadCells_list (P := P) w _ l' (fun j v hv => by rw [Addr.add_mid]; exact h3 j v hv)
    have h5 : n = l'.length := h1 ▸ h2.1
    refine ⟨.agg l'.toArray, ?_, .agg h2.toArray.1 h2.toArray.2⟩
    simp only [Instr.loadAt, Instr.sureAddr, loadVar, Sem.run_bind, Sem.run_pure, Result.andThen_ok, ht1, if_true, ht2, h5, h4]
  · rename_i n ht
    split at hg
    · rename_i v hl
      injection hg with hg
      subst hg
      obtain ⟨h1, l', h2, h3⟩ := hi.load hl hm
      obtain ⟨ht1, ht2⟩ := tk_run ht w
      obtain ⟨v', h4, h5⟩ := h2.get (i := 0) (x := v) rfl
      have h6 := h3 0 v' h4
      refine ⟨v', ?_, h5⟩
      simp only [Nat.add_zero] at h6
      simp [Instr.loadAt, Instr.sureAddr, loadVar, ht1, h6]
    · cases hg
  · cases hg

theorem gStore_sound (hi : Inv w0 B μ h w) {t : TypeId} {a a' v v' : Value} (ha : VR μ a a') (hv : VR μ v v') {h' : GH} (hg : gStore P t a v h = some h') :
    ∃ w', (Instr.storeAt t a' v').run P w = .ok () w' ∧ Inv w0 B μ h' w' ∧ Ext μ μ h h' w w' := by
  unfold gStore at hg
  split at hg
  case h_2 => cases hg
  rename_i g o
  obtain ⟨m, hm, rfl⟩ := ha.ptr_inv
  split at hg
  case h_2 => cases hg
  rename_i b n ht
  split at hg
  case isFalse => cases hg
  rename_i hn
  obtain ⟨ht1, ht2⟩ := tk_run ht w
  have hc := hv.cells
  obtain ⟨h1, h2, h3⟩ := hi.store hg hm hc.toList P
  refine ⟨_, ?_, h2, h3⟩
  have h4 : v'.cells.size = n := hc.1 ▸ hn
  simp [Instr.storeAt, Instr.sureAddr, storeVar, ht2, h4, h1]

theorem gNil_sound {v v' : Value} (hv : VR μ v v') {gv : Value} (hg : gNil v = some gv) : gv = v ∧ ((∃ a, v' = .pointer (some a)) ∨ ∃ f a b, v' = .func (.func f) a b) := by
  unfold gNil at hg
  split at hg
  · injection hg with hg
    subst hg
    cases hv with
    | ptr h => exact ⟨rfl, .inl ⟨_, rfl⟩⟩
  · injection hg with hg
    subst hg
    cases hv with
    | func h1 h2 h3 h4 => exact ⟨rfl, .inr ⟨_, _, _, rfl⟩⟩
  · cases hg

theorem gFieldAddr_sound {s f : Nat} {v v' : Value} (hv : VR μ v v') {gv : Value} (hg : gFieldAddr P s v f = some gv) :
    ∃ u', (Instr.fieldAt s v' f).run P w = .ok u' w ∧ VR μ gv u' := by
  unfold gFieldAddr at hg
  split at hg
  case h_2 => cases hg
  rename_i g o
  obtain ⟨m, hm, rfl⟩ := hv.ptr_inv
  split at hg
  case h_2 => cases hg
  rename_i off t hf
  unfold fk at hf
  split at hf
  case h_2 => cases hf
  rename_i fs hu
  split at hf
  case h_2 => cases hf
  rename_i d hd
  injection hf with hf
  injection hf with h1 h2
  subst h1 h2
  split at hg
  · cases hg
  · rename_i b n hn ht
    obtain ⟨ht1, ht2⟩ := tk_run ht w
    injection hg with hg
    subst hg
    have hn0 : n ≠ 0 := fun e => by subst e; exact hn rfl
    refine ⟨.pointer (some ⟨m.r, m.s + o + d.offset, none⟩), ?_, ?_⟩
    · simp [Instr.fieldAt, run_underlying hu, hd, Instr.sureAddr, fieldPlace, ht2, hn0, Addr.add_mid]
    · rw [Nat.add_assoc]; exact .ptr hm
  · cases hg

theorem gPart_sound {t off : Nat} {c c' : Array Value} (hc : AR μ c c') {gv : Value} (hg : gPart P t c off = some gv) :
    ∃ u', (part t c' off).run P w = .ok u' w ∧ VR μ gv u' := by
  unfold gPart at hg
  split at hg
  · rename_i n ht
    obtain ⟨ht1, ht2⟩ := tk_run ht w
    injection hg with hg
    subst hg
    have := ((hc.toList.drop off).take n).toArray
    refine ⟨.agg (c'.extract off (off + n)), by simp [part, ht1, ht2], ?_⟩
    have e : ∀ x : Array Value, x.extract off (off + n) = ((x.toList.drop off).take n).toArray := by
      intro x
      apply Array.ext'
      simp
    rw [e, e]
    exact .agg this.1 this.2
  · rename_i n ht
    obtain ⟨ht1, ht2⟩ := tk_run ht w
    obtain ⟨v', h1, h2⟩ := hc.get hg
    exact ⟨v', by simp [part, ht1, h1], h2⟩
  · cases hg

theorem gField_sound {s f : Nat} {v v' : Value} (hv : VR μ v v') {gv : Value} (hg : gField P s v f = some gv) :
    ∃ u', (Instr.field s v' f).run P w = .ok u' w ∧ VR μ gv u' := by
  unfold gField at hg
  split at hg
  case h_2 => cases hg
  rename_i cs
  split at hg
  case h_2 => cases hg
  rename_i off t hf
  unfold fk at hf
  split at hf
  case h_2 => cases hf
  rename_i fs hu
  split at hf
  case h_2 => cases hf
  rename_i d hd
  injection hf with hf
  injection hf with h1 h2
  subst h1 h2
  cases hv with
  | agg h1 h2 =>
    obtain ⟨u', h3, h4⟩ := gPart_sound (w := w) (P := P) ⟨h1, h2⟩ hg
    exact ⟨u', by simp [Instr.field, run_underlying hu, hd, asAgg, h3], h4⟩

theorem VR.int_inv {k : IntKind} {n : Int} {v' : Value} (hv : VR μ (.int k n) v') : v' = .int k n := by cases hv; rfl
theorem VR.string_inv {s : ByteArray} {v' : Value} (hv : VR μ (.string s) v') : v' = .string s := by cases hv; rfl
theorem VR.bool_inv {b : Bool} {v' : Value} (hv : VR μ (.bool b) v') : v' = .bool b := by cases hv; rfl

theorem sk_run {t e : TypeId} (hs : sk P t = some e) : P.underlying t = some (.slice e) := by
  unfold sk at hs; split at hs
  · injection hs with hs; subst hs; assumption
  · cases hs
theorem ak_run {t n e : Nat} (hs : ak P t = some (n, e)) : P.underlying t = some (.array n e) := by
  unfold ak at hs; split at hs
  · injection hs with hs; injection hs with h1 h2; subst h1 h2; assumption
  · cases hs

theorem gIndexAddr_sound {t : Nat} {x x' i i' : Value} (hx : VR μ x x') (hii : VR μ i i') {gv : Value} (hg : gIndexAddr P t x i = some gv) :
    ∃ u', (Instr.indexAt t x' i').run P w = .ok u' w ∧ VR μ gv u' := by
  unfold gIndexAddr at hg
  split at hg
  · rename_i g o len cap k j
    have := hii.int_inv
    subst this
    split at hg
    case h_2 => cases hg
    rename_i e hs
    have hu := sk_run hs
    split at hg
    case h_2 => cases hg
    rename_i b n ht
    obtain ⟨ht1, ht2⟩ := tk_run ht w
    split at hg
    case isFalse => cases hg
    rename_i hj
    injection hg with hg
    subst hg
    cases hx with
    | slice hm h1 h2 =>
      refine ⟨_, ?_, VR.ptr (o := o + j.toNat * n) hm⟩
      simp [Instr.indexAt, asIntOf, run_underlying hu, hj, ht2, Addr.add_mid, Nat.add_assoc]
    | slice0 _ h1 => simp at hj; omega
  · rename_i g o k j
    have := hii.int_inv
    subst this
    obtain ⟨m, hm, rfl⟩ := hx.ptr_inv
    split at hg
    case h_2 => cases hg
    rename_i len e hs
    have hu := ak_run hs
    split at hg
    case h_2 => cases hg
    rename_i b n ht
    obtain ⟨ht1, ht2⟩ := tk_run ht w
    split at hg
    case isFalse => cases hg
    rename_i hj
    injection hg with hg
    subst hg
    refine ⟨_, ?_, VR.ptr (o := o + j.toNat * n) hm⟩
    simp [Instr.indexAt, Instr.sureAddr, asIntOf, run_underlying hu, hj, ht2, Addr.add_mid, Nat.add_assoc]
  · cases hg

theorem gIndex_sound {t : Nat} {x x' i i' : Value} (hx : VR μ x x') (hii : VR μ i i') {gv : Value} (hg : gIndex P t x i = some gv) :
    ∃ u', (Instr.index t x' i').run P w = .ok u' w ∧ VR μ gv u' := by
  unfold gIndex at hg
  split at hg
  · rename_i cs k j
    have := hii.int_inv
    subst this
    split at hg
    case h_2 => cases hg
    rename_i len e hs
    have hu := ak_run hs
    split at hg
    case h_2 => cases hg
    rename_i b n ht
    obtain ⟨ht1, ht2⟩ := tk_run ht w
    split at hg
    case isFalse => cases hg
    rename_i hj
    cases hx with
    | agg h1 h2 =>
      obtain ⟨u', h3, h4⟩ := gPart_sound (w := w) (P := P) ⟨h1, h2⟩ hg
      exact ⟨u', by simp [Instr.index, asIntOf, run_underlying hu, hj, ht2, h3], h4⟩
  · rename_i s k j
    have := hii.int_inv
    subst this
    have := hx.string_inv
    subst this
    split at hg
    case h_2 => cases hg
    rename_i hu
    split at hg
    case isFalse => cases hg
    rename_i hj
    obtain ⟨b, hb, rfl⟩ := Option.map_eq_some_iff.1 hg
    refine ⟨_, ?_, VR.int _ _⟩
    have hb2 : s[j.toNat]? = some b := by
      rw [Array.getElem?_toList] at hb
      obtain ⟨h1, h2⟩ := Array.getElem?_eq_some_iff.1 hb
      have h1' : j.toNat < s.size := h1
      rw [getElem?_pos s j.toNat h1']
      exact congrArg some h2
    simp [Instr.index, asIntOf, run_underlying hu, hj, hb2]
  · cases hg
end
end Go.Proofs.Gh
namespace Go.Proofs.Gh
open Go Go.RowKit

def isC : Operand → Bool
  | .const _ => true
  | _ => false
/-- a struct of two strings: are its fields told one by one -/
def s2 (P : Program) (t : TypeId) : Bool :=
  match P.underlying t with
  | some (.struct fs) => match fs.toList with
    | [f, g] => f.name != "_" && g.name != "_" && f.offset == 0 && g.offset == 1 &&
        (match P.underlying f.type, P.underlying g.type with | some .string, some .string => true | _, _ => false) && !P.stoodInHeld t && !P.eqGuardType P.depth t
    | _ => false
  | _ => false
def gInt (op : BinOp) (k k' : IntKind) (a b : Int) : Option Value :=
  match op with
  | .shl => if 0 ≤ b then some (.int k (k.wrap (a * 2 ^ min b.toNat k.bits))) else none
  | .shr => if 0 ≤ b then some (.int k (a.fdiv (2 ^ min b.toNat k.bits))) else none
  | op => if k = k' then (match op with
    | .add => some (.int k (k.wrap (a + b)))
    | .sub => some (.int k (k.wrap (a - b)))
    | .mul => some (.int k (k.wrap (a * b)))
    | .quo => if b = 0 then none else some (.int k (k.wrap (a.tdiv b)))
    | .rem => if b = 0 then none else some (.int k (a.tmod b))
    | .and => some (.int k (k.wrap (BitVec.ofInt k.bits a &&& BitVec.ofInt k.bits b).toNat))
    | .or => some (.int k (k.wrap (BitVec.ofInt k.bits a ||| BitVec.ofInt k.bits b).toNat))
    | .xor => some (.int k (k.wrap (BitVec.ofInt k.bits a ^^^ BitVec.ofInt k.bits b).toNat))
    | .eql => some (.bool (decide (a = b)))
    | .neq => some (.bool (decide (a ≠ b)))
    | .lss => some (.bool (decide (a < b)))
    | .leq => some (.bool (decide (a ≤ b)))
    | .gtr => some (.bool (decide (b < a)))
    | .geq => some (.bool (decide (b ≤ a)))
    | _ => none) else none
def gStr (op : BinOp) (a b : ByteArray) : Option Value :=
  match op with
  | .add => if a.size + b.size ≤ 4611686018427387904 then some (.string (a ++ b)) else none
  | .eql => some (.bool (decide (a = b)))
  | .neq => some (.bool (decide (a ≠ b)))
  | .lss => some (.bool (Op.bytesLess a.data.toList b.data.toList))
  | .gtr => some (.bool (!(Op.bytesLess a.data.toList b.data.toList || decide (a = b))))
  | _ => none
def gNeg (op : BinOp) (b : Bool) : Option Value :=
  match op with
  | .eql => some (.bool b)
  | .neq => some (.bool (!b))
  | _ => none
def gBin (P : Program) (op : BinOp) (t : TypeId) (c : Bool) (x y : Value) : Option Value :=
  match x, y with
  | .int k a, .int k' b => gInt op k k' a b
  | .string a, .string b => gStr op a b
  | .bool a, .bool b => if nk P t = 1 then gNeg op (a == b) else none
  | .pointer p, .pointer none => if nk P t = 2 then gNeg op p.isNone else none
  | .slice p _ _, .slice none 0 0 => if nk P t = 3 then gNeg op p.isNone else none
  | .nilFunc, .nilFunc => if nk P t = 4 then gNeg op true else none
  | .func _ _ _, .nilFunc => if nk P t = 4 then gNeg op false else none
  | .nilIface, .nilIface => if nk P t = 5 ∧ c = true then gNeg op true else none
  | .iface _ _, .nilIface => if nk P t = 5 then gNeg op false else none
  | .agg xs, .agg ys => match xs.toList, ys.toList with
    | [.string a, .string b], [.string c, .string d] => if s2 P t = true then gNeg op (decide (a = c) && decide (b = d)) else none
    | _, _ => none
  | _, _ => none
def gUn (op : UnOp) (x : Value) : Option Value :=
  match op, x with
  | .neg, .int k n => some (.int k (k.wrap (0 - n)))
  | .not, .bool b => some (.bool (!b))
  | _, _ => none

section
variable {w0 : World} {B : Nat} {μ : Mu} {h : GH} {w : World} {P : Program}
theorem beq_list_bytes (a b : ByteArray) : (a.toList == b.toList) = decide (a = b) := by
  rw [ByteArray.toList_eq, ByteArray.toList_eq, Bool.eq_iff_iff]
  simp only [beq_iff_eq, decide_eq_true_iff]
  constructor
  · intro h
    cases a; cases b
    simp at h
    rw [h]
  · rintro rfl; rfl
theorem beq_bytes (a b : ByteArray) : (a == b) = decide (a = b) := by
  show (a.data == b.data) = _
  rw [Bool.eq_iff_iff]
  simp [ByteArray.ext_iff]

theorem gInt_sound {op : BinOp} {k k' : IntKind} {a b : Int} {v : Value} (hg : gInt op k k' a b = some v) (t : TypeId) (w : World) : (binOp op t (.int k a) (.int k' b)).run P w = .ok v w := by
  cases op <;> simp only [gInt] at hg
  case shl =>
    split at hg
    · injection hg with hg; subst hg
      have hb : ¬ b < 0 := by omega
      simp [binOp, Op.shift, hb]
    · cases hg
  case shr =>
    split at hg
    · injection hg with hg; subst hg
      have hb : ¬ b < 0 := by omega
      simp [binOp, Op.shift, hb]
    · cases hg
  all_goals
    split at hg
    case isFalse => cases hg
    rename_i hk
    subst hk
    first
      | (injection hg with hg; subst hg; simp [binOp, Op.intArith, Op.intBits, Op.intCmp]; done)
      | (split at hg <;> first | (cases hg; done) | (rename_i hb; injection hg with hg; subst hg; simp [binOp, Op.intDiv, hb]; done))
      | (cases hg; done)
      | (injection hg with hg; subst hg; simp only [binOp, ne_eq, not_true, if_false, Op.intCmp, Sem.run_pure]; congr 2; done)
      | (injection hg with hg; subst hg; simp only [binOp, ne_eq, not_true, if_false, Op.intCmp, Sem.run_pure]; congr 2; rw [Bool.eq_iff_iff]; simp)

theorem gStr_sound {op : BinOp} {a b : ByteArray} {v : Value} (hg : gStr op a b = some v) (t : TypeId) (w : World) : (binOp op t (.string a) (.string b)).run P w = .ok v w := by
  cases op <;> simp only [gStr] at hg
  case add =>
    split at hg
    · rename_i h1
      injection hg with hg; subst hg
      have : ¬ (((a.size + b.size : Nat) : Int) > IntKind.i64.max) := by
        have : IntKind.i64.max = 9223372036854775807 := by decide
        omega
      simp only [binOp, Op.stringOp, if_neg this, Sem.run_pure]
    · cases hg
  all_goals first
    | (injection hg with hg; subst hg; simp only [binOp, Op.stringOp, beq_list_bytes, Sem.run_pure]; simp [ByteArray.toList_eq]; done)
    | (injection hg with hg; subst hg; simp only [binOp, Op.stringOp, beq_list_bytes, Sem.run_pure]; done)
    | (cases hg; done)

theorem nk_run {t : TypeId} {n : Nat} (hn : nk P t = n) : 
    (n = 1 → P.underlying t = some .bool) ∧ (n = 2 → ∃ e, P.underlying t = some (.pointer e)) ∧ (n = 3 → ∃ e, P.underlying t = some (.slice e)) ∧
    (n = 4 → ∃ a b c, P.underlying t = some (.func a b c)) ∧ (n = 5 → ∃ ms, P.underlying t = some (.interface ms)) := by
  unfold nk at hn
  split at hn <;> subst hn <;> simp_all

theorem gNeg_sound {op : BinOp} {b : Bool} {v : Value} (hg : gNeg op b = some v) : (op = .eql ∧ v = .bool b) ∨ (op = .neq ∧ v = .bool (!b)) := by
  cases op <;> simp only [gNeg] at hg <;> first | (cases hg; done) | (injection hg with hg; subst hg; simp)

theorem eqGuard_no {op : BinOp} {t : TypeId} {x y : Operand} {a b : Value} (h1 : ¬ (a = .nilIface ∧ b = .nilIface)) (h2 : ∀ c d, ¬ (a = .agg c ∧ b = .agg d)) (w : World) : (eqGuard op t x y a b).run P w = .ok () w := by
  cases op
  case eql | neq =>
    simp only [eqGuard, Bool.not_true, Bool.false_eq_true, if_false]
    split
    · exact absurd ⟨rfl, rfl⟩ h1
    · exact absurd ⟨rfl, rfl⟩ (h2 _ _)
    · rfl
  all_goals rfl
theorem neg_run {op : BinOp} {t : TypeId} {x y gv : Value} {b : Bool} (hg : gNeg op b = some gv) (w : World)
    (he : (Op.equal t x y).run P w = .ok b w) (hb1 : binOp .eql t x y = (do pure (.bool (← Op.equal t x y)))) (hb2 : binOp .neq t x y = (do pure (.bool (!(← Op.equal t x y))))) :
    (binOp op t x y).run P w = .ok gv w := by
  rcases gNeg_sound hg with ⟨rfl, rfl⟩ | ⟨rfl, rfl⟩
  · rw [hb1]; simp [he]
  · rw [hb2]; simp [he]

theorem eqi_bool (d : Nat) (t : TypeId) (a b : Bool) (hu : P.underlying t = some .bool) (w : World) : (Op.equalIn (d + 1) t (.bool a) (.bool b)).run P w = .ok (a == b) w := run_equalIn_bool' w d t a b hu
theorem eqi_ff (d : Nat) (t : TypeId) {x y : Array TypeId} {z : Bool} (hu : P.underlying t = some (.func x y z)) (w : World) : (Op.equalIn (d + 1) t .nilFunc .nilFunc).run P w = .ok true w := by
  simp [Op.equalIn, run_underlying hu]
theorem eqi_fn (d : Nat) (t : TypeId) {x y : Array TypeId} {z : Bool} (hu : P.underlying t = some (.func x y z)) (w : World) (f : Fn) (a b : Array Value) : (Op.equalIn (d + 1) t (.func f a b) .nilFunc).run P w = .ok false w := by
  simp [Op.equalIn, run_underlying hu]
theorem eqi_ii (d : Nat) (t : TypeId) {ms : Array (String × TypeId)} (hu : P.underlying t = some (.interface ms)) (w : World) : (Op.equalIn (d + 1) t .nilIface .nilIface).run P w = .ok true w := by
  simp [Op.equalIn, run_underlying hu]
theorem eqi_in (d : Nat) (t : TypeId) {ms : Array (String × TypeId)} (hu : P.underlying t = some (.interface ms)) (w : World) (u : TypeId) (v : Value) : (Op.equalIn (d + 1) t (.iface u v) .nilIface).run P w = .ok false w := by
  simp [Op.equalIn, run_underlying hu]
theorem eq_of_in {t : TypeId} {x y : Value} {b : Bool} {w : World} (h : ∀ d, (Op.equalIn (d + 1) t x y).run P w = .ok b w) : (Op.equal t x y).run P w = .ok b w := h 9999

theorem eq_of_in2 {t : TypeId} {x y : Value} {b : Bool} {w : World} (h : ∀ d, (Op.equalIn (d + 1 + 1) t x y).run P w = .ok b w) : (Op.equal t x y).run P w = .ok b w := h 9998

theorem eq_s2 {t : TypeId} {a b c d : ByteArray} (hs : s2 P t = true) (w : World) :
    (Op.equal t (.agg #[.string a, .string b]) (.agg #[.string c, .string d])).run P w = .ok (decide (a = c) && decide (b = d)) w ∧ P.eqGuardType P.depth t = false := by
  unfold s2 at hs
  split at hs
  case h_2 => cases hs
  rename_i fs hu
  split at hs
  case h_2 => cases hs
  rename_i f g hl
  simp only [Bool.and_eq_true, bne_iff_ne, ne_eq, beq_iff_eq, Bool.not_eq_true'] at hs
  obtain ⟨⟨⟨⟨⟨⟨h1, h2⟩, h3⟩, h4⟩, h5⟩, h6⟩, h7⟩ := hs
  split at h5
  case h_2 => cases h5
  rename_i hf hg
  refine ⟨eq_of_in2 fun n => ?_, h7⟩
  have hfs : P.fieldsOf t = fs := by simp [Program.fieldsOf, hu]
  rw [run_equalIn_struct w (n + 1) t _ _ (by rw [hfs]; exact hu) h6, hfs, hl]
  have ef : ∀ (x : Array Value) (s : ByteArray) (o : Nat), x[o]? = some (.string s) → ∀ u, P.underlying u = some .string → (part u x o).run P w = .ok (.string s) w := by
    intro x s o hx u hu
    simp [part, isAgg, run_underlying hu, hx]
  simp only [Op.eqFields, ne_eq, h1, h2, not_false_eq_true, if_true, h3, h4, Sem.run_bind, ef #[.string a, .string b] a 0 rfl _ hf, ef #[.string c, .string d] c 0 rfl _ hf, ef #[.string a, .string b] b 1 rfl _ hg, ef #[.string c, .string d] d 1 rfl _ hg, Result.andThen_ok,
    run_equalIn_string w n _ _ _ hf, run_equalIn_string w n _ _ _ hg, beq_list_bytes, Sem.run_ite, Sem.run_pure]
  by_cases e1 : a = c <;> by_cases e2 : b = d <;> simp [e1, e2]

theorem gNeg_flat {op : BinOp} {b : Bool} {gv : Value} (hg : gNeg op b = some gv) : VR μ gv gv := by
  rcases gNeg_sound hg with ⟨_, rfl⟩ | ⟨_, rfl⟩ <;> exact .bool _

theorem gBin_sound {op : BinOp} {t : TypeId} {x y : Operand} {a b a' b' : Value} (ha : VR μ a a') (hb : VR μ b b') {gv : Value} (hg : gBin P op t (isC x || isC y) a b = some gv) (w : World) :
    ((do eqGuard op t x y a' b'; binOp op t a' b' : Sem Value)).run P w = .ok gv w ∧ VR μ gv gv := by
  unfold gBin at hg
  split at hg
  · rw [ha.int_inv, hb.int_inv]
    refine ⟨?_, ?_⟩
    · rw [Sem.run_bind, eqGuard_no (by simp) (by simp)]
      exact gInt_sound hg t w
    · have : flat gv = true := by
        revert hg
        unfold gInt
        split <;> (repeat' split) <;> simp <;> rintro rfl <;> rfl
      exact VR.of_flat this
  · rw [ha.string_inv, hb.string_inv]
    refine ⟨?_, ?_⟩
    · rw [Sem.run_bind, eqGuard_no (by simp) (by simp)]
      exact gStr_sound hg t w
    · have : flat gv = true := by
        revert hg
        unfold gStr
        split <;> (repeat' split) <;> simp <;> rintro rfl <;> rfl
      exact VR.of_flat this
  · rw [ha.bool_inv, hb.bool_inv]
    split at hg
    case isFalse => cases hg
    rename_i hn
    have hu := (nk_run hn).1 rfl
    refine ⟨?_, gNeg_flat hg⟩
    rw [Sem.run_bind, eqGuard_no (by simp) (by simp)]
    exact neg_run hg w (eq_of_in fun d => eqi_bool d t _ _ hu w) rfl rfl
  · rename_i p
    cases hb
    split at hg
    case isFalse => cases hg
    rename_i hn
    obtain ⟨e, hu⟩ := (nk_run hn).2.1 rfl
    refine ⟨?_, gNeg_flat hg⟩
    have key : ∀ q : Option Addr, q.isNone = p.isNone → ((do eqGuard op t x y (.pointer q) (.pointer none); binOp op t (.pointer q) (.pointer none) : Sem Value)).run P w = .ok gv w := by
      intro q hq
      rw [Sem.run_bind, eqGuard_no (by simp) (by simp)]
      rw [← hq] at hg
      refine neg_run hg w (eq_of_in fun d => ?_) ?_ ?_
      · cases q <;> simp [Op.equalIn, run_underlying hu]
      · cases q <;> rfl
      · cases q <;> rfl
    cases ha with
    | nilPtr => exact key none rfl
    | ptr h => exact key _ rfl
  · rename_i p l c
    cases hb
    split at hg
    case isFalse => cases hg
    rename_i hn
    obtain ⟨e, hu⟩ := (nk_run hn).2.2.1 rfl
    refine ⟨?_, gNeg_flat hg⟩
    have key : ∀ (q : Option Addr) l' c', q.isNone = p.isNone → ((do eqGuard op t x y (.slice q l' c') (.slice none 0 0); binOp op t (.slice q l' c') (.slice none 0 0) : Sem Value)).run P w = .ok gv w := by
      intro q l' c' hq
      rw [Sem.run_bind, eqGuard_no (by simp) (by simp)]
      rw [← hq] at hg
      exact neg_run hg w (eq_of_in fun d => run_equalIn_slice_nil w d t e q l' c' hu) rfl rfl
    cases ha with
    | nilSlice => exact key none _ _ rfl
    | slice _ _ _ => exact key _ _ _ rfl
    | slice0 _ _ => exact key _ _ _ rfl
  · cases ha
    cases hb
    split at hg
    case isFalse => cases hg
    rename_i hn
    obtain ⟨a, b, c, hu⟩ := (nk_run hn).2.2.2.1 rfl
    refine ⟨?_, gNeg_flat hg⟩
    rw [Sem.run_bind, eqGuard_no (by simp) (by simp)]
    exact neg_run hg w (eq_of_in fun d => eqi_ff d t hu w) rfl rfl
  · cases hb
    split at hg
    case isFalse => cases hg
    rename_i hn
    obtain ⟨a, b, c, hu⟩ := (nk_run hn).2.2.2.1 rfl
    refine ⟨?_, gNeg_flat hg⟩
    cases ha with
    | func h1 h2 h3 h4 =>
      rw [Sem.run_bind, eqGuard_no (by simp) (by simp)]
      exact neg_run hg w (eq_of_in fun d => eqi_fn d t hu w _ _ _) rfl rfl
  · cases ha
    cases hb
    split at hg
    case isFalse => cases hg
    rename_i hn
    obtain ⟨ms, hu⟩ := (nk_run hn.1).2.2.2.2 rfl
    refine ⟨?_, gNeg_flat hg⟩
    have hgd : ∀ (op : BinOp) (x y : Operand), (isC x || isC y) = true → (eqGuard op t x y .nilIface .nilIface).run P w = .ok () w := by
      intro op x y hc
      cases op
      case eql | neq =>
        cases x <;> cases y <;> first | (simp [isC] at hc; done) | rfl
      all_goals rfl
    rw [Sem.run_bind, hgd op x y hn.2]
    exact neg_run hg w (eq_of_in fun d => eqi_ii d t hu w) rfl rfl
  · cases hb
    split at hg
    case isFalse => cases hg
    rename_i hn
    obtain ⟨ms, hu⟩ := (nk_run hn).2.2.2.2 rfl
    refine ⟨?_, gNeg_flat hg⟩
    cases ha with
    | iface h =>
      rw [Sem.run_bind, eqGuard_no (by simp) (by simp)]
      exact neg_run hg w (eq_of_in fun d => eqi_in d t hu w _ _) rfl rfl
    | err =>
      rw [Sem.run_bind, eqGuard_no (by simp) (by simp)]
      exact neg_run hg w (eq_of_in fun d => eqi_in d t hu w _ _) rfl rfl
  · rename_i xs ys
    split at hg
    case h_2 => cases hg
    rename_i a b c d hx hy
    split at hg
    case isFalse => cases hg
    rename_i hs
    have ex : xs = #[.string a, .string b] := by apply Array.ext'; rw [hx]
    have ey : ys = #[.string c, .string d] := by apply Array.ext'; rw [hy]
    subst ex ey
    have fa : flat (.agg #[.string a, .string b]) = true := by simp [flat, flat1, flat0]
    have fb : flat (.agg #[.string c, .string d]) = true := by simp [flat, flat1, flat0]
    rw [ha.eq fa, hb.eq fb]
    obtain ⟨h1, h2⟩ := eq_s2 (a := a) (b := b) (c := c) (d := d) hs w
    refine ⟨?_, gNeg_flat hg⟩
    rw [Sem.run_bind, run_eqGuard_agg w op t x y _ _ h2]
    exact neg_run hg w h1 rfl rfl
  · cases hg

theorem gUn_sound {op : UnOp} {x x' : Value} (hx : VR μ x x') {gv : Value} (hg : gUn op x = some gv) (w : World) : (Op.unary op x').run P w = .ok gv w ∧ VR μ gv gv := by
  unfold gUn at hg
  split at hg
  · injection hg with hg
    subst hg
    rw [hx.int_inv]
    exact ⟨by simp [Op.unary, Op.intArith], .int _ _⟩
  · injection hg with hg
    subst hg
    rw [hx.bool_inv]
    exact ⟨by simp [Op.unary], .bool _⟩
  · cases hg
end
end Go.Proofs.Gh
namespace Go.Proofs.Gh
open Go Go.RowKit

/-- n times the cells z -/
def rep (n : Nat) (z : List Value) : List Value := (List.replicate n z).flatten
theorem rep_length (n : Nat) (z : List Value) : (rep n z).length = n * z.length := by
  simp [rep, List.length_flatten, List.map_replicate, List.sum_replicate_nat]
theorem rep_get (n : Nat) (z : List Value) (i : Nat) : (rep n z)[i]? = if i < n * z.length then z[i % z.length]? else none := by
  induction n generalizing i with
  | zero => simp [rep]
  | succ n ih =>
    have e : rep (n + 1) z = z ++ rep n z := by simp [rep, List.replicate_succ]
    rw [e, List.getElem?_append]
    split
    · rename_i h
      rw [if_pos (by rw [Nat.add_mul]; omega), Nat.mod_eq_of_lt h]
    · rename_i h
      rw [ih]
      by_cases hz : z.length = 0
      · simp [hz]
      have hm : (i - z.length) % z.length = i % z.length := by
        rw [← Nat.mod_eq_sub_mod (by omega)]
      rw [hm]
      by_cases h2 : i < (n + 1) * z.length
      · rw [if_pos h2, if_pos (by rw [Nat.add_mul] at h2; omega)]
      · rw [if_neg h2, if_neg (by rw [Nat.add_mul] at h2; omega)]
theorem rep_array (z : Array Value) (n : Nat) : ((Array.range (n * z.size)).map (fun i => z[i % z.size]!)).toList = rep n z.toList := by
  apply List.ext_getElem?
  intro i
  rw [rep_get]
  simp only [Array.length_toList, Array.toList_map, Array.toList_range, List.getElem?_map]
  by_cases h : i < n * z.size
  · rw [if_pos h, List.getElem?_range h]
    have hz : 0 < z.size := by
      rcases Nat.eq_zero_or_pos z.size with h0 | h0
      · rw [h0] at h; omega
      · exact h0
    have hlt := Nat.mod_lt i hz
    simp [hlt]
  · rw [if_neg h, List.getElem?_eq_none (by simp; omega)]
    rfl
theorem mem_rep {n : Nat} {z : List Value} {v : Value} (h : v ∈ rep n z) : v ∈ z := by
  simp only [rep, List.mem_flatten, List.mem_replicate] at h
  obtain ⟨l, ⟨_, rfl⟩, h⟩ := h
  exact h
theorem rep_flat {n : Nat} {z : List Value} (h : z.all flat0 = true) : (rep n z).all flat0 = true :=
  List.all_eq_true.2 fun v hv => List.all_eq_true.1 h v (mem_rep hv)

def gMake (P : Program) (t : TypeId) (l c : Value) (h : GH) : Option (Value × GH) :=
  match l, c with
  | .int _ a, .int _ b =>
    match sk P t with
    | some e => match zk P e with
      | some z => if P.cellsOf e = z.size ∧ 0 ≤ a ∧ a ≤ b ∧ b ≤ 4611686018427387904 ∧ (P.bytesOf e : Int) * b ≤ 140737488355328 then
          some (.slice (some ⟨h.n, 0, none⟩) a.toNat b.toNat, h.alloc ⟨rep b.toNat z.toList, true, false⟩) else none
      | none => none
    | none => none
  | _, _ => none
/-- a bound -/
def gBd (d : Nat) : Option Value → Option Nat
  | none => some d
  | some (.int _ j) => if 0 ≤ j then some j.toNat else none
  | some _ => none
def gSlice (P : Program) (t : TypeId) (x : Value) (lo hi mx : Option Value) : Option Value :=
  match x with
  | .string s =>
    match P.underlying t, gBd 0 lo, gBd s.size hi, mx with
    | some .string, some l, some u, none => if l ≤ u ∧ u ≤ s.size then some (.string (s.extract l u)) else none
    | _, _, _, _ => none
  | .slice a len c =>
    match sk P t with
    | some e => match tk P e, gBd 0 lo, gBd len hi, gBd 0 mx with
      | some (_, n), some l, some u, some m =>
        match a with
        | none => if len = 0 ∧ c = 0 ∧ l ≤ u ∧ u = 0 ∧ m = 0 ∧ (mx.isSome = true → hi.isSome = true) then some (.slice none 0 0) else none
        | some ⟨g, o, none⟩ =>
          if mx.isSome then (if hi.isSome = true ∧ l ≤ u ∧ u ≤ m ∧ m < unk ∧ m ≤ (if unk ≤ c then len else c) then some (.slice (some ⟨g, o + l * n, none⟩) (u - l) (m - l)) else none)
          else if l ≤ u ∧ u ≤ (if unk ≤ c then len else c) ∧ (unk ≤ c → c = unk ∨ c = unk + n) then
            some (.slice (some ⟨g, o + l * n, none⟩) (u - l) (if unk ≤ c then c else c - l)) else none
        | _ => none
      | _, _, _, _ => none
    | none => none
  | .pointer (some ⟨g, o, none⟩) =>
    match ak P t with
    | some (len, e) => match tk P e, gBd 0 lo, gBd len hi, mx with
      | some (_, n), some l, some u, none => if l ≤ u ∧ u ≤ len ∧ len < unk then some (.slice (some ⟨g, o + l * n, none⟩) (u - l) (len - l)) else none
      | _, _, _, _ => none
    | none => none
  | _ => none

section
variable {w0 : World} {B : Nat} {μ : Mu} {h : GH} {w : World} {P : Program}

theorem cellsOf_info {t : TypeId} {i : TypeInfo} (h : P.info? t = some i) : P.cellsOf t = i.size ∧ P.bytesOf t = i.bytes := by
  simp [Program.cellsOf, Program.bytesOf, h]
theorem zk_info {t : TypeId} {z : Array Value} (ht : zk P t = some z) : ∃ i v, P.info? t = some i ∧ i.zero = some v ∧ v.cells = z ∧ z.all flat0 = true := by
  unfold zk at ht
  split at ht
  · rename_i i h1
    split at ht
    · rename_i z' h2
      split at ht
      · rename_i h3
        injection ht with ht
        subst ht
        exact ⟨i, z', h1, h2, rfl, h3⟩
      · cases ht
    · cases ht
  · cases ht

theorem gMake_sound (hi : Inv w0 B μ h w) {t : TypeId} {l l' c c' : Value} (hl : VR μ l l') (hc : VR μ c c') {gv : Value} {h' : GH} (hg : gMake P t l c h = some (gv, h')) :
    Post w0 B μ h w gv h' ((Instr.makeSlice t l' c').run P w) := by
  unfold gMake at hg
  split at hg
  case h_2 => cases hg
  rename_i k1 a k2 b
  rw [hl.int_inv, hc.int_inv]
  split at hg
  case h_2 => cases hg
  rename_i e hs
  have hu := sk_run hs
  split at hg
  case h_2 => cases hg
  rename_i z hz
  split at hg
  case isFalse => cases hg
  rename_i hcond
  obtain ⟨h1, h2, h3, h4, h5⟩ := hcond
  injection hg with hg
  injection hg with e1 e2
  subst e1 e2
  obtain ⟨i, v, hi1, hi2, rfl, hf⟩ := zk_info hz
  obtain ⟨c1, c2⟩ := cellsOf_info hi1
  rw [c1] at h1
  rw [c2] at h5
  have hrun := run_make (P := P) w t e i v hu hi1 hi2 k1 k2 a b h2 h3 (by omega) (by omega)
  have hmade : (madeCells v.cells (b.toNat * i.size)).toList = rep b.toNat v.cells.toList := by
    have := rep_array v.cells b.toNat
    rw [← h1] at this
    simpa [madeCells, h1] using this
  have hfl : v.cells.toList.all flat0 = true := by simpa using hf
  obtain ⟨ha, hb⟩ := hi.alloc (cs := madeCells v.cells (b.toNat * i.size)) (cells := rep b.toNat v.cells.toList)
    (by rw [hmade, List.take_length]; exact LR.of_flat0 (rep_flat hfl)) (ones_of_flat0 (rep_flat hfl)) e v.cells.size
  refine ⟨_, _, _, hrun, ha, ?_, hb⟩
  have := VR.slice (μ := μ.put h.n ⟨w.heap.size, 0, (madeCells v.cells (b.toNat * i.size)).size, v.cells.size⟩) (o := 0) (len := a.toNat) (c := b.toNat) (c' := b.toNat) (μ.put_self h.n _) (by omega) (.inl ⟨rfl, by unfold unk; omega⟩)
  simpa using this

def OR (μ : Mu) (x x' : Option Value) : Prop := (x = none ∧ x' = none) ∨ ∃ v v', x = some v ∧ x' = some v' ∧ VR μ v v'
theorem OR.map {ρ ρ' : Operand → Value} (hρ : ∀ x, VR μ (ρ x) (ρ' x)) (x : Option Operand) : OR μ (x.map ρ) (x.map ρ') := by
  cases x with
  | none => exact .inl ⟨rfl, rfl⟩
  | some x => exact .inr ⟨_, _, rfl, rfl, hρ x⟩
theorem gBd_sound {d n : Nat} {x x' : Option Value} (hg : gBd d x = some n) (hx : OR μ x x') :
    x' = x ∧ ((x = none ∧ n = d) ∨ ∃ k j, x = some (.int k j) ∧ 0 ≤ j ∧ n = j.toNat) := by
  unfold gBd at hg
  split at hg
  · injection hg with hg
    rcases hx with ⟨_, h2⟩ | ⟨_, _, h1, _⟩
    · exact ⟨h2, .inl ⟨rfl, hg.symm⟩⟩
    · cases h1
  · rename_i k j
    split at hg
    · injection hg with hg
      rcases hx with ⟨h1, _⟩ | ⟨v, v', h1, h2, h3⟩
      · cases h1
      · injection h1 with h1
        subst h1
        rw [h3.int_inv] at h2
        exact ⟨h2, .inr ⟨k, j, rfl, by assumption, hg.symm⟩⟩
    · cases hg
  · cases hg
theorem bound_run {k : IntKind} {j : Int} {y : Nat} {code : BoundsCode} (h0 : 0 ≤ j) (h1 : j.toNat ≤ y) (w : World) : (Instr.sliceBound (.int k j) y code).run P w = .ok j.toNat w := by
  have h2 : j ≤ y := by omega
  simp [Instr.sliceBound, asIntOf, h0, h2]
theorem bounds_run {is : Bool} {len cap l u : Nat} {lo hi : Option Value} (hl : (lo = none ∧ l = 0) ∨ ∃ k j, lo = some (.int k j) ∧ 0 ≤ j ∧ l = j.toNat)
    (hu : (hi = none ∧ u = len) ∨ ∃ k j, hi = some (.int k j) ∧ 0 ≤ j ∧ u = j.toNat) (h1 : l ≤ u) (h2 : u ≤ cap) (w : World) :
    (Instr.sliceBounds is len cap lo hi none).run P w = .ok (l, u, cap) w := by
  rcases hl with ⟨rfl, rfl⟩ | ⟨k, j, rfl, h3, rfl⟩ <;> rcases hu with ⟨rfl, rfl⟩ | ⟨k2, j2, rfl, h4, rfl⟩
  · simp [Instr.sliceBounds]
  · simp [Instr.sliceBounds, bound_run h4 h2]
  · simp [Instr.sliceBounds, bound_run h3 h1]
  · simp [Instr.sliceBounds, bound_run h3 h1, bound_run h4 h2]
theorem bounds_run3 {is : Bool} {len cap l u m : Nat} {lo hi mx : Option Value} (hl : (lo = none ∧ l = 0) ∨ ∃ k j, lo = some (.int k j) ∧ 0 ≤ j ∧ l = j.toNat)
    (hu : ∃ k j, hi = some (.int k j) ∧ 0 ≤ j ∧ u = j.toNat) (hm : ∃ k j, mx = some (.int k j) ∧ 0 ≤ j ∧ m = j.toNat) (h1 : l ≤ u) (h2 : u ≤ m) (h3 : m ≤ cap) (w : World) :
    (Instr.sliceBounds is len cap lo hi mx).run P w = .ok (l, u, m) w := by
  obtain ⟨k2, j2, rfl, h4, rfl⟩ := hu
  obtain ⟨k3, j3, rfl, h5, rfl⟩ := hm
  rcases hl with ⟨rfl, rfl⟩ | ⟨k, j, rfl, h6, rfl⟩
  · simp [Instr.sliceBounds, bound_run h4 h2, bound_run h5 h3]
  · simp [Instr.sliceBounds, bound_run h4 h2, bound_run h5 h3, bound_run h6 h1]

theorem gSlice_sound {w : World} {t : TypeId} {x x' : Value} {lo lo' hi hi' mx mx' : Option Value} (hx : VR μ x x') (hlo : OR μ lo lo') (hhi : OR μ hi hi') (hmx : OR μ mx mx')
    {gv : Value} (hg : gSlice P t x lo hi mx = some gv) : ∃ v', (Instr.sliceAt t x' lo' hi' mx').run P w = .ok v' w ∧ VR μ gv v' := by
  unfold gSlice at hg
  split at hg
  · rename_i s
    rw [hx.string_inv]
    split at hg
    · rename_i l u hu h1 h2
      obtain ⟨e1, h1⟩ := gBd_sound h1 hlo
      obtain ⟨e2, h2⟩ := gBd_sound h2 hhi
      have e3 : mx' = none := by
        rcases hmx with ⟨_, h⟩ | ⟨_, _, h, _⟩
        · exact h
        · cases h
      subst e1 e2 e3
      split at hg
      · rename_i hc
        injection hg with hg
        subst hg
        refine ⟨_, ?_, .string _⟩
        simp [Instr.sliceAt, run_underlying hu, Instr.slice, bounds_run (P := P) (is := false) h1 h2 hc.1 hc.2]
      · cases hg
    · cases hg
  · rename_i a len c
    split at hg
    case h_2 => cases hg
    rename_i e hs
    have hu := sk_run hs
    split at hg
    case h_2 => cases hg
    rename_i bb n l u m ht h1 h2 h3
    obtain ⟨e1, h1⟩ := gBd_sound h1 hlo
    obtain ⟨e2, h2⟩ := gBd_sound h2 hhi
    obtain ⟨e3, h3⟩ := gBd_sound h3 hmx
    rw [e1, e2, e3]
    clear e1 e2 e3 hlo hhi hmx
    obtain ⟨_, ht2⟩ := tk_run ht w
    have hrun : ∀ (a' : Option Addr) (c' m' : Nat), (Instr.sliceBounds true len c' lo hi mx).run P w = .ok (l, u, m') w →
        (Instr.sliceAt t (.slice a' len c') lo hi mx).run P w = .ok (.slice (if m' = l then a' else a'.map (·.add (l * n))) (u - l) (m' - l)) w := by
      intro a' c' m' hb
      simp [Instr.sliceAt, run_underlying hu, Instr.slice, hb, ht2]
    split at hg
    · split at hg
      · rename_i hc
        obtain ⟨rfl, rfl, h4, rfl, rfl, hmh⟩ := hc
        injection hg with hg
        subst hg
        cases hx
        have hl0 : l = 0 := by omega
        subst hl0
        refine ⟨.slice none 0 0, ?_, .nilSlice⟩
        rcases h3 with ⟨rfl, _⟩ | ⟨k, j, rfl, hj, hj2⟩
        · have hb := hrun none 0 0 (bounds_run h1 h2 (Nat.le_refl _) (Nat.le_refl _) w)
          simpa using hb
        · rcases h2 with ⟨rfl, _⟩ | ⟨k2, j2, rfl, hj3, hj4⟩
          · exact absurd (hmh rfl) (by simp)
          · have hb := hrun none 0 0 (bounds_run3 h1 ⟨k2, j2, rfl, hj3, hj4⟩ ⟨k, j, rfl, hj, hj2⟩ (Nat.le_refl _) (Nat.le_refl _) (Nat.le_refl _) w)
            simpa using hb
      · cases hg
    · rename_i g o
      by_cases hms : mx.isSome = true
      · rw [if_pos hms] at hg
        by_cases hc : hi.isSome = true ∧ l ≤ u ∧ u ≤ m ∧ m < unk ∧ m ≤ (if unk ≤ c then len else c)
        case neg => rw [if_neg hc] at hg; cases hg
        rw [if_pos hc] at hg
        obtain ⟨hh, h5, h6, hmu, h7⟩ := hc
        injection hg with hg
        subst hg
        have hm3 : ∃ k j, mx = some (.int k j) ∧ 0 ≤ j ∧ m = j.toNat := by
          rcases h3 with ⟨rfl, _⟩ | h3
          · cases hms
          · exact h3
        have hu3 : ∃ k j, hi = some (.int k j) ∧ 0 ≤ j ∧ u = j.toNat := by
          rcases h2 with ⟨rfl, _⟩ | h2
          · cases hh
          · exact h2
        cases hx with
        | slice hm hle hcap =>
          rename_i mm c'
          have hcc : m ≤ c' := by
            rcases hcap with ⟨rfl, hlt⟩ | ⟨e', rfl, _⟩
            · rw [if_neg (by omega)] at h7; exact h7
            · rw [if_pos (by omega)] at h7; omega
          have hb := hrun (some ⟨mm.r, mm.s + o, none⟩) c' m (bounds_run3 h1 hu3 hm3 h5 h6 hcc w)
          refine ⟨_, hb, ?_⟩
          by_cases hml : m = l
          · subst hml
            have hul : u = m := by omega
            subst hul
            simp only [if_true, Nat.sub_self]
            exact .slice0 hm (.inl rfl)
          · rw [if_neg hml]
            have := VR.slice (μ := μ) (o := o + l * n) (len := u - l) (c := m - l) (c' := m - l) hm (by omega) (.inl ⟨rfl, by omega⟩)
            simpa [Addr.add_mid, Nat.add_assoc] using this
        | @slice0 _ _ _ a' _ hm hc0 =>
          have hm0 : m = 0 := by
            rcases hc0 with rfl | hc0
            · rw [if_neg (by decide)] at h7; omega
            · rw [if_pos hc0] at h7; omega
          have hb := hrun (some a') 0 m (bounds_run3 h1 hu3 hm3 h5 h6 (by omega) w)
          refine ⟨_, hb, ?_⟩
          have hl0 : l = 0 := by omega
          have hu0 : u = 0 := by omega
          subst hl0 hu0 hm0
          simp only [if_true, Nat.sub_self]
          exact .slice0 hm (.inl rfl)
      · rw [if_neg hms] at hg
        have hmx0 : mx = none := by cases mx with
          | none => rfl
          | some _ => simp at hms
        subst hmx0
        by_cases hc : l ≤ u ∧ u ≤ (if unk ≤ c then len else c) ∧ (unk ≤ c → c = unk ∨ c = unk + n)
        case neg => rw [if_neg hc] at hg; cases hg
        rw [if_pos hc] at hg
        obtain ⟨h5, h7, h8⟩ := hc
        injection hg with hg
        subst hg
        cases hx with
        | slice hm hle hcap =>
          rename_i mm c'
          have hcc : u ≤ c' := by
            rcases hcap with ⟨rfl, hlt⟩ | ⟨e', rfl, _⟩
            · rw [if_neg (by omega)] at h7; exact h7
            · rw [if_pos (by omega)] at h7; omega
          have hb := hrun (some ⟨mm.r, mm.s + o, none⟩) c' c' (bounds_run h1 h2 h5 hcc w)
          refine ⟨_, hb, ?_⟩
          by_cases hml : c' = l
          · subst hml
            have hul : u = c' := by omega
            subst hul
            simp only [if_true, Nat.sub_self]
            refine .slice0 hm ?_
            rcases hcap with ⟨rfl, hlt⟩ | ⟨e', rfl, _⟩
            · rw [if_neg (by omega)]; exact .inl (Nat.sub_self _)
            · rw [if_pos (by omega)]; exact .inr (by omega)
          · rw [if_neg hml]
            have := VR.slice (μ := μ) (o := o + l * n) (len := u - l) (c := if unk ≤ c then c else c - l) (c' := c' - l) hm (by omega) ?_
            · simpa [Addr.add_mid, Nat.add_assoc] using this
            · rcases hcap with ⟨rfl, hcu⟩ | ⟨e', rfl, hcap⟩
              · rw [if_neg (by omega)]
                exact .inl ⟨rfl, by omega⟩
              · rw [if_pos (by omega)]
                refine .inr ⟨e', rfl, ?_⟩
                rcases hcap with h9 | ⟨h9, h10⟩
                · exact .inl h9
                · rcases h8 (by omega) with h11 | h11
                  · left; omega
                  · right
                    have : e' = n := by omega
                    subst this
                    refine ⟨h9, ?_⟩
                    have : l * e' + (c' - l) * e' = c' * e' := by rw [← Nat.add_mul]; congr 1; omega
                    omega
        | @slice0 _ _ _ a' _ hm hc0 =>
          have hu0 : u = 0 := by
            rcases hc0 with rfl | hc0
            · rw [if_neg (by decide)] at h7; omega
            · rw [if_pos hc0] at h7; omega
          have hl0 : l = 0 := by omega
          subst hl0 hu0
          have hb := hrun (some a') 0 0 (bounds_run h1 h2 (Nat.le_refl _) (Nat.le_refl _) w)
          refine ⟨_, hb, ?_⟩
          simp only [if_true, Nat.sub_self]
          refine .slice0 hm ?_
          rcases hc0 with rfl | hc0
          · left; rw [if_neg (by decide)]
          · right; rw [if_pos hc0]; exact hc0
    · cases hg
  · rename_i g o
    obtain ⟨m, hm, rfl⟩ := hx.ptr_inv
    split at hg
    case h_2 => cases hg
    rename_i len e hs
    have hu := ak_run hs
    split at hg
    case h_2 => cases hg
    rename_i bb n l u ht h1 h2
    obtain ⟨e1, h1⟩ := gBd_sound h1 hlo
    obtain ⟨e2, h2⟩ := gBd_sound h2 hhi
    have e3 : mx' = none := by
      rcases hmx with ⟨_, h⟩ | ⟨_, _, h, _⟩
      · exact h
      · cases h
    subst e1 e2 e3
    obtain ⟨_, ht2⟩ := tk_run ht w
    split at hg
    case isFalse => cases hg
    rename_i hc
    injection hg with hg
    subst hg
    refine ⟨.slice (some (if len = l then ⟨m.r, m.s + o, none⟩ else ⟨m.r, m.s + o + l * n, none⟩)) (u - l) (len - l), ?_, ?_⟩
    · simp [Instr.sliceAt, run_underlying hu, Instr.sureAddr, bounds_run (P := P) (is := false) h1 h2 hc.1 hc.2.1, ht2, Addr.add_mid]
    · by_cases hml : len = l
      · subst hml
        have hul : u = len := by omega
        subst hul
        simp only [if_true, Nat.sub_self]
        exact .slice0 hm (.inl rfl)
      · rw [if_neg hml]
        have := VR.slice (μ := μ) (o := o + l * n) (len := u - l) (c := len - l) (c' := len - l) hm (by omega) (.inl ⟨rfl, by omega⟩)
        simpa [Nat.add_assoc] using this
  · cases hg
end
end Go.Proofs.Gh
namespace Go.Proofs.Gh
open Go Go.RowKit

def fillL (pf : Nat → Option (Nat × Nat)) : List Value → List (Nat × Value) → Option (List Value)
  | c, [] => some c
  | c, (i, v) :: rest =>
    match pf i with
    | some (off, sz) => if v.cells.size = sz ∧ off + sz ≤ c.length then fillL pf (setL c off v.cells.toList) rest else none
    | none => none
theorem foldl_setL (off : Nat) : ∀ (l : List Value) (k : Nat) (cells : Array Value),
    (l.zipIdx k).foldl (fun (cs : Array Value) (p : Value × Nat) => cs.setIfInBounds (off + p.2) p.1) cells = (setL cells.toList (off + k) l).toArray
  | [], k, cells => by simp [setL]
  | v :: l, k, cells => by
    rw [List.zipIdx_cons, List.foldl_cons, foldl_setL off l (k + 1), setL]
    simp [Array.toList_setIfInBounds, Nat.add_assoc]
theorem fill_eq (pf : Nat → Option (Nat × Nat)) : ∀ (ps : List (Nat × Value)) (c : Array Value), Instr.fill pf c ps = (fillL pf c.toList ps).map List.toArray
  | [], c => by simp [Instr.fill, fillL]
  | (i, v) :: rest, c => by
    rw [Instr.fill, fillL]
    cases pf i with
    | none => rfl
    | some x =>
      obtain ⟨off, sz⟩ := x
      simp only
      by_cases h : v.cells.size = sz ∧ off + sz ≤ c.toList.length
      · have h1 : ¬ ((v.cells.size != sz || decide (off + v.cells.size > c.size)) = true) := by
          simp only [Array.length_toList] at h
          simp; omega
        have h2 : (v.cells.zipIdx.foldl (fun (cs : Array Value) (p : Value × Nat) => cs.setIfInBounds (off + p.2) p.1) c) = (setL c.toList off v.cells.toList).toArray := by
          rw [← Array.foldl_toList]
          have := foldl_setL off v.cells.toList 0 c
          rw [Array.toList_zipIdx]
          simpa using this
        rw [if_pos h]
        simp only [ne_eq, decide_not] at h1 ⊢
        rw [if_neg (by simpa using h1)]
        have h3 := fill_eq pf rest (setL c.toList off v.cells.toList).toArray
        simp only [List.toList_toArray] at h3
        rw [← h3, ← h2]
      · rw [if_neg h, if_pos]
        · rfl
        · simp only [Array.length_toList] at h
          simp; omega

/-- parts, one by one -/
inductive PR (μ : Mu) : List (Nat × Value) → List (Nat × Value) → Prop
  | nil : PR μ [] []
  | cons {i : Nat} {v v' : Value} {l l' : List (Nat × Value)} : VR μ v v' → PR μ l l' → PR μ ((i, v) :: l) ((i, v') :: l')
theorem PR.map {μ : Mu} {ρ ρ' : Operand → Value} (hρ : ∀ x, VR μ (ρ x) (ρ' x)) : ∀ l : List (Nat × Operand), PR μ (l.map fun p => (p.1, ρ p.2)) (l.map fun p => (p.1, ρ' p.2))
  | [] => .nil
  | (i, x) :: l => .cons (hρ x) (PR.map hρ l)
theorem LR.set {μ : Mu} {a a' : List Value} (h : LR μ a a') (i : Nat) {x x' : Value} (hx : VR μ x x') : LR μ (a.set i x) (a'.set i x') := by
  refine ⟨by simp [h.1], fun j h1 h2 => ?_⟩
  rw [List.getElem_set, List.getElem_set]
  split
  · exact hx
  · exact h.2 j (by simpa using h1) (by simpa using h2)
theorem LR.setL {μ : Mu} : ∀ {l l' a a' : List Value} (_ : LR μ a a') (o : Nat) (_ : LR μ l l'), LR μ (setL a o l) (setL a' o l')
  | [], [], _, _, h, _, _ => h
  | v :: l, v' :: l', a, a', h, o, hl => by
    have h0 : VR μ v v' := hl.2 0 (by simp) (by simp)
    have ht : LR μ l l' := ⟨by have := hl.1; simpa using this, fun i h1 h2 => hl.2 (i + 1) (by simpa using h1) (by simpa using h2)⟩
    exact LR.setL (h.set o h0) (o + 1) ht
  | [], _ :: _, _, _, _, _, hl => by have := hl.1; simp at this
  | _ :: _, [], _, _, _, _, hl => by have := hl.1; simp at this
theorem fillL_rel {μ : Mu} (pf : Nat → Option (Nat × Nat)) : ∀ {ps ps' : List (Nat × Value)} {c c' r : List Value}, LR μ c c' → PR μ ps ps' → fillL pf c ps = some r → ∃ r', fillL pf c' ps' = some r' ∧ LR μ r r'
  | _, _, _, _, _, hc, .nil, h => by
    injection h with h
    subst h
    exact ⟨_, rfl, hc⟩
  | _, _, c, c', r, hc, .cons (i := i) (v := v) (v' := v') hv hp, h => by
    rw [fillL] at h ⊢
    split at h
    · rename_i off sz hpf
      split at h
      · rename_i hk
        have hcells := hv.cells
        obtain ⟨r', h1, h2⟩ := fillL_rel pf (hc.setL off hcells.toList) hp h
        refine ⟨r', ?_, h2⟩
        rw [if_pos (by rw [← hcells.1, ← hc.1]; exact hk)]
        exact h1
      · cases h
    · cases h

/-- a struct's zero cells, and where its fields lie -/
def bk (P : Program) (t : TypeId) : Option (List Value × List (Nat × Nat)) :=
  match P.underlying t, zk P t with
  | some (.struct fields), some z =>
    match fields.toList.mapM (fun f => (P.info? f.type).map fun i => (f.offset, i.size)) with
    | some places => some (z.toList, places)
    | none => none
  | _, _ => none
def gBuild (P : Program) (t : TypeId) (ps : List (Nat × Value)) : Option Value :=
  match bk P t with
  | some (z, pl) => (fillL (pl[·]?) z ps).map fun c => .agg c.toArray
  | none => none
def gBuildSlice (P : Program) (t : TypeId) (len : Nat) (ps : List (Nat × Value)) (h : GH) : Option (Value × GH) :=
  match sk P t with
  | some e => match zk P e with
    | some z => if P.cellsOf e = z.size ∧ 0 < z.size ∧ len * z.size ≤ 1000000 then
        match fillL (fun i => some (i * z.size, z.size)) (rep len z.toList) ps with
        | some c => if c.all Value.oneCell' = true then some (.slice (some ⟨h.n, 0, none⟩) len len, h.alloc ⟨c, true, false⟩) else none
        | none => none
      else none
    | none => none
  | none => none

section
variable {w0 : World} {B : Nat} {μ : Mu} {h : GH} {w : World} {P : Program}

theorem gBuild_sound {t : TypeId} {ps ps' : Array (Nat × Value)} (hp : PR μ ps.toList ps'.toList) {gv : Value} (hg : gBuild P t ps.toList = some gv) :
    ∃ v', (Instr.build t ps').run P w = .ok v' w ∧ VR μ gv v' := by
  unfold gBuild at hg
  split at hg
  case h_2 => cases hg
  rename_i z pl hb
  obtain ⟨c, hc, rfl⟩ := Option.map_eq_some_iff.1 hg
  unfold bk at hb
  split at hb
  case h_2 => cases hb
  rename_i fields zz hu hz
  split at hb
  case h_2 => cases hb
  rename_i places hpl
  injection hb with hb
  injection hb with e1 e2
  subst e1 e2
  obtain ⟨i, v, hi1, hi2, rfl, hf⟩ := zk_info hz
  have hfl : v.cells.toList.all flat0 = true := by simpa using hf
  obtain ⟨r', h1, h2⟩ := fillL_rel _ (LR.of_flat0 hfl) hp hc
  have hbuilt : P.built t ps'.toList = some r'.toArray := by
    unfold Program.built
    rw [hi1, hu]
    simp only [hi2, hpl]
    rw [fill_eq]
    have : (fun x => places.toArray[x]?) = fun x : Nat => places[x]? := by funext x; simp
    rw [this, h1]
    rfl
  have := h2.toArray
  exact ⟨_, run_build w t ps' _ hbuilt, .agg this.1 this.2⟩

theorem gBuildSlice_sound (hi : Inv w0 B μ h w) {t : TypeId} {len : Nat} {ps ps' : Array (Nat × Value)} (hp : PR μ ps.toList ps'.toList) {gv : Value} {h' : GH} (hg : gBuildSlice P t len ps.toList h = some (gv, h')) :
    Post w0 B μ h w gv h' ((Instr.buildSlice t len ps').run P w) := by
  unfold gBuildSlice at hg
  split at hg
  case h_2 => cases hg
  rename_i e hs
  have hu := sk_run hs
  split at hg
  case h_2 => cases hg
  rename_i z hz
  split at hg
  case isFalse => cases hg
  rename_i hcond
  obtain ⟨h1, h2, h3⟩ := hcond
  split at hg
  case h_2 => cases hg
  rename_i c hc
  split at hg
  case isFalse => cases hg
  rename_i hone
  injection hg with hg
  injection hg with e1 e2
  subst e1 e2
  obtain ⟨i, v, hi1, hi2, rfl, hf⟩ := zk_info hz
  obtain ⟨c1, c2⟩ := cellsOf_info hi1
  rw [c1] at h1
  have hfl : v.cells.toList.all flat0 = true := by simpa using hf
  obtain ⟨r', h4, h5⟩ := fillL_rel _ (LR.of_flat0 (rep_flat (n := len) hfl)) hp hc
  have hfill : Instr.fill (fun i => some (i * v.cells.size, v.cells.size)) ((Array.range (len * v.cells.size)).map (fun i => v.cells[i % v.cells.size]!)) ps'.toList = some r'.toArray := by
    rw [fill_eq, rep_array, h4]
    rfl
  have hlt : ¬ (16777216 < len * v.cells.size) := by omega
  have hrun : (Instr.buildSlice t len ps').run P w = .ok (.slice (some ⟨w.heap.size, 0, none⟩) len len) (w.alloc (.cells r'.toArray e)) := by
    by_cases h0 : len * v.cells.size = 0
    · have hl0 : len = 0 := by
        rcases Nat.mul_eq_zero.1 h0 with h | h
        · exact h
        · omega
      subst hl0
      simp only [Nat.zero_mul] at hfill
      have hfill' : Instr.fill (fun i => some (i * v.cells.size, v.cells.size)) #[] ps'.toList = some r'.toArray := by
        simpa [Array.range_zero'] using hfill
      simp [Instr.buildSlice, run_underlying hu, sizeOf, typeInfo, hi1, h1, newRow, Array.range_zero', hfill']
    · simp [Instr.buildSlice, run_underlying hu, sizeOf, typeInfo, zeroValue, hi1, hi2, h1, hlt, h0, hfill, newRow]
  obtain ⟨ha, hb⟩ := hi.alloc (cs := r'.toArray) (cells := c) (by rw [h5.1]; simpa using h5) (List.all_eq_true.1 hone) e v.cells.size
  refine ⟨_, _, _, hrun, ha, ?_, hb⟩
  have := VR.slice (μ := μ.put h.n ⟨w.heap.size, 0, r'.toArray.size, v.cells.size⟩) (o := 0) (len := len) (c := len) (c' := len) (μ.put_self h.n _) (Nat.le_refl _) (.inl ⟨rfl, by unfold unk; have : len * 1 ≤ len * v.cells.size := Nat.mul_le_mul_left _ h2; omega⟩)
  simpa using this
end
end Go.Proofs.Gh
namespace Go.Proofs.Gh
open Go Go.RowKit

def dead : GB := ⟨[], false, true⟩
/-- what is appended: how many elements, and their cells -/
def gNews (P : Program) (t : TypeId) (x : Value) (h : GH) : Option (Nat × List Value) :=
  match x with
  | .slice none 0 0 => match sk P t with | some _ => some (0, []) | none => none
  | .slice (some ⟨g, o, none⟩) n _ => match sk P t with
    | some e => if n = 0 then some (0, []) else match tk P e with
      | some (_, sz) => match h.load g o (n * sz) with
        | some l => some (n, l)
        | none => none
      | none => none
    | none => none
  | .string s => match P.underlying t with
    | some .string => some (s.size, byteCells s)
    | _ => none
  | _ => none
def gAppendS (P : Program) (t0 t1 : TypeId) (s x : Value) (h : GH) : Option (Value × GH) :=
  match sk P t0 with
  | none => none
  | some e => match zk P e with
    | none => none
    | some z => match gNews P t1 x h with
      | none => none
      | some (n, news) =>
        if P.cellsOf e = z.size ∧ news.all Value.oneCell' = true ∧ news.length = n * z.size then
          match s with
          | .slice none 0 0 =>
            if n = 0 then some (.slice none 0 0, h)
            else if n ≤ 1000000000000 ∧ 2 * n * P.bytesOf e ≤ 281474976710656 then some (.slice (some ⟨h.n, 0, none⟩) n (unk + z.size), h.alloc ⟨news, true, false⟩) else none
          | .slice (some ⟨g, o, none⟩) len c =>
            if n = 0 then some (s, h)
            else if unk ≤ c then
              (match h.load g o (len * z.size) with
              | some old => if (h.b g).ro = false ∧ c = unk + z.size ∧ 0 < z.size ∧ len + n ≤ 1000000000000 ∧ 2 * (len + n) * P.bytesOf e ≤ 281474976710656 then
                  some (.slice (some ⟨h.n, 0, none⟩) (len + n) (unk + z.size), (h.upd g dead).alloc ⟨old ++ news, true, false⟩) else none
              | none => none)
            else if len + n ≤ c then (h.store g (o + len * z.size) news).map fun h' => (.slice (some ⟨g, o, none⟩) (len + n) c, h')
            else match (if len = 0 then some [] else h.load g o (len * z.size)) with
              | some old => if len + n ≤ 1000000000000 ∧ 2 * (len + n) * P.bytesOf e ≤ 281474976710656 then
                  some (.slice (some ⟨h.n, 0, none⟩) (len + n) (unk + z.size), h.alloc ⟨old ++ news, true, false⟩) else none
              | none => none
          | _ => none
        else none

/-- append of some zeros to nil (the second argument is their number) -/
def gAppZ (P : Program) (t0 t1 : TypeId) (s : Value) (n : Int) (h : GH) : Option (Value × GH) :=
  match s with
  | .slice none 0 0 => match sk P t0 with
    | none => none
    | some e => match zk P e with
      | none => none
      | some z => match P.underlying t1 with
        | some (.int _) => if P.cellsOf e = z.size ∧ 0 < z.size ∧ 0 < n ∧ n ≤ 1000000 ∧ n.toNat * P.bytesOf e ≤ 281474976710656 then
            some (.slice (some ⟨h.n, 0, none⟩) n.toNat (unk + z.size), h.alloc ⟨rep n.toNat z.toList, true, false⟩) else none
        | _ => none
  | _ => none
def gAppend (P : Program) (t0 t1 : TypeId) (s x : Value) (h : GH) : Option (Value × GH) :=
  match x with
  | .int _ n => gAppZ P t0 t1 s n h
  | _ => gAppendS P t0 t1 s x h

section
variable {w0 : World} {B : Nat} {μ : Mu} {h : GH} {w : World} {P : Program}

theorem Inv.drew (hi : Inv w0 B μ h w) : Inv w0 B μ h w.drew := hi.step ((Below.refl _ _).drew)

theorem lt_of_blk {m : M} {cs : Array Value} {t : TypeId} {fr : Nat × Nat} (hh : w.heap[m.r]? = some (.cells cs t fr)) : m.r < w.heap.size := by
  rcases Nat.lt_or_ge m.r w.heap.size with h1 | h1
  · exact h1
  · rw [Array.getElem?_eq_none h1] at hh; cases hh

/-- a row grows in its place: its block goes over to a new ghost block -/
theorem Inv.adopt (hi : Inv w0 B μ h w) {g : Nat} {m : M} (hm : μ g = some m) (ha : (h.b g).alive = true) (hro : (h.b g).ro = false)
    {cs : Array Value} {t : TypeId} {fr : Nat × Nat} (hb : BlkOk μ w B m (h.b g) cs t fr) (o off : Nat) (ho : o ≤ m.room) (vs' : List Value) (xs : List Value) (e : Nat)
    (hx : ∀ i v, xs[i]? = some v → ∃ v', (if off ≤ m.s + o + i ∧ m.s + o + i < off + vs'.length ∧ m.s + o + i < cs.size then vs'[m.s + o + i - off]? else cs[m.s + o + i]?) = some v' ∧ VR μ v v')
    (h1 : ∀ v ∈ xs, v.oneCell' = true) :
    Inv w0 B (μ.put h.n ⟨m.r, m.s + o, m.room - o, e⟩) ((h.upd g dead).alloc ⟨xs, true, false⟩) (w.setCells m.r off vs') ∧
      Ext μ (μ.put h.n ⟨m.r, m.s + o, m.room - o, e⟩) h ((h.upd g dead).alloc ⟨xs, true, false⟩) w (w.setCells m.r off vs') := by
  obtain ⟨hB, hroom, hfr⟩ := hb.own hro
  have hsz := size_setCells m.r vs' off w
  obtain ⟨cs', hc1, hc2, hc3⟩ := heap_setCells m.r vs' off w cs t fr hb.heap
  have hfree := hi.dom h.n (Nat.le_refl _)
  have hmono := μ.put_mono ⟨m.r, m.s + o, m.room - o, e⟩ hfree
  have hglt := hi.lt hm
  have hbk : ∀ i, i ≠ h.n → i ≠ g → ((h.upd g dead).alloc ⟨xs, true, false⟩).b i = h.b i := by
    intro i h2 h3
    rw [GH.alloc_b, GH.upd_n, if_neg h2, GH.upd_b, if_neg h3]
  have hbg : (((h.upd g dead).alloc ⟨xs, true, false⟩).b g).alive = false := by
    rw [GH.alloc_b, GH.upd_n, if_neg (by omega), GH.upd_b, if_pos rfl]
    rfl
  have hbn : ((h.upd g dead).alloc ⟨xs, true, false⟩).b h.n = ⟨xs, true, false⟩ := by
    rw [GH.alloc_b, GH.upd_n, if_pos rfl]
  have hne : ∀ g' m', μ g' = some m' → g' ≠ g → (h.b g').alive = true → m'.r ≠ m.r := fun g' m' hm' hn ha' e' => hi.sep g g' m m' hm hm' (Ne.symm hn) ha ha' hro e'.symm
  refine ⟨⟨below_setCells m.r hB vs' off w hi.below, by rw [hsz]; exact hi.hB, ?_, ?_, ?_⟩, ⟨by simp, ?_, ?_, ?_, by rw [hsz]; exact Nat.le_refl _, ?_, ?_⟩⟩
  · intro i hi'
    rw [GH.alloc_n, GH.upd_n] at hi'
    rw [Mu.put_ne _ _ (by omega)]
    exact hi.dom i (by omega)
  · intro g' m' hm' ha'
    by_cases hn : g' = h.n
    · subst hn
      rw [Mu.put_self] at hm'
      injection hm' with hm'
      subst hm'
      rw [hbn]
      refine ⟨cs', t, fr, hc1, ?_, h1, fun _ => ⟨hB, by simp only; rw [hc2, ← hroom]; omega, fun i h2 h3 => hfr i (by simp only at h2; omega) (hc2 ▸ h3)⟩⟩
      intro i v hv
      obtain ⟨v', h2, h3⟩ := hx i v hv
      refine ⟨v', ?_, h3.mono hmono⟩
      rw [hc3]
      exact h2
    · by_cases hg : g' = g
      · subst hg; rw [hbg] at ha'; cases ha'
      · rw [Mu.put_ne _ _ hn] at hm'
        rw [hbk g' hn hg] at ha' ⊢
        obtain ⟨cs2, t2, fr2, k⟩ := hi.blk g' m' hm' ha'
        exact ⟨cs2, t2, fr2, (heap_setCells_ne m.r vs' off w m'.r (hne g' m' hm' hg ha')).trans k.heap, fun i v hv => (k.cell i v hv).imp fun v' hv' => ⟨hv'.1, hv'.2.mono hmono⟩, k.one, k.own⟩
  · intro g1 g2 m1 m2 hm1 hm2 hn ha1 ha2 hro1
    have e1 : g1 ≠ g := by rintro rfl; rw [hbg] at ha1; cases ha1
    have e2 : g2 ≠ g := by rintro rfl; rw [hbg] at ha2; cases ha2
    by_cases n1 : g1 = h.n
    · have n2 : g2 ≠ h.n := fun e => hn (n1.trans e.symm)
      subst n1
      rw [Mu.put_self] at hm1
      injection hm1 with hm1
      subst hm1
      rw [Mu.put_ne _ _ n2] at hm2
      rw [hbk g2 n2 e2] at ha2
      exact fun e => hne g2 m2 hm2 e2 ha2 e.symm
    · rw [Mu.put_ne _ _ n1] at hm1
      rw [hbk g1 n1 e1] at ha1 hro1
      by_cases n2 : g2 = h.n
      · subst n2
        rw [Mu.put_self] at hm2
        injection hm2 with hm2
        subst hm2
        exact hne g1 m1 hm1 e1 ha1
      · rw [Mu.put_ne _ _ n2] at hm2
        rw [hbk g2 n2 e2] at ha2
        exact hi.sep g1 g2 m1 m2 hm1 hm2 hn ha1 ha2 hro1
  · intro g' hg'
    exact Mu.put_ne _ _ (by omega)
  · intro g' m' hg hm'
    by_cases hn : g' = h.n
    · subst hn
      rw [Mu.put_self] at hm'
      injection hm' with hm'
      subst hm'
      exact .inl ⟨g, m, hm, rfl⟩
    · rw [Mu.put_ne _ _ hn, hi.dom g' hg] at hm'; cases hm'
  · intro r _ hn
    exact heap_setCells_ne m.r vs' off w r (fun e => hn g m hm e.symm)
  · intro g' hg' hno
    rw [hbk g' (by omega)]
    rintro rfl
    rw [hm] at hno; cases hno
  · intro g' hg' hr
    rw [hbk g' (by omega)]
    rintro rfl
    rw [hro] at hr; cases hr

theorem src_one {size n : Nat} {t : TypeId} {x : Value} {news : List Value} (hs : Src P size t x n news w) : news.length = n * size := hs.newsLen

/-- a new row for what was and what comes -/
theorem grow_sound (hi : Inv w0 B μ h w) {t0 t1 ty e : TypeId} {i : TypeInfo} {z : Value} (hu : P.underlying t0 = some (.slice e)) (hi1 : P.info? e = some i) (hi2 : i.zero = some z) (hz : i.size = z.cells.size)
    {base : Option Addr} {len cap n : Nat} {old old' news news' : List Value} {x' : Value}
    (hold : (Builtin.firstCells i.size len (.slice base len cap)).run P w.drew = .ok old'.toArray w.drew) (holdlen : old'.length = len * i.size) (ho : LR μ old old') (ho1 : ∀ v ∈ old, v.oneCell' = true)
    (hs : Src P i.size t1 x' n news' w) (hn : LR μ news news') (hn1 : ∀ v ∈ news, v.oneCell' = true) (hg : cap < len + n) (hb1 : len + n ≤ 1000000000000) (hb2 : 2 * (len + n) * i.bytes ≤ 281474976710656) :
    Post w0 B μ h w (.slice (some ⟨h.n, 0, none⟩) (len + n) (unk + i.size)) (h.alloc ⟨old ++ news, true, false⟩) ((Builtin.append_ #[t0, t1] ty #[.slice base len cap, x']).run P w) := by
  have hfit : Builtin.nextslicecap (len + n) cap * i.bytes ≤ 281474976710656 := by
    have := nextslicecap_le hg
    exact Nat.le_trans (Nat.mul_le_mul_right _ this) hb2
  have hrun := run_append_grow_src w t0 t1 ty e i z hu hi1 hi2 base len cap old' hold x' n news' hs hg (by omega) hfit
  have hid := hi.drew
  have hcap := grownCap_ge w (len + n) cap e
  have htake : (((old' ++ news').toArray ++ Builtin.zeroCells z.cells (grownCap w (len + n) cap e - (len + n))).toList.take (old ++ news).length) = old' ++ news' := by
    have : (old ++ news).length = (old' ++ news').length := by simp [ho.1, hn.1]
    rw [this]
    rw [Array.toList_append, List.toList_toArray, List.take_left]
  obtain ⟨ha, hb⟩ := hid.alloc (cs := (old' ++ news').toArray ++ Builtin.zeroCells z.cells (grownCap w (len + n) cap e - (len + n))) (cells := old ++ news)
    (by rw [htake]; exact ho.append hn) (by
      intro v hv
      rcases List.mem_append.1 hv with h | h
      · exact ho1 v h
      · exact hn1 v h) e i.size
  refine ⟨_, _, _, hrun, ha, ?_, ?_⟩
  · have hsz : ((old' ++ news').toArray ++ Builtin.zeroCells z.cells (grownCap w (len + n) cap e - (len + n))).size = grownCap w (len + n) cap e * i.size := by
      simp only [Array.size_append, List.size_toArray, List.length_append, holdlen, hs.newsLen, size_zeroCells, ← hz]
      rw [← Nat.add_mul, ← Nat.add_mul]
      congr 1
      omega
    have := VR.slice (μ := μ.put h.n ⟨w.drew.heap.size, 0, ((old' ++ news').toArray ++ Builtin.zeroCells z.cells (grownCap w (len + n) cap e - (len + n))).size, i.size⟩) (o := 0) (len := len + n) (c := unk + i.size) (c' := grownCap w (len + n) cap e) (μ.put_self h.n _) hcap
      (.inr ⟨i.size, rfl, .inr ⟨rfl, by simp only; rw [hsz]; omega⟩⟩)
    simpa using this
  · exact (Ext.step hi.dom ((Below.refl _ _).drew)).trans hb

theorem firstCells_load (hi : Inv w0 B μ h w) {g o k sz : Nat} {m : M} {l : List Value} (hl : h.load g o (k * sz) = some l) (hm : μ g = some m) (c : Nat) :
    ∃ l', LR μ l l' ∧ l'.length = k * sz ∧ (Builtin.firstCells sz k (.slice (some ⟨m.r, m.s + o, none⟩) k c)).run P w = .ok l'.toArray w := by
  obtain ⟨h2, l', h3, h4⟩ := hi.load hl hm
  refine ⟨l', h3, by rw [← h3.1, h2], ?_⟩
  refine run_firstCells_some w sz k _ k c l' (by rw [← h3.1, h2]) (fun j u hu => ?_)
  rw [Addr.add_mid]
  exact h4 j u hu

theorem load_one (hi : Inv w0 B μ h w) {g o n : Nat} {l : List Value} (hl : h.load g o n = some l) {m : M} (hm : μ g = some m) : ∀ v ∈ l, v.oneCell' = true := by
  unfold GH.load at hl
  split at hl
  · rename_i hc
    injection hl with hl
    subst hl
    obtain ⟨cs, t, fr, hb⟩ := hi.blk g m hm hc.2.1
    intro v hv
    exact hb.one v (List.mem_of_mem_drop (List.mem_of_mem_take hv))
  · cases hl

theorem gAppendS_sound (hi : Inv w0 B μ h w) {t0 t1 ty : TypeId} {s s' x x' : Value} (hs : VR μ s s') (hx : VR μ x x') {gv : Value} {h' : GH} (hg : gAppendS P t0 t1 s x h = some (gv, h')) :
    Post w0 B μ h w gv h' ((Builtin.append_ #[t0, t1] ty #[s', x']).run P w) := by
  unfold gAppendS at hg
  split at hg
  · cases hg
  rename_i e hsk
  have hu := sk_run hsk
  split at hg
  · cases hg
  rename_i z hz
  split at hg
  · cases hg
  rename_i n news hnews
  split at hg
  case isFalse => cases hg
  rename_i hcond
  obtain ⟨hc1, hc2, hc3⟩ := hcond
  obtain ⟨i, v, hi1, hi2, rfl, hf⟩ := zk_info hz
  obtain ⟨k1, k2⟩ := cellsOf_info hi1
  rw [k1] at hc1
  rw [k2] at hg
  rw [← hc1] at hg hc3
  have hone : ∀ v ∈ news, v.oneCell' = true := List.all_eq_true.1 hc2
  -- the source
  have hsrc : ∃ news', Src P i.size t1 x' n news' w ∧ LR μ news news' := by
    have hg2 := hnews
    unfold gNews at hg2
    split at hg2
    · split at hg2
      · rename_i e' hs'
        injection hg2 with hg2
        injection hg2 with e1 e2
        subst e1 e2
        cases hx
        exact ⟨[], Src.ofNil w (sk_run hs') 0, LR.nil⟩
      · cases hg2
    · rename_i g o k c
      split at hg2
      case h_2 => cases hg2
      rename_i e' hs'
      split at hg2
      · rename_i hk
        subst hk
        injection hg2 with hg2
        injection hg2 with e1 e2
        subst e1 e2
        cases hx with
        | slice hm hle hcap => exact ⟨[], Src.ofSlice w (sk_run hs') _ _ _ [] (by simp) (fun j u hu => by simp at hu) (by simp), LR.nil⟩
        | slice0 hm h0 => exact ⟨[], Src.ofSlice w (sk_run hs') _ _ _ [] (by simp) (fun j u hu => by simp at hu) (by simp), LR.nil⟩
      · rename_i hk
        split at hg2
        case h_2 => cases hg2
        rename_i b sz ht
        split at hg2
        case h_2 => cases hg2
        rename_i l hl
        injection hg2 with hg2
        injection hg2 with e1 e2
        subst e1 e2
        cases hx with
        | slice hm hle hcap =>
          obtain ⟨h2, l', h3, h4⟩ := hi.load hl hm
          refine ⟨l', Src.ofSlice w (sk_run hs') _ _ _ l' (by rw [← h3.1]; exact hc3) (fun j u hu => ?_) (h3.oneCell hone), h3⟩
          rw [Addr.add_mid]
          exact h4 j u hu
        | slice0 hm h0 => exact absurd rfl hk
    · rename_i str
      split at hg2
      · rename_i hust
        injection hg2 with hg2
        injection hg2 with e1 e2
        subst e1 e2
        rw [hx.string_inv]
        rw [byteCells_length] at hc3
        by_cases h0 : str.size = 0
        · have hbc : byteCells str = [] := List.length_eq_zero_iff.1 (by rw [byteCells_length]; exact h0)
          rw [hbc, h0]
          refine ⟨[], ⟨.inr hust, fun _ => by simp [Builtin.lenOf, h0], by simp [Builtin.firstCells], by simp [Builtin.firstCells], by simp, by simp⟩, LR.nil⟩
        · have hsz1 : i.size = 1 := by
            have : str.size * i.size = str.size * 1 := by omega
            exact Nat.eq_of_mul_eq_mul_left (by omega) this
          rw [hsz1]
          refine ⟨byteCells str, Src.ofString w hust str, LR.of_flat0 ?_⟩
          refine List.all_eq_true.2 fun v hv => ?_
          obtain ⟨_, _, rfl⟩ := List.mem_map.1 hv
          rfl
      · cases hg2
    · cases hg2
  obtain ⟨news', hS, hN⟩ := hsrc
  have hlen' : news'.length = n * i.size := hS.newsLen
  -- nothing to append
  have hzero : n = 0 → ∀ (base : Option Addr) (l c : Nat), l ≤ c → (Builtin.append_ #[t0, t1] ty #[.slice base l c, x']).run P w = .ok (.slice base l c) w := by
    intro h0 base l c hle
    subst h0
    exact run_append_nothing w t0 t1 ty e i hu hi1 base l c hle x' (by
      have : news' = [] := List.length_eq_zero_iff.1 (by rw [hlen', Nat.zero_mul])
      rw [this] at hS
      exact hS)
  split at hg
  · cases hs
    split at hg
    · rename_i h0
      injection hg with hg
      injection hg with e1 e2
      subst e1 e2
      exact Post.same hi .nilSlice (hzero h0 none 0 0 (Nat.le_refl _))
    · rename_i h0
      split at hg
      case isFalse => cases hg
      rename_i hb
      injection hg with hg
      injection hg with e1 e2
      subst e1 e2
      have := grow_sound (ty := ty) hi hu hi1 hi2 hc1 (base := none) (len := 0) (cap := 0) (old := []) (old' := []) (run_firstCells_none w.drew i.size 0 0 0) (by simp) LR.nil (by simp) hS hN hone (by omega) (by omega) (by simpa using hb.2)
      simpa using this
  · rename_i g o len c
    split at hg
    · rename_i h0
      injection hg with hg
      injection hg with e1 e2
      subst e1 e2
      cases hs with
      | slice hm hle hcap => exact Post.same hi (.slice hm hle hcap) (hzero h0 _ _ _ hle)
      | slice0 hm h00 => exact Post.same hi (.slice0 hm h00) (hzero h0 _ _ _ (Nat.le_refl _))
    rename_i hn0
    split at hg
    · rename_i hcu
      split at hg
      case h_2 => cases hg
      rename_i old hold
      split at hg
      case isFalse => cases hg
      rename_i hb
      obtain ⟨hro, hesz, hpos, hb1, hb2⟩ := hb
      injection hg with hg
      injection hg with e1 e2
      subst e1 e2
      subst hesz
      cases hs with
      | slice hm hle hcap =>
        rename_i m c'
        have hal : (h.b g).alive = true := by
          unfold GH.load at hold
          split at hold
          · rename_i h; exact h.2.1
          · cases hold
        obtain ⟨cs, tt, fr, hblk⟩ := hi.blk g m hm hal
        obtain ⟨hB, hroom, hfr⟩ := hblk.own hro
        have hcap' : o + c' * i.size ≤ m.room := by
          rcases hcap with ⟨h1, h2⟩ | ⟨e', h1, h2⟩
          · exact absurd h2 (by omega)
          · have : e' = i.size := by omega
            subst this
            rcases h2 with h2 | ⟨_, h2⟩
            · omega
            · exact h2
        by_cases hin : len + n ≤ c'
        · -- in its place
          have hmul : (len + n) * i.size ≤ c' * i.size := Nat.mul_le_mul_right _ hin
          rw [Nat.add_mul] at hmul
          have hrun := run_append_room_src w t0 t1 ty e i hu hi1 m.r (m.s + o) len c' x' n news' hS hin (fun j hj => by
              have : m.s + o + len * i.size + j < cs.size := by omega
              simp [World.cell?, hblk.heap, this]) (fun j hj => by
              have := hfr (m.s + o + len * i.size + j) (by omega) (by omega)
              simp only [World.frozen?, hblk.heap]
              simp only [Bool.and_eq_false_iff, decide_eq_false_iff_not]
              omega)
          obtain ⟨hlo, l', hlr, hcell⟩ := hi.load hold hm
          obtain ⟨ha, hbx⟩ := hi.adopt hm hal hro hblk o (m.s + o + len * i.size) (by omega) news' (old ++ news) i.size (fun j u hu' => by
              rw [List.getElem?_append] at hu'
              split at hu'
              · rename_i hj
                rw [if_neg (by omega)]
                obtain ⟨u', h5, h6⟩ := hlr.get hu'
                have h7 := hcell j u' h5
                refine ⟨u', ?_, h6⟩
                simpa [World.cell?, hblk.heap] using h7
              · rename_i hj
                have hjl : j - old.length < news.length := (List.getElem?_eq_some_iff.1 hu').1
                rw [hlo] at hu' hjl hj
                have hnl := hN.1
                rw [if_pos (by omega)]
                obtain ⟨u', h5, h6⟩ := hN.get hu'
                refine ⟨u', ?_, h6⟩
                rw [show m.s + o + j - (m.s + o + len * i.size) = j - len * i.size by omega]
                exact h5) (by
              intro u hu'
              rcases List.mem_append.1 hu' with h5 | h5
              · exact load_one hi hold hm u h5
              · exact hone u h5)
          refine ⟨_, _, _, hrun, ha, ?_, hbx⟩
          have := VR.slice (μ := μ.put h.n ⟨m.r, m.s + o, m.room - o, i.size⟩) (o := 0) (len := len + n) (c := unk + i.size) (c' := c') (μ.put_self h.n _) hin (.inr ⟨i.size, rfl, .inr ⟨rfl, by simp only; omega⟩⟩)
          simpa using this
        · -- a new row
          obtain ⟨old', ho1, ho2, ho3⟩ := firstCells_load (P := P) hi.drew hold hm c'
          obtain ⟨hk1, hk2⟩ := hi.kill g hm hro dead rfl
          have := grow_sound (ty := ty) (h := h.upd g dead) hk1 hu hi1 hi2 hc1 (base := some ⟨m.r, m.s + o, none⟩) (len := len) (cap := c') ho3 ho2 ho1 (load_one hi hold hm) hS hN hone (by omega) hb1 hb2
          obtain ⟨μ', v', w', q1, q2, q3, q4⟩ := this
          exact ⟨μ', v', w', q1, q2, q3, hk2.trans q4⟩
      | slice0 hm h0 =>
        obtain ⟨hk1, hk2⟩ := hi.kill g hm hro dead rfl
        have hold0 : old = [] := by
          have := (hi.load hold hm).1
          simp at this
          exact this
        subst hold0
        have := grow_sound (ty := ty) (h := h.upd g dead) hk1 hu hi1 hi2 hc1 (base := some ‹Addr›) (len := 0) (cap := 0) (old := []) (old' := []) (run_firstCells_some w.drew i.size 0 _ 0 0 [] (by simp) (by simp)) (by simp) LR.nil (by simp) hS hN hone (by omega) hb1 hb2
        obtain ⟨μ', v', w', q1, q2, q3, q4⟩ := this
        exact ⟨μ', v', w', q1, q2, q3, hk2.trans q4⟩
    · rename_i hcu
      split at hg
      · rename_i hin
        obtain ⟨h2, hst, e1⟩ := Option.map_eq_some_iff.1 hg
        injection e1 with e1 e2
        subst e1 e2
        cases hs with
        | slice hm hle hcap =>
          rename_i m c'
          have hcc : c = c' := by
            rcases hcap with ⟨h1, _⟩ | ⟨e', h1, _⟩
            · exact h1
            · exact absurd (by omega) hcu
          subst hcc
          obtain ⟨q1, q2, q3⟩ := hi.store hst hm hN P
          have hst2 := hst
          unfold GH.store at hst2
          split at hst2
          case isFalse => cases hst2
          rename_i hq
          obtain ⟨hq1, hq2, hq3, hq4, hq5⟩ := hq
          obtain ⟨cs, tt, fr, hblk⟩ := hi.blk g m hm hq2
          obtain ⟨hB, hroom, hfr⟩ := hblk.own hq3
          have hsz : ∀ j, j < (h.b g).cells.length → m.s + j < cs.size := by
            intro j hj
            obtain ⟨u', h6, _⟩ := hblk.cell j _ (List.getElem?_eq_getElem hj)
            exact (Array.getElem?_eq_some_iff.1 h6).1
          have hnl := hN.1
          have hrun := run_append_room_src w t0 t1 ty e i hu hi1 m.r (m.s + o) len c x' n news' hS hin (fun j hj => by
              have := hsz (o + len * i.size + j) (by omega)
              have : m.s + o + len * i.size + j < cs.size := by omega
              simp [World.cell?, hblk.heap, this]) (fun j hj => by
              have := hsz (o + len * i.size + j) (by omega)
              have := hfr (m.s + o + len * i.size + j) (by omega) (by omega)
              simp only [World.frozen?, hblk.heap]
              simp only [Bool.and_eq_false_iff, decide_eq_false_iff_not]
              omega)
          rw [← Nat.add_assoc] at q2 q3
          refine ⟨_, _, _, hrun, q2, .slice hm hin ?_, q3⟩
          exact hcap
        | slice0 hm h0 =>
          rcases h0 with rfl | h0
          · omega
          · exact absurd h0 hcu
      · rename_i hin
        split at hg
        case h_2 => cases hg
        rename_i old hold
        split at hg
        case isFalse => cases hg
        rename_i hb
        injection hg with hg
        injection hg with e1 e2
        subst e1 e2
        cases hs with
        | slice hm hle hcap =>
          rename_i m c'
          have hcc : c = c' := by
            rcases hcap with ⟨h1, _⟩ | ⟨e', h1, _⟩
            · exact h1
            · exact absurd (by omega) hcu
          subst hcc
          split at hold
          · rename_i hl0
            subst hl0
            injection hold with hold
            subst hold
            exact grow_sound (ty := ty) hi hu hi1 hi2 hc1 (len := 0) (cap := c) (old := []) (old' := []) (run_firstCells_some w.drew i.size 0 _ 0 c [] (by simp) (by simp)) (by simp) LR.nil (by simp) hS hN hone (by omega) hb.1 hb.2
          · obtain ⟨old', ho1, ho2, ho3⟩ := firstCells_load (P := P) hi.drew hold hm c
            exact grow_sound (ty := ty) hi hu hi1 hi2 hc1 (len := len) (cap := c) ho3 ho2 ho1 (load_one hi hold hm) hS hN hone (by omega) hb.1 hb.2
        | slice0 hm h0 =>
          rw [if_pos rfl] at hold
          injection hold with hold
          subst hold
          exact grow_sound (ty := ty) hi hu hi1 hi2 hc1 (len := 0) (cap := 0) (old := []) (old' := []) (run_firstCells_some w.drew i.size 0 _ 0 0 [] (by simp) (by simp)) (by simp) LR.nil (by simp) hS hN hone (by omega) hb.1 hb.2
  · cases hg
theorem gAppZ_sound (hi : Inv w0 B μ h w) {t0 t1 ty : TypeId} {s s' : Value} {k : IntKind} {n : Int} (hs : VR μ s s') {gv : Value} {h' : GH} (hg : gAppZ P t0 t1 s n h = some (gv, h')) :
    Post w0 B μ h w gv h' ((Builtin.append_ #[t0, t1] ty #[s', .int k n]).run P w) := by
  unfold gAppZ at hg
  split at hg
  case h_2 => cases hg
  cases hs
  split at hg
  · cases hg
  rename_i e hsk
  have hu := sk_run hsk
  split at hg
  · cases hg
  rename_i z hz
  split at hg
  case h_2 => cases hg
  rename_i kn htn
  split at hg
  case isFalse => cases hg
  rename_i hcond
  obtain ⟨h1, h2, h3, h4, h5⟩ := hcond
  injection hg with hg
  injection hg with e1 e2
  subst e1 e2
  obtain ⟨i, v, hi1, hi2, rfl, hf⟩ := zk_info hz
  obtain ⟨c1, c2⟩ := cellsOf_info hi1
  rw [c1] at h1
  rw [c2] at h5
  obtain ⟨N, rfl⟩ : ∃ N : Nat, n = N := ⟨n.toNat, by omega⟩
  rw [Int.toNat_natCast] at h5 ⊢
  have hrun := Lib.run_append_nil_zeros (P := P) w t0 t1 ty e i v k kn hu htn hi1 hi2 N (by omega) (by omega) (by omega) h5
  have hid := hi.drew
  have hzc : (Builtin.zeroCells v.cells N).toList = rep N v.cells.toList := rep_array v.cells N
  have hfl : v.cells.toList.all flat0 = true := by simpa using hf
  have htake : (Builtin.zeroCells v.cells N ++ Builtin.zeroCells v.cells (grownCap w N 0 e - N)).toList.take (rep N v.cells.toList).length = rep N v.cells.toList := by
    rw [Array.toList_append, hzc, List.take_left]
  obtain ⟨ha, hb⟩ := hid.alloc (cs := Builtin.zeroCells v.cells N ++ Builtin.zeroCells v.cells (grownCap w N 0 e - N)) (cells := rep N v.cells.toList)
    (by rw [htake]; exact LR.of_flat0 (rep_flat hfl)) (ones_of_flat0 (rep_flat hfl)) e v.cells.size
  have hcap := grownCap_ge w N 0 e
  refine ⟨_, _, _, hrun, ha, ?_, (Ext.step hi.dom ((Below.refl _ _).drew)).trans hb⟩
  have hsz : (Builtin.zeroCells v.cells N ++ Builtin.zeroCells v.cells (grownCap w N 0 e - N)).size = grownCap w N 0 e * v.cells.size := by
    rw [Array.size_append, size_zeroCells, size_zeroCells, ← Nat.add_mul]
    congr 1
    omega
  have := VR.slice (μ := μ.put h.n ⟨w.drew.heap.size, 0, (Builtin.zeroCells v.cells N ++ Builtin.zeroCells v.cells (grownCap w N 0 e - N)).size, v.cells.size⟩) (o := 0) (len := N) (c := unk + v.cells.size) (c' := grownCap w N 0 e) (μ.put_self h.n _) hcap
    (.inr ⟨v.cells.size, rfl, .inr ⟨rfl, by simp only; rw [hsz]; omega⟩⟩)
  simpa using this
theorem gAppend_sound (hi : Inv w0 B μ h w) {t0 t1 ty : TypeId} {s s' x x' : Value} (hs : VR μ s s') (hx : VR μ x x') {gv : Value} {h' : GH} (hg : gAppend P t0 t1 s x h = some (gv, h')) :
    Post w0 B μ h w gv h' ((Builtin.append_ #[t0, t1] ty #[s', x']).run P w) := by
  unfold gAppend at hg
  split at hg
  · rw [hx.int_inv]
    exact gAppZ_sound hi hs hg
  · exact gAppendS_sound hi hs hx hg
end
end Go.Proofs.Gh
namespace Go.Proofs.Gh
open Go Go.RowKit

def bytesV (l : List Value) : Option (List UInt8) :=
  match l with
  | [] => some []
  | .int .u8 n :: r => (bytesV r).map (UInt8.ofNat n.toNat :: ·)
  | _ => none
def gConv (P : Program) (s d : TypeId) (x : Value) (h : GH) : Option (Value × GH) :=
  match P.underlying s, P.underlying d, x with
  | some _, some (.int k), .int _ n => some (.int k (k.wrap n), h)
  | some _, some .string, .string b => some (.string b, h)
  | some _, some (.slice e), .string b => match P.underlying e with
    | some (.int .u8) => some (.slice (some ⟨h.n, 0, none⟩) b.size (unk + 1), h.alloc ⟨byteCells b, true, false⟩)
    | _ => none
  | some (.slice e), some .string, .slice a n _ => match P.underlying e, a with
    | some (.int .u8), none => some (.string ⟨#[]⟩, h)
    | some (.int .u8), some ⟨g, o, none⟩ => if n = 0 then some (.string ⟨#[]⟩, h) else
      match h.load g o n with
      | some l => match bytesV l with
        | some bs => some (.string ⟨bs.toArray⟩, h)
        | none => none
      | none => none
    | _, _ => none
  | _, _, _ => none
def gIface (P : Program) (t : TypeId) (v : Value) : Option Value :=
  match P.underlying t with
  | some (.interface _) => none
  | some _ => some (.iface t v)
  | none => none
def gLen (P : Program) (t : TypeId) (x : Value) : Option Value :=
  match P.underlying t, x with
  | some .string, .string s => some (.int .i64 s.size)
  | some (.slice _), .slice _ n _ => some (.int .i64 n)
  | some (.array n _), _ => some (.int .i64 n)
  | _, _ => none
def gCap (P : Program) (t : TypeId) (x : Value) : Option Value :=
  match P.underlying t, x with
  | some (.slice _), .slice _ _ n => if n < unk then some (.int .i64 n) else none
  | _, _ => none
def gCopy (P : Program) (t0 t1 : TypeId) (d x : Value) (h : GH) : Option (Value × GH) :=
  match sk P t0, d, x with
  | some e, .slice (some ⟨g, o, none⟩) dl _, .slice (some ⟨g2, o2, none⟩) sl _ =>
    match zk P e with
    | some z => if P.cellsOf e = z.size then
        if min sl dl = 0 then some (.int .i64 0, h)
        else match h.load g2 o2 (min sl dl * z.size) with
          | some l => (h.store g o l).map fun h' => (.int .i64 (min sl dl : Nat), h')
          | none => none
      else none
    | none => none
  | _, _, _ => none

section
variable {w0 : World} {B : Nat} {μ : Mu} {h : GH} {w : World} {P : Program}

theorem bytesV_sound : ∀ {l : List Value} {bs : List UInt8}, bytesV l = some bs → ∃ ns : List Int, l = ns.map (Value.int .u8) ∧ bs = ns.map fun n => UInt8.ofNat n.toNat
  | [], bs, h => by
    injection h with h
    subst h
    exact ⟨[], rfl, rfl⟩
  | .int .u8 n :: r, bs, h => by
    rw [bytesV] at h
    obtain ⟨b', h1, rfl⟩ := Option.map_eq_some_iff.1 h
    obtain ⟨ns, h2, h3⟩ := bytesV_sound h1
    exact ⟨n :: ns, by rw [h2]; rfl, by rw [h3]; rfl⟩

theorem foldl_push_bytes : ∀ (ns : List Int) (s : ByteArray), ns.foldl (fun r n => r.push (UInt8.ofNat n.toNat)) s = ⟨(s.data.toList ++ ns.map fun n => UInt8.ofNat n.toNat).toArray⟩
  | [], s => by simp
  | n :: ns, s => by
    rw [List.foldl_cons, foldl_push_bytes ns]
    congr 1
    simp [ByteArray.push]

theorem Inv.mark (hi : Inv w0 B μ h w) {w' : World} {r : Nat} {cs : Array Value} {t : TypeId} {fr fr' : Nat × Nat} (hB : B ≤ r) (hr : w.heap[r]? = some (.cells cs t fr)) (hr' : w'.heap[r]? = some (.cells cs t fr'))
    (hfr : ∀ i, i < cs.size → ¬ (fr'.1 ≤ i ∧ i < fr'.2)) (ho : ∀ k, k ≠ r → w'.heap[k]? = w.heap[k]?) (hs : w.heap.size ≤ w'.heap.size) (h1 : w'.os = w.os) (h2 : w'.tape = w.tape) (h3 : w'.output = w.output) : Inv w0 B μ h w' where
  below := hi.below.trans ⟨h1, h2, h3, hs, fun k hk => ho k (by omega)⟩
  hB := Nat.le_trans hi.hB hs
  dom := hi.dom
  blk g m hm ha := by
    obtain ⟨cs2, t2, fr2, k⟩ := hi.blk g m hm ha
    by_cases hmr : m.r = r
    · have hh := k.heap
      rw [hmr, hr] at hh
      injection hh with hh
      injection hh with e1 e2 e3
      subst e1 e2 e3
      exact ⟨cs, t, fr', by rw [hmr]; exact hr', k.cell, k.one, fun hro => ⟨(k.own hro).1, (k.own hro).2.1, fun i _ hi' => hfr i hi'⟩⟩
    · exact ⟨cs2, t2, fr2, (ho _ hmr).trans k.heap, k.cell, k.one, k.own⟩
  sep := hi.sep

theorem gConv_sound (hi : Inv w0 B μ h w) {s d : TypeId} {x x' : Value} (hx : VR μ x x') {gv : Value} {h' : GH} (hg : gConv P s d x h = some (gv, h')) :
    Post w0 B μ h w gv h' ((convert s d x').run P w) := by
  unfold gConv at hg
  split at hg
  · rename_i ds k kk n hu1 hu2
    injection hg with hg
    injection hg with e1 e2
    subst e1 e2
    rw [hx.int_inv]
    refine Post.same hi (.int _ _) ?_
    cases ds <;> simp [convert, run_underlying hu1, run_underlying hu2, Conv.intToInt]
  · rename_i ds b hu1 hu2
    injection hg with hg
    injection hg with e1 e2
    subst e1 e2
    rw [hx.string_inv]
    refine Post.same hi (.string _) ?_
    cases ds <;> simp [convert, run_underlying hu1, run_underlying hu2]
  · rename_i ds e b hu1 hu2
    split at hg
    case h_2 => cases hg
    rename_i hue
    injection hg with hg
    injection hg with e1 e2
    subst e1 e2
    rw [hx.string_inv]
    have hrun := Lib.run_convert_string_bytes (P := P) w s d e b hu1 hu2 hue
    have hrd := hi.drew
    have hcells : LR μ (byteCells b) ((Lib.bytesCells w e b).toList.take (byteCells b).length) := by
      have : (Lib.bytesCells w e b).toList.take (byteCells b).length = byteCells b := by
        unfold Lib.bytesCells byteCells
        simp
      rw [this]
      refine LR.of_flat0 (List.all_eq_true.2 fun v hv => ?_)
      obtain ⟨_, _, rfl⟩ := List.mem_map.1 hv
      rfl
    obtain ⟨ha, hb⟩ := hrd.alloc hcells (fun v hv => by
      obtain ⟨_, _, rfl⟩ := List.mem_map.1 hv
      rfl) e 1
    have hsz : (Lib.bytesCells w e b).size = grownCap w b.size 0 e := by
      have := grownCap_ge w b.size 0 e
      have hbs : b.data.size = b.size := rfl
      simp [Lib.bytesCells]
      omega
    have hnew : (w.drew.alloc (.cells (Lib.bytesCells w e b) e)).heap[w.heap.size]? = some (.cells (Lib.bytesCells w e b) e (0, 0)) := by
      show (w.heap.push _)[w.heap.size]? = _
      simp
    have hother : ∀ k, k ≠ w.heap.size → (Lib.bytesWorld w e b).heap[k]? = (w.drew.alloc (.cells (Lib.bytesCells w e b) e)).heap[k]? := by
      intro k hk
      rcases Nat.lt_or_ge k w.heap.size with hlt | hge
      · rw [Lib.bytesWorld_at_old w e b k hlt]
        exact (Below.heap_alloc w.drew _ k hlt).symm
      · have h1 : (Lib.bytesWorld w e b).heap.size = w.heap.size + 1 := Lib.bytesWorld_size w e b
        have h2 : (w.drew.alloc (.cells (Lib.bytesCells w e b) e)).heap.size = w.heap.size + 1 := by simp
        rw [Array.getElem?_eq_none (by omega), Array.getElem?_eq_none (by omega)]
    have hsize : (w.drew.alloc (.cells (Lib.bytesCells w e b) e)).heap.size = (Lib.bytesWorld w e b).heap.size := by
      rw [Lib.bytesWorld_size]; simp
    have hz : ∀ W : World, ∀ (x : Addr) (n : Nat), (W.freeze x n).os = W.os ∧ (W.freeze x n).tape = W.tape ∧ (W.freeze x n).output = W.output := by
      intro W x n
      unfold World.freeze
      split <;> exact ⟨rfl, rfl, rfl⟩
    have hz1 := hz (w.drew.alloc (.cells (Lib.bytesCells w e b) e)) ⟨w.heap.size, (Lib.bytesCells w e b).size, none⟩ 1
    have hm := ha.mark (w' := Lib.bytesWorld w e b) hi.hB hnew (Lib.bytesWorld_at_new w e b) (fun i hi' => by simp; omega) hother (by omega) hz1.1 hz1.2.1 hz1.2.2
    refine ⟨_, _, _, hrun, hm, ?_, ?_⟩
    · have := VR.slice (μ := μ.put h.n ⟨w.drew.heap.size, 0, (Lib.bytesCells w e b).size, 1⟩) (o := 0) (len := b.size) (c := unk + 1) (c' := grownCap w b.size 0 e) (μ.put_self h.n _) (grownCap_ge w b.size 0 e) (.inr ⟨1, rfl, .inr ⟨rfl, by simp only; rw [hsz]; omega⟩⟩)
      simpa using this
    · refine ((Ext.step hi.dom ((Below.refl _ _).drew)).trans hb).trans ⟨Nat.le_refl _, fun _ _ => rfl, fun g m hg hm' => (by rw [ha.dom g hg] at hm'; cases hm'), fun r hr hn => ?_, by omega, fun _ _ _ => rfl, fun _ _ _ => rfl⟩
      refine hother r (fun e' => ?_)
      exact hn h.n _ (μ.put_self h.n _) (by simpa using e'.symm)
  · rename_i e a n c hu1 hu2
    split at hg
    · rename_i hue
      injection hg with hg
      injection hg with e1 e2
      subst e1 e2
      cases hx
      refine Post.same hi (.string _) ?_
      simp [convert, run_underlying hu1, run_underlying hu2, run_underlying hue, Conv.bytesToString]
      rfl
    · rename_i g o hue
      split at hg
      · rename_i hn
        subst hn
        injection hg with hg
        injection hg with e1 e2
        subst e1 e2
        have : ∀ a' c', (Conv.bytesToString (.slice (some a') 0 c')).run P w = .ok (.string ⟨#[]⟩) w := by
          intro a' c'
          exact run_bytesToString (P := P) w a' 0 c' [] rfl
        cases hx with
        | slice hm hle hcap =>
          refine Post.same hi (.string _) ?_
          simp [convert, run_underlying hu1, run_underlying hu2, run_underlying hue, this]
        | slice0 hm h0 =>
          refine Post.same hi (.string _) ?_
          simp [convert, run_underlying hu1, run_underlying hu2, run_underlying hue, this]
      · rename_i hn
        split at hg
        case h_2 => cases hg
        rename_i l hl
        split at hg
        case h_2 => cases hg
        rename_i bs hbs
        injection hg with hg
        injection hg with e1 e2
        subst e1 e2
        cases hx with
        | slice hm hle hcap =>
          rename_i m c'
          obtain ⟨ns, rfl, rfl⟩ := bytesV_sound hbs
          obtain ⟨h1, l', h2, h3⟩ := hi.load hl hm
          have hl' : l' = ns.map (Value.int .u8) := by
            have := h2.toArray.eq (by simp [flat, flat1, flat0])
            have := congrArg Array.toList this
            simpa using this
          subst hl'
          have h4 : (loadCells ⟨m.r, m.s + o, none⟩ n).run P w = .ok (ns.map (Value.int .u8)).toArray w := by
            have := run_loadCells_list (P := P) w ⟨m.r, m.s + o, none⟩ (ns.map (Value.int .u8)) (fun j v hv => by rw [Addr.add_mid]; exact h3 j v hv)
            rwa [h1] at this
          refine Post.same hi (.string _) ?_
          have := run_bytesToString (P := P) w ⟨m.r, m.s + o, none⟩ n c' ns h4
          rw [foldl_push_bytes] at this
          simp [convert, run_underlying hu1, run_underlying hu2, run_underlying hue, this]
        | slice0 hm h0 => exact absurd rfl hn
    · cases hg
  · cases hg

theorem gIface_sound {t : TypeId} {v v' : Value} (hv : VR μ v v') {gv : Value} (hg : gIface P t v = some gv) (w : World) : ∃ u', (Instr.makeInterface t v').run P w = .ok u' w ∧ VR μ gv u' := by
  unfold gIface at hg
  split at hg
  · cases hg
  · rename_i d hd hu
    injection hg with hg
    subst hg
    refine ⟨.iface t v', ?_, .iface hv⟩
    cases d <;> first | (simp [Instr.makeInterface, run_underlying hu]; done) | (rename_i ms; exact absurd rfl (hd ms))
  · cases hg
theorem gLen_sound {t ty : TypeId} {v v' : Value} (hv : VR μ v v') {gv : Value} (hg : gLen P t v = some gv) (w : World) : (Builtin.len_ #[t] ty #[v']).run P w = .ok gv w ∧ VR μ gv gv := by
  unfold gLen at hg
  split at hg
  · rename_i hu
    injection hg with hg
    subst hg
    rw [hv.string_inv]
    exact ⟨by simp [Builtin.len_, run_underlying hu, goInt], .int _ _⟩
  · rename_i hu
    injection hg with hg
    subst hg
    refine ⟨?_, .int _ _⟩
    cases hv <;> simp [Builtin.len_, run_underlying hu, goInt]
  · rename_i hu
    injection hg with hg
    subst hg
    exact ⟨by simp [Builtin.len_, run_underlying hu, goInt], .int _ _⟩
  · cases hg
theorem gCap_sound {t ty : TypeId} {v v' : Value} (hv : VR μ v v') {gv : Value} (hg : gCap P t v = some gv) (w : World) : (Builtin.cap_ #[t] ty #[v']).run P w = .ok gv w ∧ VR μ gv gv := by
  unfold gCap at hg
  split at hg
  · rename_i hu
    split at hg
    · rename_i hn
      injection hg with hg
      subst hg
      refine ⟨?_, .int _ _⟩
      cases hv with
      | nilSlice => simp [Builtin.cap_, run_underlying hu, goInt]
      | slice hm hle hcap =>
        rcases hcap with ⟨rfl, _⟩ | ⟨e', rfl, _⟩
        · simp [Builtin.cap_, run_underlying hu, goInt]
        · omega
      | slice0 hm h0 =>
        rcases h0 with rfl | h0
        · simp [Builtin.cap_, run_underlying hu, goInt]
        · omega
    · cases hg
  · cases hg

theorem loadCells_zero (a : Addr) (w : World) : (loadCells a 0).run P w = .ok #[] w := rfl
theorem gCopy_sound (hi : Inv w0 B μ h w) {t0 t1 ty : TypeId} {d d' x x' : Value} (hd : VR μ d d') (hx : VR μ x x') {gv : Value} {h' : GH} (hg : gCopy P t0 t1 d x h = some (gv, h')) :
    Post w0 B μ h w gv h' ((Builtin.copy_ #[t0, t1] ty #[d', x']).run P w) := by
  unfold gCopy at hg
  split at hg
  case h_2 => cases hg
  rename_i e g o dl dc g2 o2 sl sc hsk
  have hu := sk_run hsk
  split at hg
  case h_2 => cases hg
  rename_i z hz
  split at hg
  case isFalse => cases hg
  rename_i hcs
  obtain ⟨i, v, hi1, hi2, rfl, hf⟩ := zk_info hz
  obtain ⟨k1, k2⟩ := cellsOf_info hi1
  rw [k1] at hcs
  split at hg
  · rename_i h0
    injection hg with hg
    injection hg with e1 e2
    subst e1 e2
    have h0' : Nat.min sl dl = 0 := h0
    have key : ∀ (a a' : Addr) (c c' : Nat), (Builtin.copy_ #[t0, t1] ty #[.slice (some a) dl c, .slice (some a') sl c']).run P w = .ok (.int .i64 0) w := by
      intro a a' c c'
      simp [Builtin.copy_, run_underlying hu, Builtin.lenOf, Builtin.firstCells, sizeOf, typeInfo, hi1, h0', storeCells, loadCells_zero, goInt]
    cases hd with
    | slice hm hle hcap => cases hx with
      | slice hm2 hle2 hcap2 => exact Post.same hi (.int _ _) (key _ _ _ _)
      | slice0 hm2 h02 => exact Post.same hi (.int _ _) (key _ _ _ _)
    | slice0 hm h00 => cases hx with
      | slice hm2 hle2 hcap2 => exact Post.same hi (.int _ _) (key _ _ _ _)
      | slice0 hm2 h02 => exact Post.same hi (.int _ _) (key _ _ _ _)
  · rename_i h0
    split at hg
    case h_2 => cases hg
    rename_i l hl
    obtain ⟨h2, hst, e1⟩ := Option.map_eq_some_iff.1 hg
    injection e1 with e1 e2
    subst e1 e2
    cases hd with
    | slice0 hm h00 => simp at h0
    | slice hm hle hcap => cases hx with
      | slice0 hm2 h02 => simp at h0
      | slice hm2 hle2 hcap2 =>
        rename_i m c m2 c2
        rw [← hcs] at hl
        obtain ⟨l', h5, h6, h7⟩ := firstCells_load (P := P) hi hl hm2 c2
        obtain ⟨q1, q2, q3⟩ := hi.store hst hm h5 P
        refine ⟨_, .int .i64 (min sl dl : Nat), _, ?_, q2, .int _ _, q3⟩
        have h7' : (Builtin.firstCells i.size (min sl dl) (.slice (some ⟨m2.r, m2.s + o2, none⟩) sl c2)).run P w = .ok l'.toArray w := h7
        have hmin : Nat.min sl dl = min sl dl := rfl
        simp [Builtin.copy_, run_underlying hu, Builtin.lenOf, sizeOf, typeInfo, hi1, hmin, h7', q1, goInt]
end
end Go.Proofs.Gh
