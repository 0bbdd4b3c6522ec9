/- Sk, part A: abstract values, stores and their relation to the machine's memory. No program in sight. -/
import Derived.WalkKit
set_option linter.unusedSimpArgs false
set_option linter.unusedVariables false
set_option linter.unusedSectionVars false
namespace Go.Sk
open Go Go.RowKit

/-- Abstract values. -/
inductive V where
  | any
  | int (k : IntKind) (n : Int)
  | bool (b : Bool)
  | str (s : ByteArray)
  | agg (cs : List V)
  | tup (vs : List V)
  | nil
  | ptr (k : Nat) (i c : Nat)
  | rp (es : Nat) (cs : List V) (c : Nat)
  | sl (k : Nat) (off len : Nat)
  | slx (k : Nat) (off len : Nat)
  | slk (k : Nat) (off len c : Nat)
  | lst (es : Nat) (t : Bool) (xs : List (List V))
  | fn (f : Nat) (caps : List V)
  | mp (k : Nat)
  | val (v : Value)

/-- Where objects lie: block (none: nowhere yet, an empty row), cells of an element, capacity in elements. -/
abbrev Sg := Nat → Option (Option Nat × Nat × Nat)

inductive VR (O : Nat → Prop) (w : World) : Sg → V → Value → Prop
  | any {σ : Sg} (v : Value) : VR O w σ .any v
  | int {σ : Sg} (k : IntKind) (n : Int) : VR O w σ (.int k n) (.int k n)
  | bool {σ : Sg} (b : Bool) : VR O w σ (.bool b) (.bool b)
  | str {σ : Sg} (s : ByteArray) : VR O w σ (.str s) (.string s)
  | agg {σ : Sg} {cs : List V} {arr : Array Value} (hn : arr.size = cs.length) (h : ∀ (i : Nat) (y : V) (v : Value), cs[i]? = some y → arr[i]? = some v → VR O w σ y v) : VR O w σ (.agg cs) (.agg arr)
  | tup {σ : Sg} {cs : List V} {arr : Array Value} (hn : arr.size = cs.length) (h : ∀ (i : Nat) (y : V) (v : Value), cs[i]? = some y → arr[i]? = some v → VR O w σ y v) : VR O w σ (.tup cs) (.tuple arr)
  | nil {σ : Sg} : VR O w σ .nil (.pointer none)
  | ptr {σ : Sg} {k i c b es cap : Nat} (h : σ k = some (some b, es, cap)) : VR O w σ (.ptr k i c) (.pointer (some ⟨b, i * es + c, none⟩))
  | rp {σ : Sg} {es : Nat} {cs : List V} {c : Nat} (b o : Nat) (cv : Nat → Value) (hn : cs.length = es) (hO : ¬ O b) (hb : b < w.heap.size)
      (h1 : ∀ j, j < es → w.cell? ⟨b, o + j, none⟩ = some (cv j)) (h3 : ∀ j, j < es → (cv j).oneCell' = true) (h2 : ∀ (j : Nat) (y : V), cs[j]? = some y → VR O w (fun _ => none) y (cv j)) : VR O w σ (.rp es cs c) (.pointer (some ⟨b, o + c, none⟩))
  | sl {σ : Sg} {k off len b es cap : Nat} {a : Option Addr} (h : σ k = some (some b, es, cap)) (hle : off + len ≤ cap) (ha : off < cap → a = some ⟨b, off * es, none⟩) : VR O w σ (.sl k off len) (.slice a len (cap - off))
  | slx {σ : Sg} {k off len b es cap : Nat} {a : Option Addr} (h : σ k = some (some b, es, cap)) (hle : off + len ≤ cap) (ha : 0 < len → a = some ⟨b, off * es, none⟩) : VR O w σ (.slx k off len) (.slice a len len)
  | slx0 {σ : Sg} {k es : Nat} {a : Option Addr} (h : σ k = some (none, es, 0)) : VR O w σ (.slx k 0 0) (.slice a 0 0)
  | slk {σ : Sg} {k off len c b es cap : Nat} {a : Option Addr} (h : σ k = some (some b, es, cap)) (hle : off + len ≤ cap) (ha : off < cap → a = some ⟨b, off * es, none⟩) (hc : c = cap - off) : VR O w σ (.slk k off len c) (.slice a len c)
  | slk0 {σ : Sg} {k es : Nat} {a : Option Addr} (h : σ k = some (none, es, 0)) : VR O w σ (.slk k 0 0 0) (.slice a 0 0)
  | sl0 {σ : Sg} {k es : Nat} {a : Option Addr} (h : σ k = some (none, es, 0)) : VR O w σ (.sl k 0 0) (.slice a 0 0)
  | lst {σ : Sg} {es : Nat} {t : Bool} {xs : List (List V)} {a : Option Addr} {cap : Nat} (b o : Nat) (cv : Nat → Nat → Value)
      (ha : xs ≠ [] → a = some ⟨b, o, none⟩ ∧ ¬ O b ∧ b < w.heap.size) (hes : ∀ x ∈ xs, x.length = es) (hcap : xs.length ≤ cap) (ht : t = true → cap = xs.length)
      (h1 : ∀ (i c : Nat), i < xs.length → c < es → w.cell? ⟨b, o + i * es + c, none⟩ = some (cv i c))
      (h3 : ∀ (i c : Nat), i < xs.length → c < es → (cv i c).oneCell' = true)
      (h2 : ∀ (i : Nat) (x : List V) (c : Nat) (y : V), xs[i]? = some x → x[c]? = some y → VR O w (fun _ => none) y (cv i c)) : VR O w σ (.lst es t xs) (.slice a xs.length cap)
  | fn {σ : Sg} {f : Nat} {cs : List V} {arr : Array Value} (hn : arr.size = cs.length) (h : ∀ (i : Nat) (y : V) (v : Value), cs[i]? = some y → arr[i]? = some v → VR O w σ y v) : VR O w σ (.fn f cs) (.func (.func f) #[] arr)
  | mp {σ : Sg} {k b es cap : Nat} (h : σ k = some (some b, es, cap)) : VR O w σ (.mp k) (.map (some b))
  | val {σ : Sg} (v : Value) : VR O w σ (.val v) v

/-- Old blocks that nobody owns are as they were. -/
structure Keep (O : Nat → Prop) (w w' : World) : Prop where
  os : w'.os = w.os
  tape : w'.tape = w.tape
  output : w'.output = w.output
  size : w.heap.size ≤ w'.heap.size
  block : ∀ b, b < w.heap.size → ¬ O b → w'.heap[b]? = w.heap[b]?

theorem Keep.refl (O : Nat → Prop) (w : World) : Keep O w w := ⟨rfl, rfl, rfl, Nat.le_refl _, fun _ _ _ => rfl⟩
theorem Keep.trans {O O' : Nat → Prop} {a b c : World} (h : Keep O a b) (k : Keep O' b c) (ho : ∀ n, n < a.heap.size → O' n → O n) : Keep O a c :=
  ⟨k.os.trans h.os, k.tape.trans h.tape, k.output.trans h.output, Nat.le_trans h.size k.size, fun i hi hn => (k.block i (Nat.lt_of_lt_of_le hi h.size) (fun hx => hn (ho i hi hx))).trans (h.block i hi hn)⟩
theorem Keep.below {w w' : World} (h : Keep (fun _ => False) w w') : Below w.heap.size w w' := ⟨h.os, h.tape, h.output, h.size, fun k hk => h.block k hk id⟩
theorem Keep.cell {O : Nat → Prop} {w w' : World} (h : Keep O w w') {b o : Nat} (hb : b < w.heap.size) (hO : ¬ O b) : w'.cell? ⟨b, o, none⟩ = w.cell? ⟨b, o, none⟩ :=
  World.cell?_of_block (w := w) (h.block b hb hO)

/-- What a value's reading rests on: the objects that it names. -/
inductive Refs : V → Nat → Prop
  | ptr {k i c : Nat} : Refs (.ptr k i c) k
  | sl {k off len : Nat} : Refs (.sl k off len) k
  | slx {k off len : Nat} : Refs (.slx k off len) k
  | slk {k off len c : Nat} : Refs (.slk k off len c) k
  | mp {k : Nat} : Refs (.mp k) k
  | agg {cs : List V} {i : Nat} {y : V} {k : Nat} (h : cs[i]? = some y) (hr : Refs y k) : Refs (.agg cs) k
  | tup {cs : List V} {i : Nat} {y : V} {k : Nat} (h : cs[i]? = some y) (hr : Refs y k) : Refs (.tup cs) k
  | fn {f : Nat} {cs : List V} {i : Nat} {y : V} {k : Nat} (h : cs[i]? = some y) (hr : Refs y k) : Refs (.fn f cs) k

theorem VR.mono {σ σ' : Sg} {O O' : Nat → Prop} {w w' : World} {x : V} {v : Value} (h : VR O w σ x v) (hk : Keep O w w') (hO : ∀ b, b < w.heap.size → O' b → O b)
    (hσ : ∀ k, Refs x k → σ' k = σ k) : VR O' w' σ' x v := by
  induction h generalizing σ' with
  | any v => exact .any v
  | int k n => exact .int k n
  | bool b => exact .bool b
  | str s => exact .str s
  | agg hn h ih => exact .agg hn fun i y v hi hv => ih i y v hi hv fun k hr => hσ k (.agg hi hr)
  | tup hn h ih => exact .tup hn fun i y v hi hv => ih i y v hi hv fun k hr => hσ k (.tup hi hr)
  | nil => exact .nil
  | ptr h => exact .ptr ((hσ _ .ptr).trans h)
  | rp b o cv hn hOb hb h1 h3 h2 ih =>
    exact .rp b o cv hn (fun hx => hOb (hO b hb hx)) (Nat.lt_of_lt_of_le hb hk.size) (fun j hj => (hk.cell hb hOb).trans (h1 j hj)) h3 fun j y hy => ih j y hy fun _ _ => rfl
  | sl h hle ha => exact .sl ((hσ _ .sl).trans h) hle ha
  | sl0 h => exact .sl0 ((hσ _ .sl).trans h)
  | slx h hle ha => exact .slx ((hσ _ .slx).trans h) hle ha
  | slx0 h => exact .slx0 ((hσ _ .slx).trans h)
  | slk h hle ha hc => exact .slk ((hσ _ .slk).trans h) hle ha hc
  | slk0 h => exact .slk0 ((hσ _ .slk).trans h)
  | @lst σ es t xs a cap b o cv ha hes hcap ht h1 h3 h2 ih =>
    refine .lst b o cv (fun hx => ?_) hes hcap ht (fun i c hi hc => ?_) h3 fun i x c y hx hy => ih i x c y hx hy fun _ _ => rfl
    · obtain ⟨e, hOb, hb⟩ := ha hx
      exact ⟨e, fun hx => hOb (hO b hb hx), Nat.lt_of_lt_of_le hb hk.size⟩
    · obtain ⟨e, hOb, hb⟩ := ha (by rintro rfl; simp at hi)
      exact (hk.cell hb hOb).trans (h1 i c hi hc)
  | fn hn h ih => exact .fn hn fun i y v hi hv => ih i y v hi hv fun k hr => hσ k (.fn hi hr)
  | mp h => exact .mp ((hσ _ .mp).trans h)
  | val v => exact .val v

/-- A slice of which less is said. -/
def unk : V → V
  | .slk k off len _ => .sl k off len
  | v => v
theorem unk_VR {O : Nat → Prop} {w : World} {σ : Sg} {x : V} {v : Value} (h : VR O w σ x v) : VR O w σ (unk x) v := by
  cases h with
  | slk h hle ha hc => subst hc; exact .sl h hle ha
  | slk0 h => exact .sl0 h
  | any v => exact .any v
  | int k n => exact .int k n
  | bool b => exact .bool b
  | str s => exact .str s
  | agg hn h => exact .agg hn h
  | tup hn h => exact .tup hn h
  | nil => exact .nil
  | ptr h => exact .ptr h
  | rp b o cv hn hO hb h1 h3 h2 => exact .rp b o cv hn hO hb h1 h3 h2
  | sl h hle ha => exact .sl h hle ha
  | slx h hle ha => exact .slx h hle ha
  | slx0 h => exact .slx0 h
  | sl0 h => exact .sl0 h
  | lst b o cv ha hes hcap ht h1 h3 h2 => exact .lst b o cv ha hes hcap ht h1 h3 h2
  | fn hn h => exact .fn hn h
  | mp h => exact .mp h
  | val v => exact .val v

theorem VR.refs {O : Nat → Prop} {w : World} {σ : Sg} {x : V} {v : Value} (h : VR O w σ x v) : ∀ k, Refs x k → σ k ≠ none := by
  induction h with
  | agg hn h ih =>
    intro k hr
    cases hr with
    | @agg _ i y _ hy hr' =>
      obtain ⟨hi, _⟩ := List.getElem?_eq_some_iff.1 hy
      exact ih i y _ hy (Array.getElem?_eq_getElem (hn ▸ hi)) k hr'
  | tup hn h ih =>
    intro k hr
    cases hr with
    | @tup _ i y _ hy hr' =>
      obtain ⟨hi, _⟩ := List.getElem?_eq_some_iff.1 hy
      exact ih i y _ hy (Array.getElem?_eq_getElem (hn ▸ hi)) k hr'
  | fn hn h ih =>
    intro k hr
    cases hr with
    | @fn _ _ i y _ hy hr' =>
      obtain ⟨hi, _⟩ := List.getElem?_eq_some_iff.1 hy
      exact ih i y _ hy (Array.getElem?_eq_getElem (hn ▸ hi)) k hr'
  | ptr h => intro k hr; cases hr; rw [h]; simp
  | sl h => intro k hr; cases hr; rw [h]; simp
  | sl0 h => intro k hr; cases hr; rw [h]; simp
  | slx h => intro k hr; cases hr; rw [h]; simp
  | slx0 h => intro k hr; cases hr; rw [h]; simp
  | slk h => intro k hr; cases hr; rw [h]; simp
  | slk0 h => intro k hr; cases hr; rw [h]; simp
  | mp h => intro k hr; cases hr; rw [h]; simp
  | _ => intro k hr; cases hr

/-- Objects of a store: a row of elements (none of them names an object); a box (its cells may). -/
inductive Obj where
  | row (es : Nat) (xs : List (List V))
  | box (cs : List V)
  | mp (xs : Nat × List (List Int × V))

/-- A key of a map: one number, or a struct of some. -/
def kyV : List Int → Value
  | [n] => .int .i64 n
  | l => .agg (l.map (Value.int .i64)).toArray

abbrev Store := List (Nat × Obj)
def Store.get : Store → Nat → Option Obj
  | [], _ => none
  | (j, o) :: r, k => if k = j then some o else Store.get r k
def Store.set : Store → Nat → Obj → Store
  | [], k, o => [(k, o)]
  | (j, p) :: r, k, o => if k = j then (k, o) :: r else (j, p) :: Store.set r k o
def Store.del : Store → Nat → Store
  | [], _ => []
  | (j, p) :: r, k => if k = j then Store.del r k else (j, p) :: Store.del r k

theorem Store.get_set (S : Store) (k : Nat) (o : Obj) (j : Nat) : (S.set k o).get j = if j = k then some o else S.get j := by
  induction S with
  | nil => simp [Store.set, Store.get]
  | cons p r ih =>
    obtain ⟨i, q⟩ := p
    simp only [Store.set]
    by_cases h : k = i
    · subst h; simp only [if_true, Store.get]; by_cases hj : j = k <;> simp [hj]
    · simp only [if_neg h, Store.get, ih]
      by_cases hj : j = i
      · subst hj; simp [Ne.symm h]
      · simp [hj]
theorem Store.get_del (S : Store) (k : Nat) (j : Nat) : (S.del k).get j = if j = k then none else S.get j := by
  induction S with
  | nil => simp [Store.del, Store.get]
  | cons p r ih =>
    obtain ⟨i, q⟩ := p
    simp only [Store.del]
    by_cases h : k = i
    · subst h; simp only [if_true, ih, Store.get]; by_cases hj : j = k <;> simp [hj]
    · simp only [if_neg h, Store.get, ih]
      by_cases hj : j = i
      · subst hj; simp [Ne.symm h]
      · simp [hj]

/-- The blocks of a store's objects. -/
def OwnE (σ : Sg) (S : Store) (b : Nat) : Prop := ∃ (k : Nat) (o : Obj) (es cap : Nat), S.get k = some o ∧ σ k = some (some b, es, cap)
/-- Those, and the blocks of others (U) that nothing here may name. -/
def Own (U : Nat → Prop) (σ : Sg) (S : Store) (b : Nat) : Prop := U b ∨ OwnE σ S b

/-- The mark of a block that was made of a string lies behind its cells. -/
def mkF (_b : Bool) (_n : Nat) : Nat × Nat := (0, 0)

/-- What a store says of memory. -/
def ObjR (O : Nat → Prop) (w : World) (σ : Sg) (loc : Option (Option Nat × Nat × Nat)) : Obj → Prop
  | .row es xs => (∀ x ∈ xs, x.length = es) ∧ match loc with
    | none => False
    | some (none, es', cap) => es' = es ∧ cap = 0 ∧ xs = []
    | some (some b, es', cap) => es' = es ∧ (xs.length ≤ cap ∧ cap ≤ 9223372036854775807) ∧ ∃ (arr : Array Value) (ty : TypeId × Bool), w.heap[b]? = some (.cells arr ty.1 (mkF ty.2 arr.size)) ∧ cap * es ≤ arr.size ∧
        ∀ (i : Nat) (x : List V) (c : Nat) (y : V), xs[i]? = some x → x[c]? = some y → ∃ v, arr[i * es + c]? = some v ∧ v.oneCell' = true ∧ VR O w (fun _ => none) y v
  | .box cs => ∃ b, loc = some (some b, cs.length, 1) ∧ ∃ arr ty, w.heap[b]? = some (.cells arr ty (0, 0)) ∧ arr.size = cs.length ∧
        ∀ (c : Nat) (y : V), cs[c]? = some y → ∃ v, arr[c]? = some v ∧ v.oneCell' = true ∧ VR O w σ y v
  | .mp xs => ∃ b, loc = some (some b, 0, 0) ∧ ∃ es clock, w.heap[b]? = some (.map es clock) ∧ es.size = xs.2.length ∧
        ∀ (i : Nat) (p : List Int × V), xs.2[i]? = some p → ∃ en, es[i]? = some en ∧ (p.1.length = xs.1 ∧ en.key = kyV p.1) ∧ VR O w (fun _ => none) p.2 en.val

/-- The package-level variables that are read: what they hold (they are never written). -/
class Tab where
  gl : Nat → Option (List V)
  /-- Functions that leave what they are lent as it is. -/
  ro : List Nat
variable [Tab]
def GlR (O : Nat → Prop) (w : World) : Prop := ∀ (g : Nat) (cs : List V), Tab.gl g = some cs → VR O w (fun _ => none) (.rp cs.length cs 0) (.pointer (some ⟨g, 0, none⟩))
theorem GlR.mono {O O' : Nat → Prop} {w w' : World} (h : GlR O w) (hk : Keep O w w') (hO : ∀ b, b < w.heap.size → O' b → O b) : GlR O' w' := fun g cs e => (h g cs e).mono hk hO fun _ _ => rfl
theorem GlR.less {O O' : Nat → Prop} {w : World} (h : GlR O w) (hO : ∀ b, O' b → O b) : GlR O' w := h.mono (Keep.refl _ _) fun b _ => hO b

structure RelS (U : Nat → Prop) (σ : Sg) (S : Store) (w : World) (n : Nat) : Prop where
  obj : ∀ k o, S.get k = some o → ObjR (Own U σ S) w σ (σ k) o
  inj : ∀ k k' o o' b es cap es' cap', S.get k = some o → S.get k' = some o' → σ k = some (some b, es, cap) → σ k' = some (some b, es', cap') → k = k'
  fresh : ∀ k, n ≤ k → S.get k = none ∧ σ k = none
  disj : ∀ b, OwnE σ S b → ¬ U b
  ulim : ∀ b, U b → b < w.heap.size
  gl : GlR (Own U σ S) w

theorem RelS.size {U : Nat → Prop} {σ : Sg} {S : Store} {w : World} {n : Nat} (h : RelS U σ S w n) {b : Nat} (hb : OwnE σ S b) : b < w.heap.size := by
  obtain ⟨k, o, es, cap, hk, hs⟩ := hb
  have ho := h.obj k o hk
  rw [hs] at ho
  cases o with
  | row es' xs =>
    obtain ⟨-, -, -, arr, ty, hh, -⟩ := ho
    exact (Array.getElem?_eq_some_iff.1 hh).1
  | box cs =>
    obtain ⟨b', hl, arr, ty, hh, -⟩ := ho
    simp only [Option.some.injEq, Prod.mk.injEq] at hl
    obtain ⟨rfl, -, -⟩ := hl
    exact (Array.getElem?_eq_some_iff.1 hh).1
  | mp xs =>
    obtain ⟨b', hl, arr, ck, hh, -⟩ := ho
    simp only [Option.some.injEq, Prod.mk.injEq] at hl
    obtain ⟨rfl, -, -⟩ := hl
    exact (Array.getElem?_eq_some_iff.1 hh).1

theorem RelS.loc {U : Nat → Prop} {σ : Sg} {S : Store} {w : World} {n : Nat} (h : RelS U σ S w n) {k : Nat} {o : Obj} (hk : S.get k = some o) : σ k ≠ none := by
  intro hs
  have ho := h.obj k o hk
  rw [hs] at ho
  cases o with
  | row es xs => exact ho.2
  | box cs => obtain ⟨b, hb, -⟩ := ho; cases hb
  | mp xs => obtain ⟨b, hb, -⟩ := ho; cases hb

/-- From one state of memory to a later one. -/
structure Grow (σ : Sg) (S : Store) (w : World) (n : Nat) (σ' : Sg) (S' : Store) (w' : World) (n' : Nat) : Prop where
  keep : Keep (OwnE σ S) w w'
  own : ∀ b, b < w.heap.size → OwnE σ' S' b → OwnE σ S b
  sg : ∀ k, σ k ≠ none → σ' k = σ k
  nx : n ≤ n'

theorem Grow.refl (σ : Sg) (S : Store) (w : World) (n : Nat) : Grow σ S w n σ S w n := ⟨Keep.refl _ _, fun _ _ h => h, fun _ _ => rfl, Nat.le_refl _⟩
theorem Grow.trans {σ σ' σ'' : Sg} {S S' S'' : Store} {w w' w'' : World} {n n' n'' : Nat} (h : Grow σ S w n σ' S' w' n') (g : Grow σ' S' w' n' σ'' S'' w'' n'') : Grow σ S w n σ'' S'' w'' n'' :=
  ⟨h.keep.trans g.keep h.own, fun b hb ho => h.own b hb (g.own b (Nat.lt_of_lt_of_le hb h.keep.size) ho), fun k hk => (g.sg k (by rw [h.sg k hk]; exact hk)).trans (h.sg k hk), Nat.le_trans h.nx g.nx⟩

/-- The same, of what was owned at the beginning alone. -/
structure GrowB (O0 : Nat → Prop) (σ : Sg) (w : World) (n : Nat) (σ' : Sg) (S' : Store) (w' : World) (n' : Nat) : Prop where
  keep : Keep O0 w w'
  own : ∀ b, b < w.heap.size → OwnE σ' S' b → O0 b
  sg : ∀ k, σ k ≠ none → σ' k = σ k
  nx : n ≤ n'
theorem GrowB.trans {O0 : Nat → Prop} {σ σ' σ'' : Sg} {S' S'' : Store} {w w' w'' : World} {n n' n'' : Nat} (h : GrowB O0 σ w n σ' S' w' n') (g : Grow σ' S' w' n' σ'' S'' w'' n'') : GrowB O0 σ w n σ'' S'' w'' n'' :=
  ⟨h.keep.trans g.keep h.own, fun b hb ho => h.own b hb (g.own b (Nat.lt_of_lt_of_le hb h.keep.size) ho), fun k hk => (g.sg k (by rw [h.sg k hk]; exact hk)).trans (h.sg k hk), Nat.le_trans h.nx g.nx⟩
theorem Grow.toB {σ σ' : Sg} {S S' : Store} {w w' : World} {n n' : Nat} (h : Grow σ S w n σ' S' w' n') : GrowB (OwnE σ S) σ w n σ' S' w' n' := ⟨h.keep, h.own, h.sg, h.nx⟩
theorem GrowB.toG {σ σ' : Sg} {S S' : Store} {w w' : World} {n n' : Nat} (h : GrowB (OwnE σ S) σ w n σ' S' w' n') : Grow σ S w n σ' S' w' n' := ⟨h.keep, h.own, h.sg, h.nx⟩

theorem Keep.wider {O O' : Nat → Prop} {w w' : World} (h : Keep O w w') (ho : ∀ b, O b → O' b) : Keep O' w w' := ⟨h.os, h.tape, h.output, h.size, fun b hb hn => h.block b hb fun hx => hn (ho b hx)⟩
theorem Grow.keepU {σ σ' : Sg} {S S' : Store} {w w' : World} {n n' : Nat} (g : Grow σ S w n σ' S' w' n') (U : Nat → Prop) : Keep (Own U σ S) w w' := g.keep.wider fun _ h => .inr h
theorem Grow.ownU {σ σ' : Sg} {S S' : Store} {w w' : World} {n n' : Nat} (g : Grow σ S w n σ' S' w' n') (U : Nat → Prop) : ∀ b, b < w.heap.size → Own U σ' S' b → Own U σ S b := fun b hb h => h.imp id (g.own b hb)
theorem VR.grow {U : Nat → Prop} {σ σ' : Sg} {S S' : Store} {w w' : World} {n n' : Nat} {x : V} {v : Value} (h : VR (Own U σ S) w σ x v) (g : Grow σ S w n σ' S' w' n') : VR (Own U σ' S') w' σ' x v :=
  h.mono (g.keepU U) (g.ownU U) fun k hr => g.sg k (h.refs k hr)

theorem Keep.same {O : Nat → Prop} {w w' : World} (h : Keep (fun _ => False) w w') : Keep O w w' := ⟨h.os, h.tape, h.output, h.size, fun b hb _ => h.block b hb id⟩

/-- What names no object reads the same under every placing of objects. -/
theorem VR.lift {O : Nat → Prop} {w : World} {x : V} {v : Value} (h : VR O w (fun _ => none) x v) (σ : Sg) : VR O w σ x v :=
  h.mono (Keep.refl O w) (fun _ _ h => h) fun k hr => absurd rfl (h.refs k hr)

theorem VR.agg_get {O : Nat → Prop} {w : World} {σ : Sg} {cs : List V} {v : Value} (h : VR O w σ (.agg cs) v) : ∃ arr, v = .agg arr ∧ arr.size = cs.length ∧ ∀ (i : Nat) (y : V) (u : Value), cs[i]? = some y → arr[i]? = some u → VR O w σ y u := by
  cases h with
  | agg hn h => exact ⟨_, rfl, hn, h⟩

/-- The cells behind a pointer. -/
def Store.cellsAt (S : Store) (k i : Nat) : List V :=
  match S.get k with
  | some (.row _ xs) => xs.getD i []
  | some (.box cs) => cs
  | some (.mp _) => []
  | none => []

theorem RelS.cells {U : Nat → Prop} {σ : Sg} {S : Store} {w : World} {n : Nat} (h : RelS U σ S w n) {k i : Nat} {b es cap : Nat} (hs : σ k = some (some b, es, cap))
    {o : Obj} (ho : S.get k = some o) (hi : match o with | .row _ xs => i < xs.length | .box _ => i = 0 | .mp _ => False) :
    (S.cellsAt k i).length = es ∧ b < w.heap.size ∧ ∀ (c : Nat) (y : V), (S.cellsAt k i)[c]? = some y → ∃ v, w.cell? ⟨b, i * es + c, none⟩ = some v ∧ v.oneCell' = true ∧ VR (Own U σ S) w σ y v := by
  have hob := h.obj k o ho
  rw [hs] at hob
  unfold Store.cellsAt
  rw [ho]
  refine ⟨?_, h.size ⟨k, o, es, cap, ho, hs⟩, ?_⟩
  · cases o with
    | row es' xs =>
      obtain ⟨hl, rfl, -⟩ := hob
      simp only at hi
      simp only [List.getD_eq_getElem?_getD, List.getElem?_eq_getElem hi, Option.getD_some]
      exact hl _ (List.getElem_mem hi)
    | box cs =>
      obtain ⟨b', hl, -⟩ := hob
      simp only [Option.some.injEq, Prod.mk.injEq] at hl
      exact hl.2.1.symm
    | mp xs => exact hi.elim
  · intro c y hy
    cases o with
    | row es' xs =>
      obtain ⟨hl, rfl, hc, arr, ty, hh, hsz, hv⟩ := hob
      simp only at hi hy
      simp only [List.getD_eq_getElem?_getD, List.getElem?_eq_getElem hi, Option.getD_some] at hy
      obtain ⟨v, h1, h3, h2⟩ := hv i xs[i] c y (List.getElem?_eq_getElem hi) hy
      exact ⟨v, by simp [World.cell?, hh, h1], h3, h2.lift σ⟩
    | box cs =>
      simp only at hi hy
      subst hi
      obtain ⟨b', hl, arr, ty, hh, hsz, hv⟩ := hob
      simp only [Option.some.injEq, Prod.mk.injEq] at hl
      obtain ⟨rfl, rfl, rfl⟩ := hl
      obtain ⟨v, h1, h3, h2⟩ := hv c y hy
      exact ⟨v, by simp [World.cell?, hh, h1], h3, h2⟩
    | mp xs => exact hi.elim

end Go.Sk
