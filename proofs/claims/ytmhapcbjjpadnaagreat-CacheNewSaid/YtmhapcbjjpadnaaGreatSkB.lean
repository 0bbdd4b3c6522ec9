/- Sk, part B: resolved instructions, and what the machine's operations do on values that are given. -/
import Derived.Test.YtmhapcbjjpadnaaGreatSkA
import Derived.WalkSpells
import Derived.WalkLawsBesides
set_option linter.unusedSimpArgs false
set_option linter.unusedVariables false
set_option linter.unusedSectionVars false
namespace Go.Sk
open Go Go.RowKit
variable [Tab]

inductive A where
  | t (n : Nat)
  | c (v : V)

/-- What a cell of a comparable type holds. -/
inductive Kd where
  | i | b | s

inductive I where
  | mv (x : A)
  | pick (c a b : A)
  | un (op : UnOp) (x : A)
  | bin (op : BinOp) (x y : A)
  | conv (k : IntKind) (x : A)
  | nilck (x : A)
  | faddr (off : Nat) (x : A)
  | fget (agg : Bool) (off n : Nat) (x : A)
  | ld (agg : Bool) (n : Nat) (x : A)
  | st (n : Nat) (x y : A)
  | iaddr (es : Nat) (x i : A)
  | iarr (n es : Nat) (x i : A)
  | aidx (n : Nat) (x i : A)
  | slc (es : Nat) (x : A) (lo hi : Option A)
  | slc3 (es : Nat) (x : A) (lo : Option A) (hi mx : A)
  | isnil (neg : Bool) (x : A)
  | mkfn (f : Nat) (xs : List A)
  | len (x : A)
  | mx (x y : A)
  | mn (x y : A)
  | extr (i : Nat) (x : A)
  | eqb (neg : Bool) (x y : A)
  | eqs (neg : Bool) (offs : List (Nat × Kd)) (x y : A)
  | slen (x : A)
  | sidx (x i : A)
  | ssl (x : A) (lo hi : Option A)
  | scat (x y : A)
  | sqs (neg : Bool) (x y : A)
  | b2s (x : A)
  | s2b (x : A)
  | aslc (n : Nat) (x : A) (hi : Option A)
  | cpys (x y : A)
  | build (z : List V) (ps : List (Nat × Nat × A))
  | alloc (z : List V)
  | box (x : A)
  | bslice (es : Nat) (z : List V) (n : Nat) (ps : List (Nat × A))
  | mk (es bytes : Nat) (z : List V) (l c : A)
  | app (es bytes : Nat) (x y : A)
  | cpy (es : Nat) (x y : A)
  | mkmap (ks : Nat)
  | mget (z : V) (ok : Bool) (x i : A)
  | mput (x i v : A)
  | mgetp (z : V) (ok : Bool) (x i : A)
  | mputp (x i v : A)
  | clr (es : Nat) (z : List V) (x : A)
  | call (f : Nat) (xs : List A)
  | vcall (x : A) (xs : List A)
  | bad

/-- Values that are written out in the program. -/
def vOf : Value → Option V
  | .int k n => some (.int k n)
  | .bool b => some (.bool b)
  | .string s => some (.str s)
  | .pointer none => some .nil
  | .slice none 0 0 => some (.lst 0 true [])
  | .tuple a => if a.size = 0 then some (.tup []) else none
  | .nilFunc => some (.val .nilFunc)
  | .map none => some (.val (.map none))
  | .nilIface => some (.val .nilIface)
  | _ => none

theorem vOf_VR {v : Value} {x : V} (h : vOf v = some x) (O : Nat → Prop) (w : World) (σ : Sg) : VR O w σ x v := by
  unfold vOf at h
  split at h
  case h_6 a =>
    split at h
    · rename_i h0
      obtain rfl := Option.some.inj h
      exact .tup (by simpa using h0) (by simp)
    · cases h
  case h_10 => cases h
  all_goals (obtain rfl := Option.some.inj h)
  · exact .int _ _
  · exact .bool _
  · exact .str _
  · exact .nil
  · exact .lst (xs := []) 0 0 (fun _ _ => undef) (by simp) (by simp) (by simp) (by simp) (by simp) (by simp) (by simp)
  · exact .val _
  · exact .val _
  · exact .val _

def vsOf : List Value → Option (List V)
  | [] => some []
  | v :: r => match vOf v, vsOf r with
    | some x, some xs => some (x :: xs)
    | _, _ => none

theorem vsOf_VR {vs : List Value} {xs : List V} (h : vsOf vs = some xs) : xs.length = vs.length ∧ ∀ (i : Nat) (y : V) (v : Value), xs[i]? = some y → vs[i]? = some v → ∀ (O : Nat → Prop) (w : World) (σ : Sg), VR O w σ y v := by
  induction vs generalizing xs with
  | nil => simp only [vsOf, Option.some.injEq] at h; subst h; simp
  | cons v r ih =>
    simp only [vsOf] at h
    split at h
    · rename_i x xs' h1 h2
      obtain rfl := Option.some.inj h
      obtain ⟨e, f⟩ := ih h2
      refine ⟨by simp [e], fun i y u hi hu => ?_⟩
      cases i with
      | zero => simp only [List.getElem?_cons_zero, Option.some.injEq] at hi hu; subst hi hu; exact vOf_VR h1
      | succ i => simp only [List.getElem?_cons_succ] at hi hu; exact f i y u hi hu
    · cases h

def resA : Operand → Option A
  | .tmp t => some (.t t)
  | .const v => (vOf v).map .c
  | .func f => some (.c (.fn f []))
  | .global g => (Tab.gl g).map fun cs => .c (.rp cs.length cs 0)

def tyAgg (P : Program) (t : TypeId) : Option Bool :=
  match P.underlying t with
  | some (.struct _) => some true
  | some (.array _ _) => some true
  | some _ => some false
  | none => none
def tySize (P : Program) (t : TypeId) : Option Nat := (P.info? t).map (·.size)

section runs
variable {P : Program} {w : World}

theorem run_sizeOf' {t : TypeId} {n : Nat} (h : tySize P t = some n) : (sizeOf t).run P w = .ok n w := by
  unfold tySize at h
  cases hi : P.info? t with
  | none => simp [hi] at h
  | some i => simp only [hi, Option.map_some, Option.some.injEq] at h; subst h; simp [sizeOf, typeInfo, hi]

theorem run_isAgg' {t : TypeId} {b : Bool} (h : tyAgg P t = some b) : (isAgg t).run P w = .ok b w := by
  unfold tyAgg at h
  cases hu : P.underlying t with
  | none => simp [hu] at h
  | some d =>
    simp only [hu] at h
    unfold isAgg
    simp only [Sem.run_bind, run_underlying hu, Result.andThen_ok]
    cases d <;> simp_all

theorem add_none (b o j : Nat) : Addr.add ⟨b, o, none⟩ j = ⟨b, o + j, none⟩ := by
  unfold Addr.add; split <;> simp_all

theorem run_loadCellsFrom (b o : Nat) (cv : Nat → Value) : ∀ (n i : Nat) (acc : Array Value), (∀ j, j < n → w.cell? ⟨b, o + (i + j), none⟩ = some (cv (i + j))) →
    (loadCellsFrom ⟨b, o, none⟩ i n acc).run P w = .ok (acc ++ ((List.range n).map fun j => cv (i + j)).toArray) w := by
  intro n
  induction n with
  | zero => intro i acc _; simp [loadCellsFrom]
  | succ n ih =>
    intro i acc h
    have h0 := h 0 (by omega)
    simp only [Nat.add_zero] at h0
    simp only [loadCellsFrom, Sem.run_bind, add_none, run_load, h0, Result.andThen_ok]
    rw [ih (i + 1) _ fun j hj => by have := h (j + 1) (by omega); rw [show i + 1 + j = i + (j + 1) by omega]; exact this]
    congr 1
    apply Array.ext'
    simp [List.range_succ_eq_map, Function.comp_def, Nat.add_assoc, Nat.add_comm 1]

theorem run_loadCells (b o : Nat) (cv : Nat → Value) (n : Nat) (h : ∀ j, j < n → w.cell? ⟨b, o + j, none⟩ = some (cv j)) :
    (loadCells ⟨b, o, none⟩ n).run P w = .ok ((List.range n).map cv).toArray w := by
  unfold loadCells
  rw [run_loadCellsFrom b o cv n 0 #[] (by simpa using h)]
  simp

/-- Reading a variable: a struct or an array, or one cell. -/
theorem run_loadVar' {t : TypeId} {agg : Bool} {n : Nat} (ha : tyAgg P t = some agg) (hs : tySize P t = some n) (b o : Nat) (cv : Nat → Value)
    (h : ∀ j, j < n → w.cell? ⟨b, o + j, none⟩ = some (cv j)) (h1 : agg = false → n = 1) :
    (loadVar t ⟨b, o, none⟩).run P w = .ok (if agg then .agg ((List.range n).map cv).toArray else cv 0) w := by
  unfold loadVar
  simp only [Sem.run_bind, run_isAgg' ha, Result.andThen_ok]
  cases agg with
  | true => simp [run_sizeOf' hs, run_loadCells b o cv n h]
  | false =>
    have h0 := h 0 (by have := h1 rfl; omega)
    simp only [Nat.add_zero] at h0
    simp [h0]
end runs

def flatFs (g : TypeId → Nat → Option (List (Nat × Kd))) (P : Program) (n o : Nat) : List Field → Option (List (Nat × Kd))
  | [] => some []
  | f :: r => match g f.type (o + f.offset), tySize P f.type, flatFs g P n o r with
    | some l, some m, some k => if f.name ≠ "_" ∧ f.offset + m ≤ n then some (l ++ k) else none
    | _, _, _ => none
def flatIs (g : Nat → Option (List (Nat × Kd))) (es : Nat) : Nat → Nat → Option (List (Nat × Kd))
  | 0, _ => some []
  | n + 1, o => match g o, flatIs g es n (o + es) with
    | some l, some k => some (l ++ k)
    | _, _ => none
/-- The cells of a comparable type, in order. -/
def flatT (P : Program) : Nat → TypeId → Nat → Option (List (Nat × Kd))
  | 0, _, _ => none
  | d + 1, t, o => match P.underlying t with
    | some (.int _) => if tySize P t = some 1 then some [(o, .i)] else none
    | some .bool => if tySize P t = some 1 then some [(o, .b)] else none
    | some .string => if tySize P t = some 1 then some [(o, .s)] else none
    | some (.struct fs) => match tySize P t with
      | some n => if P.stoodInHeld t = false then flatFs (flatT P d) P n o fs.toList else none
      | none => none
    | some (.array n e) => match tySize P e, tySize P t with
      | some es, some m => if m = n * es then flatIs (fun o => flatT P d e o) es n o else none
      | _, _ => none
    | _ => none
def eqTy (P : Program) (t : TypeId) : Option (List (Nat × Kd)) := if P.eqGuardType P.depth t = false then flatT P 8 t 0 else none
/-- A struct of two numbers, as the key of a map. -/
def isI64 (P : Program) (t : TypeId) : Bool := match P.underlying t with
  | some (.int .i64) => true
  | _ => false
def pairT (P : Program) (t : TypeId) (fs : Array Field) : Bool :=
  (match tyAgg P t, tySize P t, flatT P 8 t 0 with
  | some true, some 2, some [(0, .i), (1, .i)] => true
  | _, _, _ => false) && fs.toList.all fun f => isI64 P f.type && ((match tyAgg P f.type with | some false => true | _ => false) && Nat.blt f.offset 2)

def resOp (P : Program) : Op → Option I
  | .move x => (resA x).map .mv
  | .assign x => (resA x).map .mv
  | .pick c a b => match resA c, resA a, resA b with
    | some c, some a, some b => some (.pick c a b)
    | _, _, _ => none
  | .unOp op _ x => (resA x).map (.un op)
  | .binOp op t x y _ => match P.underlying t, resA x, resA y with
    | some (.int _), some x, some y => some (.bin op x y)
    | some .bool, some x, some y => match op with
      | .eql => some (.eqb false x y)
      | .neq => some (.eqb true x y)
      | _ => none
    | some (.struct _), some x, some y => match eqTy P t, op with
      | some l, .eql => some (.eqs false l x y)
      | some l, .neq => some (.eqs true l x y)
      | _, _ => none
    | some (.array _ _), some x, some y => match eqTy P t, op with
      | some l, .eql => some (.eqs false l x y)
      | some l, .neq => some (.eqs true l x y)
      | _, _ => none
    | some (.slice _), some x, some _ => match op, y with
        | .eql, .const (.slice none 0 0) => some (.isnil false x)
        | .neq, .const (.slice none 0 0) => some (.isnil true x)
        | _, _ => none
    | _, _, _ => none
  | .convert s d x => match P.underlying s, P.underlying d, resA x with
    | some (.int _), some (.int k), some x => some (.conv k x)
    | _, _, _ => none
  | .nilCheck x => (resA x).map .nilck
  | .fieldAddr s x f => match P.underlying s, resA x with
    | some (.struct fs), some x => match fs[f]? with
      | some fd => match tySize P fd.type with
        | some (_ + 1) => some (.faddr fd.offset x)
        | _ => none
      | none => none
    | _, _ => none
  | .load t a => match tyAgg P t, tySize P t, resA a with
    | some agg, some n, some a => if agg = true ∨ n = 1 then some (.ld agg n a) else none
    | _, _, _ => none
  | .extract x i => (resA x).map (.extr i)
  | .lookup t x i ok => match P.underlying t, resA x, resA i with
    | some (.map kt el), some x, some i => match P.underlying kt, (P.info? el).bind (·.zero) with
      | some (.int .i64), some zv => (vOf zv).map fun z => .mget z ok x i
      | some (.struct fs), some zv => if pairT P kt fs = true then (vOf zv).map fun z => .mgetp z ok x i else none
      | _, _ => none
    | _, _, _ => none
  | .indexAddr t x i => match P.underlying t, resA x, resA i with
    | some (.slice e), some x, some i => (tySize P e).map fun es => .iaddr es x i
    | some (.array n e), some x, some i => (tySize P e).map fun es => .iarr n es x i
    | _, _, _ => none
  | .index t x i => match P.underlying t, resA x, resA i with
    | some (.array n e), some x, some i => if tyAgg P e = some false ∧ tySize P e = some 1 then some (.aidx n x i) else none
    | _, _, _ => none
  | .field t x f => match P.underlying t, resA x with
    | some (.struct fs), some x => match fs[f]? with
      | some fd => match tyAgg P fd.type, tySize P fd.type with
        | some agg, some n => if agg = true ∨ n = 1 then some (.fget agg fd.offset n x) else none
        | _, _ => none
      | none => none
    | _, _ => none
  | .makeFunc (.func f) first caps => match first.toList with
    | [] => (caps.toList.mapM resA).map (.mkfn f)
    | _ => none
  | .slice t x lo (some hi) (some mx) => match P.underlying t, resA x, resA hi, resA mx with
    | some (.slice e), some x, some hi, some mx => match tySize P e, lo with
      | some es, none => some (.slc3 es x none hi mx)
      | some es, some l => (resA l).map fun l => .slc3 es x (some l) hi mx
      | _, _ => none
    | _, _, _, _ => none
  | .slice t x lo hi none => match P.underlying t, resA x with
    | some (.slice e), some x => match tySize P e, lo, hi with
      | some es, none, none => some (.slc es x none none)
      | some es, some l, none => (resA l).map fun l => .slc es x (some l) none
      | some es, none, some h => (resA h).map fun h => .slc es x none (some h)
      | some es, some l, some h => match resA l, resA h with
        | some l, some h => some (.slc es x (some l) (some h))
        | _, _ => none
      | _, _, _ => none
    | _, _ => none
  | .call { callee := .builtin .len, args, argTypes } => match args.toList, argTypes.toList with
    | [x], [t] => match P.underlying t, resA x with
      | some (.slice _), some x => some (.len x)
      | _, _ => none
    | _, _ => none
  | .call { callee := .builtin .max, args, .. } => match args.toList with
    | [x, y] => match resA x, resA y with
      | some x, some y => some (.mx x y)
      | _, _ => none
    | _ => none
  | .call { callee := .builtin .min, args, .. } => match args.toList with
    | [x, y] => match resA x, resA y with
      | some x, some y => some (.mn x y)
      | _, _ => none
    | _ => none
  | _ => none

/-- Operations on strings. -/
def resS (P : Program) : Op → Option I
  | .binOp op t x y _ => match P.underlying t, resA x, resA y with
    | some .string, some x, some y => match op with
      | .add => some (.scat x y)
      | .eql => some (.sqs false x y)
      | .neq => some (.sqs true x y)
      | _ => none
    | _, _, _ => none
  | .convert s d x => match P.underlying s, P.underlying d, resA x with
    | some (.slice e), some .string, some x => match P.underlying e, tySize P e with
      | some (.int .u8), some 1 => some (.b2s x)
      | _, _ => none
    | _, _, _ => none
  | .index t x i => match P.underlying t, resA x, resA i with
    | some .string, some x, some i => some (.sidx x i)
    | _, _, _ => none
  | .slice t x lo hi none => match P.underlying t, resA x with
    | some .string, some x => match lo, hi with
      | none, none => some (.ssl x none none)
      | some l, none => (resA l).map fun l => .ssl x (some l) none
      | none, some h => (resA h).map fun h => .ssl x none (some h)
      | some l, some h => match resA l, resA h with
        | some l, some h => some (.ssl x (some l) (some h))
        | _, _ => none
    | _, _ => none
  | .call { callee := .builtin .len, args, argTypes } => match args.toList, argTypes.toList with
    | [x], [t] => match P.underlying t, resA x with
      | some .string, some x => some (.slen x)
      | _, _ => none
    | _, _ => none
  | _ => none
def resOp' (P : Program) (o : Op) : Option I :=
  match resOp P o with
  | some i => some i
  | none => resS P o

def bitsI (op : BinOp) (k : IntKind) (x y : Int) : Int :=
  k.wrap (match op with
    | .and => (BitVec.ofInt k.bits x &&& BitVec.ofInt k.bits y).toNat
    | .or => (BitVec.ofInt k.bits x ||| BitVec.ofInt k.bits y).toNat
    | .xor => (BitVec.ofInt k.bits x ^^^ BitVec.ofInt k.bits y).toNat
    | _ => (BitVec.ofInt k.bits x &&& ~~~ BitVec.ofInt k.bits y).toNat : Nat)

/-- A shift's count may be of another kind. -/
def shk (op : BinOp) (k k' : IntKind) : Bool :=
  match op with
  | .shl => true
  | .shr => true
  | _ => decide (k = k')
def binK (op : BinOp) (k : IntKind) (a b : Int) (gc : Bool) (K : V → Prop) : Prop :=
  match op with
  | .add => K (.int k (k.wrap (a + b)))
  | .sub => K (.int k (k.wrap (a - b)))
  | .mul => K (.int k (k.wrap (a * b)))
  | .quo => (gc = true → b ≠ 0) ∧ K (.int k (k.wrap (a.tdiv b)))
  | .rem => (gc = true → b ≠ 0) ∧ K (.int k (a.tmod b))
  | .eql => K (.bool (a == b))
  | .neq => K (.bool (a != b))
  | .lss => K (.bool (decide (a < b)))
  | .leq => K (.bool (decide (a ≤ b)))
  | .gtr => K (.bool (decide (b < a)))
  | .geq => K (.bool (decide (b ≤ a)))
  | .and => K (.int k (bitsI .and k a b))
  | .or => K (.int k (bitsI .or k a b))
  | .xor => K (.int k (bitsI .xor k a b))
  | .andNot => K (.int k (bitsI .andNot k a b))
  | .shl => (gc = true → 0 ≤ b) ∧ K (.int k (k.wrap (a * 2 ^ min b.toNat k.bits)))
  | .shr => (gc = true → 0 ≤ b) ∧ K (.int k (a.fdiv (2 ^ min b.toNat k.bits)))

/-- Strings are one. -/
def strEq (a b : ByteArray) : Bool := a.data.toList == b.data.toList
def eqsK : List (Nat × Kd) → List V → List V → Bool → (Bool → Prop) → Prop
  | [], _, _, acc, K => K acc
  | (o, .i) :: r, xs, ys, acc, K => match xs[o]?, ys[o]? with
    | some (.int k a), some (.int k' b) => k = k' ∧ eqsK r xs ys (acc && (a == b)) K
    | _, _ => False
  | (o, .b) :: r, xs, ys, acc, K => match xs[o]?, ys[o]? with
    | some (.bool a), some (.bool b) => eqsK r xs ys (acc && (a == b)) K
    | _, _ => False
  | (o, .s) :: r, xs, ys, acc, K => match xs[o]?, ys[o]? with
    | some (.str a), some (.str b) => eqsK r xs ys (acc && strEq a b) K
    | _, _ => False
theorem eqsK_mono {K K' : Bool → Prop} (hm : ∀ r, K r → K' r) : ∀ {offs : List (Nat × Kd)} {xs ys : List V} {acc : Bool}, eqsK offs xs ys acc K → eqsK offs xs ys acc K'
  | [], _, _, _, h => hm _ h
  | (o, .i) :: r, xs, ys, acc, h => by
    simp only [eqsK] at h ⊢
    split at h
    · exact ⟨h.1, eqsK_mono hm h.2⟩
    · exact h.elim
  | (o, .b) :: r, xs, ys, acc, h => by
    simp only [eqsK] at h ⊢
    split at h
    · exact eqsK_mono hm h
    · exact h.elim
  | (o, .s) :: r, xs, ys, acc, h => by
    simp only [eqsK] at h ⊢
    split at h
    · exact eqsK_mono hm h
    · exact h.elim
theorem eqsK_det {K : Bool → Prop} : ∀ {offs : List (Nat × Kd)} {xs ys : List V} {acc : Bool}, eqsK offs xs ys acc K → ∃ r, K r ∧ eqsK offs xs ys acc fun r' => r' = r
  | [], _, _, _, h => ⟨_, h, rfl⟩
  | (o, .i) :: r, xs, ys, acc, h => by
    simp only [eqsK] at h ⊢
    split at h
    · obtain ⟨q, h1, h2⟩ := eqsK_det h.2; exact ⟨q, h1, h.1, h2⟩
    · exact h.elim
  | (o, .b) :: r, xs, ys, acc, h => by
    simp only [eqsK] at h ⊢
    split at h
    · exact eqsK_det h
    · exact h.elim
  | (o, .s) :: r, xs, ys, acc, h => by
    simp only [eqsK] at h ⊢
    split at h
    · exact eqsK_det h
    · exact h.elim
/-- The bytes of a row of bytes. -/
def bytesV : List (List V) → Option (List UInt8)
  | [] => some []
  | [.int .u8 n] :: r => match bytesV r with
    | some l => some (UInt8.ofNat n.toNat :: l)
    | none => none
  | _ => none
def rowsB (l : List UInt8) : List (List V) := l.map fun b => [V.int .u8 (b.toNat : Int)]

/-- Maps from numbers: the first entry of a key counts. -/
def mgetV : List (List Int × V) → List Int → V → V
  | [], _, z => z
  | (k, v) :: r, j, z => if k = j then v else mgetV r j z
def mhasV : List (List Int × V) → List Int → Bool
  | [], _ => false
  | (k, _) :: r, j => if k = j then true else mhasV r j
def msetV : List (List Int × V) → List Int → V → List (List Int × V)
  | [], j, v => [(j, v)]
  | (k, u) :: r, j, v => if k = j then (k, v) :: r else (k, u) :: msetV r j v

def partV (agg : Bool) (es : Nat) (cs : List V) (c n : Nat) : V :=
  if agg then (if c = 0 ∧ n = es then .agg cs else .agg ((cs.drop c).take n)) else cs.getD c .any

/-- Operations that make and change nothing: what they hand on. -/
def rdK (S : Store) (i : I) (e : A → V) (gc : Bool) (K : V → Prop) : Prop :=
  match i with
  | .mv x => K (e x)
  | .un .not x => match e x with | .bool b => K (.bool (!b)) | _ => gc = false ∧ K .any
  | .un .neg x => match e x with | .int k n => K (.int k (k.wrap (0 - n))) | _ => gc = false ∧ K .any
  | .bin op x y => match e x, e y with
    | .int k a, .int k' b => shk op k k' = true ∧ binK op k a b gc K
    | _, _ => gc = false ∧ K .any
  | .conv k x => match e x with | .int _ n => K (.int k (k.wrap n)) | _ => gc = false ∧ K .any
  | .nilck x => match e x with
    | .ptr k i c => K (.ptr k i c)
    | .rp es cs c => K (.rp es cs c)
    | _ => gc = false ∧ K .any
  | .faddr off x => match e x with
    | .ptr k i c => K (.ptr k i (c + off))
    | .rp es cs c => K (.rp es cs (c + off))
    | _ => gc = false ∧ K .any
  | .ld agg n x => match e x with
    | .ptr k i c => match S.get k with
      | some (.row es xs) => (gc = true → i < xs.length) ∧ c + n ≤ es ∧ K (partV agg es (xs.getD i []) c n)
      | some (.box cs) => (gc = true → i = 0 ∧ c + n ≤ cs.length) ∧ K (partV agg cs.length cs c n)
      | _ => gc = false ∧ K .any
    | .rp es cs c => (gc = true → c + n ≤ es) ∧ K (partV agg es cs c n)
    | _ => gc = false ∧ K .any
  | .eqb neg x y => match e x, e y with
    | .bool p, .bool q => (match neg with | true => K (.bool (!(p == q))) | false => K (.bool (p == q)))
    | _, _ => gc = false ∧ K .any
  | .eqs neg offs x y => match e x, e y with
    | .agg xs, .agg ys => eqsK offs xs ys true fun r => (match neg with | true => K (.bool (!r)) | false => K (.bool r))
    | _, _ => gc = false ∧ K .any
  | .extr i x => match e x with
    | .tup vs => i < vs.length ∧ K (vs.getD i .any)
    | _ => gc = false ∧ K .any
  | .fget agg off n x => match e x with
    | .agg cs => off + n ≤ cs.length ∧ K (partV agg cs.length cs off n)
    | _ => gc = false ∧ K .any
  | .mkfn f xs => K (.fn f (xs.map e))
  | .isnil neg x => match e x with
    | .lst _ _ (_ :: _) => K (.bool neg)
    | .val (.slice none _ _) => K (.bool (!neg))
    | .val (.slice (some _) _ _) => K (.bool neg)
    | _ => gc = false ∧ K .any
  | .slc3 es x lo hi mx => match unk (e x) with
    | .sl k off len => match S.get k with
      | some (.row es' _) =>
        match (match lo with | none => V.int .i64 0 | some l => e l), e hi, e mx with
        | .int _ l, .int _ h, .int _ m => es' = es ∧ (gc = true → 0 ≤ l ∧ l ≤ h ∧ h = m ∧ m ≤ (len : Int)) ∧ K (.slx k (off + l.toNat) (h.toNat - l.toNat))
        | _, _, _ => gc = false ∧ K .any
      | _ => gc = false ∧ K .any
    | _ => gc = false ∧ K .any
  | .iaddr es x i => match unk (e x), e i with
    | .sl k off len, .int _ j => match S.get k with
      | some (.row es' _) => es' = es ∧ (gc = true → 0 ≤ j ∧ j < (len : Int)) ∧ K (.ptr k (off + j.toNat) 0)
      | _ => gc = false ∧ K .any
    | .lst es' _ xs, .int _ j => (gc = true → es' = es ∧ 0 ≤ j ∧ j < (xs.length : Int)) ∧ K (.rp es (xs.getD j.toNat []) 0)
    | _, _ => gc = false ∧ K .any
  | .iarr n es x i => match e x, e i with
    | .ptr k i0 c, .int _ j => (gc = true → 0 ≤ j ∧ j < (n : Int)) ∧ K (.ptr k i0 (c + j.toNat * es))
    | .rp es' cs c, .int _ j => (gc = true → 0 ≤ j ∧ j < (n : Int)) ∧ K (.rp es' cs (c + j.toNat * es))
    | _, _ => gc = false ∧ K .any
  | .aidx n x i => match e x, e i with
    | .agg cs, .int _ j => cs.length = n ∧ (gc = true → 0 ≤ j ∧ j < (n : Int)) ∧ K (cs.getD j.toNat .any)
    | _, _ => gc = false ∧ K .any
  | .slc es x lo hi => match unk (e x) with
    | .sl k off len => match S.get k with
      | some (.row es' _) =>
        match (match lo with | none => V.int .i64 0 | some l => e l), (match hi with | none => V.int .i64 (len : Int) | some h => e h) with
        | .int _ l, .int _ h => es' = es ∧ (gc = true → 0 ≤ l ∧ l ≤ h ∧ h ≤ (len : Int)) ∧ K (.sl k (off + l.toNat) (h.toNat - l.toNat))
        | _, _ => gc = false ∧ K .any
      | _ => gc = false ∧ K .any
    | .lst es' _ xs =>
        match (match lo with | none => V.int .i64 0 | some l => e l), (match hi with | none => V.int .i64 (xs.length : Int) | some h => e h) with
        | .int _ l, .int _ h => (gc = true → (es' = es ∨ xs = []) ∧ 0 ≤ l ∧ l ≤ h ∧ h ≤ (xs.length : Int)) ∧ K (.lst es' false ((xs.take h.toNat).drop l.toNat))
        | _, _ => gc = false ∧ K .any
    | _ => gc = false ∧ K .any
  | .len x => match unk (e x) with
    | .sl _ _ len => K (.int .i64 (len : Int))
    | .lst _ _ xs => K (.int .i64 (xs.length : Int))
    | _ => gc = false ∧ K .any
  | .slen x => match e x with
    | .str s => K (.int .i64 (s.size : Int))
    | _ => gc = false ∧ K .any
  | .sidx x i => match e x, e i with
    | .str s, .int _ j => (gc = true → 0 ≤ j ∧ j < (s.size : Int)) ∧ K (.int .u8 ((s.data.toList.getD j.toNat 0).toNat : Int))
    | _, _ => gc = false ∧ K .any
  | .ssl x lo hi => match e x with
    | .str s => match (match lo with | none => V.int .i64 0 | some l => e l), (match hi with | none => V.int .i64 (s.size : Int) | some h => e h) with
      | .int _ l, .int _ h => (gc = true → 0 ≤ l ∧ l ≤ h ∧ h ≤ (s.size : Int)) ∧ K (.str (s.extract l.toNat h.toNat))
      | _, _ => gc = false ∧ K .any
    | _ => gc = false ∧ K .any
  | .scat x y => match e x, e y with
    | .str a, .str b => (gc = true → a.size + b.size ≤ 9223372036854775807) ∧ K (.str (a ++ b))
    | _, _ => gc = false ∧ K .any
  | .sqs neg x y => match e x, e y with
    | .str a, .str b => (match neg with | true => K (.bool (!strEq a b)) | false => K (.bool (strEq a b)))
    | _, _ => gc = false ∧ K .any
  | .b2s x => match unk (e x) with
    | .sl k off len => match S.get k with
      | some (.row 1 xs) => match bytesV ((xs.drop off).take len) with
        | some l => (gc = true → off + len ≤ xs.length) ∧ K (.str ⟨l.toArray⟩)
        | none => gc = false ∧ K .any
      | _ => gc = false ∧ K .any
    | .lst 1 _ xs => match bytesV xs with
      | some l => K (.str ⟨l.toArray⟩)
      | none => gc = false ∧ K .any
    | _ => gc = false ∧ K .any
  | .mx x y => match e x, e y with
    | .int k a, .int _ b => K (.int k (max a b))
    | _, _ => gc = false ∧ K .any
  | .mn x y => match e x, e y with
    | .int k a, .int _ b => K (.int k (min a b))
    | _, _ => gc = false ∧ K .any
  | .mget z ok x i => match e x, e i with
    | .mp k, .int .i64 j => match S.get k with
      | some (.mp (1, xs)) => (match ok with | true => K (.tup [mgetV xs [j] z, .bool (mhasV xs [j])]) | false => K (mgetV xs [j] z))
      | _ => gc = false ∧ K .any
    | _, _ => gc = false ∧ K .any
  | .mgetp z ok x i => match e x, e i with
    | .mp k, .agg [.int .i64 a, .int .i64 b] => match S.get k with
      | some (.mp (2, xs)) => (match ok with | true => K (.tup [mgetV xs [a, b] z, .bool (mhasV xs [a, b])]) | false => K (mgetV xs [a, b] z))
      | _ => gc = false ∧ K .any
    | _, _ => gc = false ∧ K .any
  | _ => False

end Go.Sk
