/- Sk, part P: writing things out before going on. -/
import Derived.Test.YtmhapcbjjpadnaaGreatSkJ
set_option linter.unusedSimpArgs false
set_option linter.unusedVariables false
set_option linter.unusedSectionVars false
namespace Go.Sk
open Go Go.RowKit
variable [Tab]

def forceV : V → (V → Prop) → Prop
  | .any, K => K .any
  | .int k n, K => K (.int k n)
  | .bool b, K => K (.bool b)
  | .str s, K => K (.str s)
  | .agg cs, K => K (.agg cs)
  | .tup cs, K => K (.tup cs)
  | .nil, K => K .nil
  | .ptr k i c, K => K (.ptr k i c)
  | .rp es cs c, K => K (.rp es cs c)
  | .sl k off len, K => K (.sl k off len)
  | .slx k off len, K => K (.slx k off len)
  | .slk k off len c, K => K (.slk k off len c)
  | .lst es t xs, K => K (.lst es t xs)
  | .fn f cs, K => K (.fn f cs)
  | .mp k, K => K (.mp k)
  | .val v, K => K (.val v)
theorem forceV_eq (v : V) (K : V → Prop) : forceV v K = K v := by cases v <;> rfl

def forceVL : List V → (List V → Prop) → Prop
  | [], K => K []
  | v :: r, K => forceV v fun v => forceVL r fun r => K (v :: r)
theorem forceVL_eq : ∀ (l : List V) (K : List V → Prop), forceVL l K = K l
  | [], _ => rfl
  | v :: r, K => by simp only [forceVL, forceV_eq, forceVL_eq r]

def forceSt : Store → (Store → Prop) → Prop
  | [], K => K []
  | (j, .row es xs) :: r, K => forceSt r fun r' => K ((j, .row es xs) :: r')
  | (j, .box cs) :: r, K => forceVL cs fun cs => forceSt r fun r' => K ((j, .box cs) :: r')
  | (j, .mp xs) :: r, K => forceSt r fun r' => K ((j, .mp xs) :: r')
theorem forceSt_eq : ∀ (S : Store) (K : Store → Prop), forceSt S K = K S
  | [], _ => rfl
  | (j, .row es xs) :: r, K => by simp only [forceSt, forceSt_eq r]
  | (j, .box cs) :: r, K => by simp only [forceSt, forceVL_eq, forceSt_eq r]
  | (j, .mp xs) :: r, K => by simp only [forceSt, forceSt_eq r]

def delSF : Slots → Nat → (Slots → Prop) → Prop
  | [], _, K => K []
  | (j, q) :: r, d, K => match Nat.beq d j with
    | true => delSF r d K
    | false => delSF r d fun r' => K ((j, q) :: r')
theorem delSF_eq : ∀ (l : Slots) (d : Nat) (K : Slots → Prop), delSF l d K = K (delS l d)
  | [], _, _ => rfl
  | (j, q) :: r, d, K => by
    simp only [delSF, delS]
    cases h : Nat.beq d j with
    | true => rw [if_pos (Nat.eq_of_beq_eq_true h)]; exact delSF_eq r d K
    | false => rw [if_neg (Nat.ne_of_beq_eq_false h)]; exact delSF_eq r d _

def setSF : Slots → Nat → SV → (Slots → Prop) → Prop
  | [], d, s, K => K [(d, s)]
  | (j, q) :: r, d, s, K => match Nat.beq d j with
    | true => delSF r d fun r' => K ((d, s) :: r')
    | false => setSF r d s fun r' => K ((j, q) :: r')
theorem setSF_eq : ∀ (l : Slots) (d : Nat) (s : SV) (K : Slots → Prop), setSF l d s K = K (setS l d s)
  | [], _, _, _ => rfl
  | (j, q) :: r, d, s, K => by
    simp only [setSF, setS]
    cases h : Nat.beq d j with
    | true => rw [if_pos (Nat.eq_of_beq_eq_true h)]; exact delSF_eq r d _
    | false => rw [if_neg (Nat.ne_of_beq_eq_false h)]; exact setSF_eq r d s _

def putSF (l : Slots) (d : Option Nat) (s : SV) (K : Slots → Prop) : Prop :=
  match d with
  | some d => setSF l d s K
  | none => K l
theorem putSF_eq (l : Slots) (d : Option Nat) (s : SV) (K : Slots → Prop) : putSF l d s K = K (putS l d s) := by
  cases d with
  | none => rfl
  | some d => exact setSF_eq l d s K

def forceNat : Nat → Nat → Nat → (Nat → Prop) → Prop
  | 0, _, n, K => K n
  | f + 1, i, n, K => match Nat.beq n i with
    | true => K i
    | false => forceNat f (i + 1) n K
theorem forceNat_eq : ∀ (f i n : Nat) (K : Nat → Prop), forceNat f i n K = K n
  | 0, _, _, _ => rfl
  | f + 1, i, n, K => by
    simp only [forceNat]
    cases h : Nat.beq n i with
    | true => rw [Nat.eq_of_beq_eq_true h]
    | false => exact forceNat_eq f (i + 1) n K

def forceNL : List Nat → (List Nat → Prop) → Prop
  | [], K => K []
  | k :: r, K => forceNL r fun r' => K (k :: r')
theorem forceNL_eq : ∀ (l : List Nat) (K : List Nat → Prop), forceNL l K = K l
  | [], _ => rfl
  | k :: r, K => by simp only [forceNL, forceNL_eq r]
def forceSl : Slots → (Slots → Prop) → Prop
  | [], K => K []
  | (d, ⟨ch, gc, v⟩) :: r, K => forceV v fun v => forceSl r fun r' => K ((d, ⟨ch, gc, v⟩) :: r')
theorem forceSl_eq : ∀ (l : Slots) (K : Slots → Prop), forceSl l K = K l
  | [], _ => rfl
  | (d, ⟨ch, gc, v⟩) :: r, K => by simp only [forceSl, forceV_eq, forceSl_eq r]
def guardF (sl : Slots) (g : Option (Nat × Bool)) (K : List (Nat × Bool) → Bool → Prop) : Prop :=
  match g with
  | none => K [] true
  | some (gd, b) => match getS sl gd with
    | some ⟨ch, gc, v⟩ => (match v with
      | .bool x => (match ch, b with
        | [], true => K [(gd, true)] x
        | [], false => K [(gd, false)] (!x)
        | c :: r, true => K ((gd, true) :: c :: r) (gc && x)
        | c :: r, false => K ((gd, false) :: c :: r) (gc && !x))
      | .any => (match ch, gc with
        | c :: r, false => K ((gd, b) :: c :: r) false
        | _, _ => False)
      | _ => False)
    | none => False
theorem guardF_eq (sl : Slots) (g : Option (Nat × Bool)) (K : List (Nat × Bool) → Bool → Prop) : guardF sl g K = match guardOf sl g with
    | none => False
    | some (ch, gc) => K ch gc := by
  cases g with
  | none => rfl
  | some p =>
    obtain ⟨gd, b⟩ := p
    simp only [guardF, guardOf]
    cases h : getS sl gd with
    | none => rfl
    | some s =>
      obtain ⟨ch, gc, v⟩ := s
      cases v <;> first | rfl | (cases ch <;> cases b <;> rfl) | (cases ch <;> cases gc <;> rfl)
end Go.Sk
