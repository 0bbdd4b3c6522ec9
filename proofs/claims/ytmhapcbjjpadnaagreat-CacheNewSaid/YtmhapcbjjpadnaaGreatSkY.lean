/- Sk, part Y: an evaluator that runs calls and loops by itself, for closed values. -/
import Derived.Test.YtmhapcbjjpadnaaGreatSkW
set_option linter.unusedSimpArgs false
set_option linter.unusedVariables false
set_option linter.unusedSectionVars false
namespace Go.Sk
open Go Go.RowKit
variable [Tab]

/-! ### What a call hands over -/
def puB1 (S : Store) : V → Bool
  | .sl k off len => match S.get k with
    | some (.row _ xs) => Nat.ble (off + len) xs.length
    | _ => true
  | .slk k off len _ => match S.get k with
    | some (.row _ xs) => Nat.ble (off + len) xs.length
    | _ => true
  | .ptr k i _ => match S.get k with
    | some (.box cs) => Nat.beq i 0 && cs.all flatV
    | _ => true
  | _ => true
def puB (S : Store) : V → Bool
  | .agg cs => cs.all (puB1 S)
  | .fn _ cs => cs.all (puB1 S)
  | v => puB1 S v
theorem puB1_ok {S : Store} {v : V} (h : puB1 S v = true) : purOK1 S v := by
  cases v <;> simp only [purOK1] <;> try trivial
  all_goals
    simp only [puB1] at h
    split
    · rename_i h1
      simp only [h1] at h
      first
        | exact Nat.le_of_ble_eq_true h
        | (rw [Bool.and_eq_true] at h; exact ⟨Nat.eq_of_beq_eq_true h.1, h.2⟩)
    · trivial
theorem puB_ok {S : Store} {v : V} (h : puB S v = true) : purOK S v := by
  have e : (∃ cs, v = .agg cs) ∨ (∃ f cs, v = .fn f cs) ∨ (puB S v = puB1 S v ∧ purOK S v = purOK1 S v) := by cases v <;> simp [puB, purOK]
  rcases e with ⟨cs, rfl⟩ | ⟨f, cs, rfl⟩ | ⟨h1, h2⟩
  · exact fun c hc => puB1_ok (List.all_eq_true.1 h c hc)
  · exact fun c hc => puB1_ok (List.all_eq_true.1 h c hc)
  · rw [h1] at h; rw [h2]; exact puB1_ok h

/-- The objects that values name, in order. -/
def addN (k : Nat) (l : List Nat) : List Nat := match hasN k l with | true => l | false => l ++ [k]
def nm1 : V → List Nat → List Nat
  | .ptr k _ _, l => addN k l
  | .sl k _ _, l => addN k l
  | .slx k _ _, l => addN k l
  | .slk k _ _ _, l => addN k l
  | .mp k, l => addN k l
  | _, l => l
def nm1s : List V → List Nat → List Nat
  | [], l => l
  | v :: r, l => nm1s r (nm1 v l)
def nm2 : V → List Nat → List Nat
  | .agg cs, l => nm1s cs l
  | .fn _ cs, l => nm1s cs l
  | .tup cs, l => nmT cs l
  | v, l => nm1 v l
where nmT : List V → List Nat → List Nat
  | [], l => l
  | .agg cs :: r, l => nmT r (nm1s cs l)
  | .fn _ cs :: r, l => nmT r (nm1s cs l)
  | v :: r, l => nmT r (nm1 v l)
def nm2s : List V → List Nat → List Nat
  | [], l => l
  | v :: r, l => nm2s r (nm2 v l)
/-- And those that their boxes name. -/
def nmB (S : Store) : List Nat → List Nat → List Nat
  | [], l => l
  | k :: r, l => match S.get k with
    | some (.box cs) => nmB S r (nm1s cs l)
    | _ => nmB S r l
def lentL (S : Store) (args : List V) : List Nat :=
  let l := nm2s args []
  let l := nmB S l l
  nmB S l l
def lentObs (S : Store) (L0 : List Nat) : List Nat → Option (List Obj)
  | [] => some []
  | k :: L => match S.get k, lentObs S L0 L with
    | some p, some obs => some (argO L0 p :: obs)
    | _, _ => none
theorem lentObs_ok {S : Store} {L0 : List Nat} : ∀ {L : List Nat} {obs : List Obj}, lentObs S L0 L = some obs → lentOK S L0 L obs
  | [], obs, h => by obtain rfl := Option.some.inj h; trivial
  | k :: L, obs, h => by
    simp only [lentObs] at h
    split at h
    · rename_i p obs' h1 h2
      obtain rfl := Option.some.inj h
      refine ⟨?_, lentObs_ok h2⟩
      rw [h1]
    · cases h
def forceOL : List Obj → (List Obj → Prop) → Prop
  | [], K => K []
  | .row es xs :: r, K => forceOL r fun r => K (.row es xs :: r)
  | .box cs :: r, K => forceVL cs fun cs => forceOL r fun r => K (.box cs :: r)
  | .mp xs :: r, K => forceOL r fun r => K (.mp xs :: r)
theorem forceOL_eq (l : List Obj) (K : List Obj → Prop) : forceOL l K = K l := by
  induction l generalizing K with
  | nil => rfl
  | cons o r ih => cases o <;> simp only [forceOL, forceVL_eq, ih]

/-! ### The end of a function -/
def posO (k : Nat) : List (Option Nat) → Nat → Option Nat
  | [], _ => none
  | some h :: t, j => match Nat.beq k h with
    | true => some j
    | false => posO k t (j + 1)
  | none :: t, j => posO k t (j + 1)
theorem posO_get : ∀ {k : Nat} {L : List (Option Nat)} {i j : Nat}, posO k L i = some j → i ≤ j ∧ L[j - i]? = some (some k)
  | _, [], _, _, h => by simp [posO] at h
  | k, some h :: t, i, j, hp => by
    simp only [posO] at hp
    split at hp
    · rename_i hb
      obtain rfl := Option.some.inj hp
      rw [Nat.eq_of_beq_eq_true hb]; simp
    · obtain ⟨h1, h2⟩ := posO_get hp
      refine ⟨by omega, ?_⟩
      rw [show j - i = (j - (i + 1)) + 1 by omega, List.getElem?_cons_succ]; exact h2
  | k, none :: t, i, j, hp => by
    simp only [posO] at hp
    obtain ⟨h1, h2⟩ := posO_get hp
    refine ⟨by omega, ?_⟩
    rw [show j - i = (j - (i + 1)) + 1 by omega, List.getElem?_cons_succ]; exact h2
theorem posO_none : ∀ {k : Nat} {L : List (Option Nat)} {i : Nat}, posO k L i = none → hasO k L = false
  | _, [], _, _ => rfl
  | k, some h :: t, i, hp => by
    simp only [posO] at hp
    split at hp
    · cases hp
    · rename_i hb
      simp only [hasO, hb, Bool.false_or]; exact posO_none hp
  | k, none :: t, i, hp => by simp only [posO] at hp; simp only [hasO]; exact posO_none hp

/-- A value as it is handed back: what stays somebody's is named anew, the rest is frozen. -/
def frz1 (S : Store) (ids : List (Option Nat)) : V → V
  | .sl k off len => match posO k ids 0 with
    | some j => .sl j off len
    | none => match S.get k with
      | some (.row es xs) => match Nat.ble (off + len) xs.length with
        | true => .lst es false ((xs.drop off).take len)
        | false => .any
      | _ => .any
  | .slk k off len c => match posO k ids 0 with
    | some j => .slk j off len c
    | none => match S.get k with
      | some (.row es xs) => match Nat.ble (off + len) xs.length with
        | true => .lst es false ((xs.drop off).take len)
        | false => .any
      | _ => .any
  | .ptr k i c => match posO k ids 0 with
    | some j => .ptr j i c
    | none => .any
  | .mp k => match posO k ids 0 with
    | some j => .mp j
    | none => .any
  | .lst es t xs => .lst es t xs
  | .int k n => .int k n
  | .bool b => .bool b
  | .str s => .str s
  | .nil => .nil
  | .val v => .val v
  | .rp es cs c => .rp es cs c
  | _ => .any
theorem vw1_frz (S : Store) (ids : List (Option Nat)) (x : V) : vw1 S ids x (frz1 S ids x) := by
  cases x with
  | sl k off len =>
    simp only [frz1]
    split
    · rename_i j hj
      have := (posO_get hj).2
      exact ⟨by simpa using this, rfl, rfl⟩
    · rename_i hn
      split
      · rename_i es xs ho
        split
        · rename_i hb
          simp [vw1, ho, posO_none hn, Nat.le_of_ble_eq_true hb]
        · trivial
      · trivial
  | slk k off len c =>
    simp only [frz1]
    split
    · rename_i j hj
      have := (posO_get hj).2
      exact ⟨by simpa using this, rfl, rfl, rfl⟩
    · rename_i hn
      split
      · rename_i es xs ho
        split
        · rename_i hb
          simp [vw1, ho, posO_none hn, Nat.le_of_ble_eq_true hb]
        · trivial
      · trivial
  | ptr k i c =>
    simp only [frz1]
    split
    · rename_i j hj
      have := (posO_get hj).2
      exact ⟨by simpa using this, rfl, rfl⟩
    · trivial
  | mp k =>
    simp only [frz1]
    split
    · rename_i j hj
      have := (posO_get hj).2
      simpa [vw1] using this
    · trivial
  | lst es t xs => exact ⟨.inl rfl, id, rfl⟩
  | int k n => exact ⟨rfl, rfl⟩
  | bool b => rfl
  | str s => rfl
  | nil => rfl
  | val v => rfl
  | rp es cs c => rfl
  | _ => trivial
theorem all2_map {p : V → V → Prop} {f : V → V} (h : ∀ x, p x (f x)) : ∀ xs : List V, all2 p xs (xs.map f)
  | [] => trivial
  | x :: r => ⟨h x, all2_map h r⟩
def frz2 (S : Store) (ids : List (Option Nat)) : V → V
  | .agg cs => .agg (cs.map (frz1 S ids))
  | .fn f cs => .fn f (cs.map (frz1 S ids))
  | v => frz1 S ids v
theorem frz1_kind (S : Store) (ids : List (Option Nat)) (x : V) : (∀ cs, frz1 S ids x ≠ .agg cs) ∧ (∀ f cs, frz1 S ids x ≠ .fn f cs) ∧ ∀ cs, frz1 S ids x ≠ .tup cs := by
  cases x <;> simp only [frz1] <;> (repeat' split) <;> refine ⟨?_, ?_, ?_⟩ <;> intros <;> simp
theorem vw2_of1 {S : Store} {ids : List (Option Nat)} {x y : V} (h : vw1 S ids x y) (h1 : ∀ cs, y ≠ .agg cs) (h2 : ∀ f cs, y ≠ .fn f cs) : vw2 S ids x y := by
  unfold vw2
  split
  · exact absurd rfl (h1 _)
  · exact absurd rfl (h2 _ _)
  · exact h
theorem frz2_cases (S : Store) (ids : List (Option Nat)) (x : V) : (∃ cs, x = .agg cs) ∨ (∃ f cs, x = .fn f cs) ∨ frz2 S ids x = frz1 S ids x := by
  cases x <;> simp [frz2]
theorem vw2_frz (S : Store) (ids : List (Option Nat)) (x : V) : vw2 S ids x (frz2 S ids x) := by
  rcases frz2_cases S ids x with ⟨cs, rfl⟩ | ⟨f, cs, rfl⟩ | h
  · exact all2_map (vw1_frz S ids) cs
  · exact ⟨rfl, all2_map (vw1_frz S ids) cs⟩
  · rw [h]; exact vw2_of1 (vw1_frz S ids x) (frz1_kind S ids x).1 (frz1_kind S ids x).2.1
def frz3 (S : Store) (ids : List (Option Nat)) : V → V
  | .tup cs => .tup (cs.map (frz2 S ids))
  | v => frz2 S ids v
theorem frz2_kind (S : Store) (ids : List (Option Nat)) (x : V) : ∀ cs, frz2 S ids x ≠ .tup cs := by
  rcases frz2_cases S ids x with ⟨cs, rfl⟩ | ⟨f, cs, rfl⟩ | h
  · intro cs h; cases h
  · intro cs h; cases h
  · rw [h]; exact (frz1_kind S ids x).2.2
theorem vw3_frz (S : Store) (ids : List (Option Nat)) (x : V) : vw3 S ids x (frz3 S ids x) := by
  have e : (∃ cs, x = .tup cs) ∨ frz3 S ids x = frz2 S ids x := by cases x <;> simp [frz3]
  rcases e with ⟨cs, rfl⟩ | h
  · exact all2_map (vw2_frz S ids) cs
  · rw [h]
    have hk := frz2_kind S ids x
    have hv := vw2_frz S ids x
    generalize frz2 S ids x = y at hk hv
    unfold vw3
    split
    · exact absurd rfl (hk _)
    · exact hv

def frzO (S : Store) (ids : List (Option Nat)) : Obj → Obj
  | .row es xs => .row es xs
  | .box cs => .box (cs.map (frz1 S ids))
  | .mp xs => .mp xs
def obsF (S : Store) (ids : List (Option Nat)) : List (Option Nat) → Option (List Obj)
  | [] => some []
  | some k :: r => match S.get k, obsF S ids r with
    | some o, some os => some (frzO S ids o :: os)
    | _, _ => none
  | none :: _ => none
theorem obsF_ok {S : Store} {ids : List (Option Nat)} : ∀ {l : List (Option Nat)} {os : List Obj}, obsF S ids l = some os → vwObs S ids l os
  | [], os, h => by obtain rfl := Option.some.inj h; trivial
  | some k :: r, os, h => by
    simp only [obsF] at h
    split at h
    · rename_i o os' h1 h2
      obtain rfl := Option.some.inj h
      refine ⟨?_, obsF_ok h2⟩
      rw [h1]
      cases o with
      | row es xs => exact ⟨rfl, rfl⟩
      | box cs => exact all2_map (vw1_frz S ids) cs
      | mp xs => rfl
    · cases h
  | none :: r, os, h => by cases h
/-- The first objects stay; then come those that the value names, if they are to be owned. -/
def firstIds : Nat → Nat → List (Option Nat)
  | _, 0 => []
  | i, n + 1 => some i :: firstIds (i + 1) n
theorem firstIds_ok : ∀ (n i : Nat) (r : List (Option Nat)), firstOK i n (firstIds i n ++ r)
  | 0, _, _ => by simp [firstOK]
  | n + 1, i, r => ⟨rfl, firstIds_ok n (i + 1) r⟩
def restIds (n0 : Nat) : List Nat → List (Option Nat)
  | [] => []
  | k :: r => match Nat.blt k n0 with
    | true => restIds n0 r
    | false => some k :: restIds n0 r
def dropAt : List Nat → Nat → List (Option Nat) → List (Option Nat)
  | _, _, [] => []
  | dp, i, x :: r => match hasN i dp with
    | true => dropAt dp (i + 1) r
    | false => x :: dropAt dp (i + 1) r
def idsOf (own : Bool) (dp : List Nat) (n0 : Nat) (S : Store) (v : V) : List (Option Nat) :=
  firstIds 0 n0 ++ (match own with
    | true => dropAt dp 0 (restIds n0 (nmB S (nm2 v []) (nm2 v [])))
    | false => [])
def rvF (st : St) : RV → (V → Prop) → Prop
  | .tmp t, K => K (opnd st.sl [] (.t t))
  | .cell t agg n, K => rdF st.so (.ld agg n (.t t)) (opnd st.sl []) true K
def rvsF (st : St) : List RV → (List V → Prop) → Prop
  | [], K => K []
  | r :: rs, K => rvF st r fun v => forceV v fun v => rvsF st rs fun vs => K (v :: vs)
theorem rvsF_eq (st : St) : ∀ (l : List RV) (K : List V → Prop), rvsF st l K = rvsK st l K
  | [], _ => rfl
  | r :: rs, K => by
    simp only [rvsF, rvsK, forceV_eq, rvsF_eq st rs]
    cases r with
    | tmp t => rfl
    | cell t agg n => simp only [rvF, rvK, rdF_eq]
def FinX (n0 : Nat) (own : Bool) (dp : List Nat) (rvs : List RV) (K : V → List Obj → Prop) (st : St) : Prop :=
  rvsF st rvs fun vs => match idsOf own dp n0 st.so (oneTup vs) with
    | ids => match obsF st.so ids ids with
      | some ob1 => rq (nodupB ids && Nat.ble n0 ob1.length) (forceOL ob1 fun ob1 => forceV (frz3 st.so ids (oneTup vs)) fun v => K v ob1)
      | none => False
theorem ldK_mono {S : Store} {agg : Bool} {n : Nat} {x : A} {e : A → V} {gc : Bool} {K K' : V → Prop} (hm : ∀ v, K v → K' v) (h : rdK S (.ld agg n x) e gc K) : rdK S (.ld agg n x) e gc K' := by
  simp only [rdK] at h ⊢
  split at h
  · split at h
    · exact ⟨h.1, h.2.1, hm _ h.2.2⟩
    · exact ⟨h.1, hm _ h.2⟩
    · exact ⟨h.1, hm _ h.2⟩
  · exact ⟨h.1, hm _ h.2⟩
  · exact ⟨h.1, hm _ h.2⟩
theorem rvsK_some {st : St} : ∀ {l : List RV} {K : List V → Prop}, rvsK st l K → ∃ vs, K vs ∧ ∀ K', K' vs → rvsK st l K'
  | [], K, h => ⟨[], h, fun _ h => h⟩
  | r :: rs, K, h => by
    simp only [rvsK] at h
    cases r with
    | tmp t =>
      obtain ⟨vs, h1, h2⟩ := rvsK_some (l := rs) (K := fun vs => K (opnd st.sl [] (.t t) :: vs)) h
      exact ⟨_, h1, fun K' h' => h2 _ h'⟩
    | cell t agg n =>
      obtain ⟨v, h1, h2⟩ := rdK_det (show rdK st.so (.ld agg n (.t t)) (opnd st.sl []) true (fun v => rvsK st rs fun vs => K (v :: vs)) from h)
      obtain ⟨vs, h3, h4⟩ := rvsK_some h1
      refine ⟨v :: vs, h3, fun K' h' => ?_⟩
      simp only [rvsK, rvK]
      exact ldK_mono (fun v' e => by subst e; exact h4 _ h') h2
theorem FinX_ok {n0 : Nat} {own : Bool} {dp : List Nat} {rvs : List RV} {K : V → List Obj → Prop} {st : St} (h : FinX n0 own dp rvs K st) : ∃ res ob1, K res ob1 ∧ FinK n0 rvs res ob1 st := by
  unfold FinX at h
  rw [rvsF_eq] at h
  obtain ⟨vs, h1, h2⟩ := rvsK_some h
  dsimp only at h1
  split at h1
  · rename_i ob1 hob
    rw [rqb_eq, forceOL_eq, forceV_eq, Bool.and_eq_true] at h1
    obtain ⟨⟨hn, hb⟩, hk⟩ := h1
    exact ⟨_, _, hk, h2 _ ⟨_, obsF_ok hob, hn, firstIds_ok n0 0 _, hb, vw3_frz _ _ _⟩⟩
  · exact h1.elim
end Go.Sk
