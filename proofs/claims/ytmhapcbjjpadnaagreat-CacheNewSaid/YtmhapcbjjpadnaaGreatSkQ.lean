/- Sk, part Q: regions whose order is drawn: every order does what the lexical one does. -/
import Derived.Test.YtmhapcbjjpadnaaGreatSkO
set_option linter.unusedSimpArgs false
set_option linter.unusedVariables false
set_option linter.unusedSectionVars false
namespace Go.Sk
open Go Go.RowKit
variable [Tab]

section fold
variable {X : Type}
def foldL (wr : Rec → Option X) : (Nat → Bool) → List Rec → X → X
  | _, [], x => x
  | D, r :: rs, x => foldL wr (fun i => D (i + 1)) rs (match D 0 with | true => (wr r).getD x | false => x)

theorem foldL_id {wr : Rec → Option X} : ∀ {rs : List Rec} {D : Nat → Bool} {x : X}, (∀ (j : Nat) r, rs[j]? = some r → D j = true → wr r = none) → foldL wr D rs x = x
  | [], _, _, _ => rfl
  | r :: rs, D, x, h => by
    simp only [foldL]
    rw [foldL_id fun j r' hj hd => h (j + 1) r' (by simpa using hj) hd]
    cases hd : D 0 with
    | true => simp [h 0 r rfl hd]
    | false => rfl
theorem foldL_congr {wr : Rec → Option X} : ∀ {rs : List Rec} {D D' : Nat → Bool} {x : X}, (∀ (j : Nat) r, rs[j]? = some r → wr r ≠ none → D j = D' j) → foldL wr D rs x = foldL wr D' rs x
  | [], _, _, _, _ => rfl
  | r :: rs, D, D', x, h => by
    simp only [foldL]
    rw [foldL_congr (D' := fun i => D' (i + 1)) fun j r' hj hd => h (j + 1) r' (by simpa using hj) hd]
    congr 1
    by_cases hw : wr r = none
    · simp only [hw, Option.getD_none]; cases D 0 <;> cases D' 0 <;> rfl
    · rw [h 0 r rfl hw]
theorem foldL_add {wr : Rec → Option X} : ∀ {rs : List Rec} {D : Nat → Bool} {x : X} {i : Nat} {r : Rec}, rs[i]? = some r → D i = false → (wr r ≠ none → ∀ (j : Nat) r', rs[j]? = some r' → i < j → D j = true → wr r' = none) →
    foldL wr (fun j => j == i || D j) rs x = (wr r).getD (foldL wr D rs x)
  | [], _, _, i, _, hi, _, _ => by simp at hi
  | q :: rs, D, x, 0, r, hi, hD, h => by
    simp only [List.getElem?_cons_zero, Option.some.injEq] at hi
    subst hi
    have e1 : foldL wr (fun j => j == 0 || D j) (q :: rs) x = foldL wr (fun i => D (i + 1)) rs ((wr q).getD x) := by
      simp only [foldL]
      simp
    have e2 : foldL wr D (q :: rs) x = foldL wr (fun i => D (i + 1)) rs x := by simp only [foldL, hD]
    rw [e1, e2]
    cases hw : wr q with
    | none => rfl
    | some v => exact foldL_id fun j r' hj hd => h (by simp [hw]) (j + 1) r' (by simpa using hj) (by omega) hd
  | q :: rs, D, x, i + 1, r, hi, hD, h => by
    have := foldL_add (wr := wr) (rs := rs) (D := fun j => D (j + 1)) (x := match D 0 with | true => (wr q).getD x | false => x) (i := i) (r := r) (by simpa using hi) hD fun hw j r' hj hlt hd => h hw (j + 1) r' (by simpa using hj) (by omega) hd
    simp only [foldL]
    rw [← this]
    congr 1
    funext j
    simp

theorem foldL_mem {wr : Rec → Option X} : ∀ {rs : List Rec} {D : Nat → Bool} {x : X}, foldL wr D rs x = x ∨ ∃ (j : Nat) (r : Rec) (v : X), rs[j]? = some r ∧ D j = true ∧ wr r = some v ∧ foldL wr D rs x = v
  | [], _, _ => .inl rfl
  | q :: rs, D, x => by
    simp only [foldL]
    rcases foldL_mem (wr := wr) (rs := rs) (D := fun i => D (i + 1)) (x := match D 0 with | true => (wr q).getD x | false => x) with h | ⟨j, r, v, h1, h2, h3, h4⟩
    · rw [h]
      cases hd : D 0 with
      | false => exact .inl rfl
      | true =>
        cases hw : wr q with
        | none => exact .inl rfl
        | some v => exact .inr ⟨0, q, v, rfl, hd, hw, rfl⟩
    · exact .inr ⟨j + 1, r, v, by simpa using h1, h2, h3, h4⟩
end fold

def wrS (t : Nat) (r : Rec) : Option (Option SV) := if r.d = some t then some (some r.s) else none
def wrO (k : Nat) (r : Rec) : Option (Option Obj) := if k ∈ r.ids then some (r.S1.get k) else none
theorem wrS_ne {t : Nat} {r : Rec} (h : wrS t r ≠ none) : r.d = some t := by
  unfold wrS at h; split at h
  · assumption
  · exact absurd rfl h
theorem wrO_ne {t : Nat} {r : Rec} (h : wrO t r ≠ none) : t ∈ r.ids := by
  unfold wrO at h; split at h
  · assumption
  · exact absurd rfl h

section
variable {P : Program} {N n : Nat}

/-- What the lexical walk shows. -/
theorem dops_det [Dfr] {ops : Array Oper} : ∀ (l : List Ins) (ms : List Nat) (os : List Oper) (st : St) (K : List Rec → St → Prop), resList P ops N os = some l → dopsK P l ms st K → (∀ m ∈ ms, m + 16 ≤ n) →
    ∃ recs stF, K recs stF ∧ recs.length = os.length ∧ ms.length = os.length ∧ (∀ t, getS stF.sl t = foldL (wrS t) (fun _ => true) recs (getS st.sl t)) ∧ (∀ k, stF.so.get k = foldL (wrO k) (fun _ => true) recs (st.so.get k)) ∧ stF.nx = st.nx ∧
      ∀ (j : Nat) r o m, recs[j]? = some r → os[j]? = some o → ms[j]? = some m → Noted r m ∧ ∃ SL SO, (∀ d s, (d, s) ∈ SL → d ∈ r.rd ∧ foldL (wrS d) (fun i => decide (i < j)) recs (getS st.sl d) = some s) ∧
        (∀ S : Store, (∀ k ∈ r.T, S.get k = foldL (wrO k) (fun i => decide (i < j)) recs (st.so.get k)) → lookO S r.T = SO) ∧ Loc P N n ops o r SL SO := by
  intro l
  induction l with
  | nil =>
    intro ms os st K hr hK _
    cases ms with
    | cons => exact hK.elim
    | nil =>
      cases os with
      | nil => exact ⟨[], st, hK, rfl, rfl, fun _ => rfl, fun _ => rfl, rfl, fun j r o m h => by simp at h⟩
      | cons o os =>
        simp only [resList] at hr
        split at hr <;> cases hr
  | cons x l ih =>
    intro ms os st K hr hK hm
    obtain ⟨d, g, i⟩ := x
    cases ms with
    | nil => exact hK.elim
    | cons m ms =>
      cases os with
      | nil => simp [resList] at hr
      | cons o os =>
        simp only [resList] at hr
        split at hr
        · rename_i i' g' d' l' h1 h2 h3 h4
          obtain ⟨hx, rfl⟩ := List.cons.inj (Option.some.inj hr)
          obtain ⟨rfl, rfl, rfl⟩ := Ins.mk.inj hx
          simp only [dopsK] at hK
          obtain ⟨r, hK, hd, hno, SL, hSL, hloc⟩ := dinsK_det (n := n) (ops := ops) hK h1 h2 h3 (hm m (by simp))
          obtain ⟨recs, stF, q1, q2, q3, q4, q5, q6, q7⟩ := ih ms os _ _ h4 hK fun m hm' => hm m (List.mem_cons_of_mem _ hm')
          have eS : ∀ t, getS (putS st.sl r.d r.s) t = (wrS t r).getD (getS st.sl t) := fun t => by
            rw [getS_put]; unfold wrS; split <;> rfl
          have eO : ∀ k, (over st.so r.S1 r.ids).get k = (wrO k r).getD (st.so.get k) := fun k => by
            rw [over_get]; unfold wrO; split <;> rfl
          refine ⟨r :: recs, stF, q1, by simp [q2], by simp [q3], fun t => ?_, fun k => ?_, q6, fun j r' o' m' hj ho hm' => ?_⟩
          · rw [q4 t]; simp only [foldL, eS]
          · rw [q5 k]; simp only [foldL, eO]
          · cases j with
            | zero =>
              simp only [List.getElem?_cons_zero, Option.some.injEq] at hj ho hm'
              subst hj ho hm'
              refine ⟨hno, SL, _, fun d s hm => ⟨(hSL d s hm).1, ?_⟩, fun S hS => lookO_congr fun k hk => ?_, hloc⟩
              · rw [foldL_id fun j r _ h => by simp at h]; exact (hSL d s hm).2
              · rw [hS k hk, foldL_id fun j r _ h => by simp at h]
            | succ j =>
              obtain ⟨a1, SL', SO', a2, a3, a4⟩ := q7 j r' o' m' (by simpa using hj) (by simpa using ho) (by simpa using hm')
              refine ⟨a1, SL', SO', fun d s hm => ⟨(a2 d s hm).1, ?_⟩, fun S hS => a3 S fun k hk => ?_, a4⟩
              · rw [← (a2 d s hm).2]
                simp only [foldL, eS]
                simp
              · rw [hS k hk]
                simp only [foldL, eO]
                simp
        · cases hr
end

/-! ### The order -/

def edges (o : Oper) : List Nat := (o.after.toList.filter (Region.binds .any)).map (·.on)
def anyP (an : List (List Nat)) (i : Nat) : List Nat → Bool
  | [] => false
  | p :: r => (Nat.beq i p || hasN i (an.getD p [])) || anyP an i r
def anOne (an : List (List Nat)) (pr : List Nat) : List Nat → Bool
  | [] => true
  | i :: r => anyP an i pr && anOne an pr r
def anOK (an : List (List Nat)) : List Oper → List (List Nat) → Nat → Bool
  | o :: os, a :: as, j => allLt j (edges o) && (anOne an (edges o) a && anOK an os as (j + 1))
  | [], [], _ => true
  | _, _, _ => false
def dedN : List Nat → List Nat
  | [] => []
  | a :: r => if hasN a r then dedN r else a :: dedN r
def uniN : List Nat → List Nat → List Nat
  | [], l => l
  | a :: r, l => if hasN a l then uniN r l else uniN r (a :: l)
/-- Ancestors: each edge that is not one already, with its own. -/
def anFor (acc : List (List Nat)) : List Nat → List Nat → List Nat
  | [], l => l
  | p :: r, l => if hasN p l then anFor acc r l else anFor acc r (p :: uniN (acc.getD p []) l)
def mkAn : List (List Nat) → List (List Nat) → List (List Nat)
  | [], acc => acc
  | e :: r, acc => mkAn r (acc ++ [anFor acc e.reverse []])
def basesOf (b : Nat) : Nat → List Nat
  | 0 => []
  | c + 1 => b :: basesOf (b + 16) c

/-- Bases, further up. -/
def shM (d : Nat) : List Nat → List Nat
  | [] => []
  | m :: r => (m + d) :: shM d r
theorem shM_bases (d : Nat) : ∀ (c b : Nat), shM d (basesOf b c) = basesOf (b + d) c
  | 0, _ => rfl
  | c + 1, b => by
    simp only [basesOf, shM, shM_bases d c]
    rw [show b + 16 + d = b + d + 16 by omega]
theorem basesOf_get : ∀ {c b j : Nat}, (basesOf b c)[j]? = if j < c then some (b + 16 * j) else none
  | 0, _, _ => by simp [basesOf]
  | c + 1, b, 0 => by simp [basesOf]
  | c + 1, b, j + 1 => by
    simp only [basesOf, List.getElem?_cons_succ, basesOf_get]
    by_cases h : j < c
    · rw [if_pos h, if_pos (by omega)]; congr 1; omega
    · rw [if_neg h, if_neg (by omega)]

theorem anyP_spec {an : List (List Nat)} {i : Nat} : ∀ {l : List Nat}, anyP an i l = true → ∃ p ∈ l, i = p ∨ i ∈ an.getD p []
  | [], h => by simp [anyP] at h
  | p :: r, h => by
    simp only [anyP, Bool.or_eq_true] at h
    rcases h with (h | h) | h
    · exact ⟨p, by simp, .inl (Nat.eq_of_beq_eq_true h)⟩
    · exact ⟨p, by simp, .inr (hasN_mem.1 h)⟩
    · obtain ⟨q, h1, h2⟩ := anyP_spec h; exact ⟨q, List.mem_cons_of_mem _ h1, h2⟩
theorem anOne_spec {an : List (List Nat)} {pr : List Nat} : ∀ {l : List Nat}, anOne an pr l = true → ∀ i ∈ l, ∃ p ∈ pr, i = p ∨ i ∈ an.getD p []
  | [], _, i, h => by simp at h
  | a :: r, h, i, hi => by
    simp only [anOne, Bool.and_eq_true] at h
    rcases List.mem_cons.1 hi with rfl | hi
    · exact anyP_spec h.1
    · exact anOne_spec h.2 i hi
theorem anOK_spec {an : List (List Nat)} : ∀ {os : List Oper} {as : List (List Nat)} {k : Nat}, anOK an os as k = true → as.length = os.length ∧ ∀ (j : Nat) o a, os[j]? = some o → as[j]? = some a → (∀ p ∈ edges o, p < k + j) ∧ ∀ i ∈ a, ∃ p ∈ edges o, i = p ∨ i ∈ an.getD p []
  | [], [], _, _ => ⟨rfl, fun j o a h => by simp at h⟩
  | [], _ :: _, _, h => by simp [anOK] at h
  | _ :: _, [], _, h => by simp [anOK] at h
  | o :: os, a :: as, k, h => by
    simp only [anOK, Bool.and_eq_true] at h
    obtain ⟨h1, h2, h3⟩ := h
    obtain ⟨h4, h5⟩ := anOK_spec h3
    refine ⟨by simp [h4], fun j o' a' ho ha => ?_⟩
    cases j with
    | zero =>
      simp only [List.getElem?_cons_zero, Option.some.injEq] at ho ha
      subst ho ha
      exact ⟨allLt_spec h1, anOne_spec h2⟩
    | succ j =>
      obtain ⟨a1, a2⟩ := h5 j o' a' (by simpa using ho) (by simpa using ha)
      exact ⟨fun p hp => by have := a1 p hp; omega, a2⟩

theorem commOne_spec {r : Rec} {i : Nat} : ∀ {rs : List Rec} {an : List (List Nat)}, commOne r i rs an = true → ∀ (j : Nat) r' a, rs[j]? = some r' → an[j]? = some a → (i ∈ a ∧ notIn r'.d r.cs = true) ∨ indep r r' = true
  | [], _, _, j, r', a, h, _ => by simp at h
  | _ :: _, [], _, j, r', a, _, h => by simp at h
  | q :: rs, b :: an, h, j, r', a, hj, ha => by
    simp only [commOne, Bool.and_eq_true] at h
    cases j with
    | zero =>
      simp only [List.getElem?_cons_zero, Option.some.injEq] at hj ha
      subst hj ha
      cases hb : hasN i b with
      | true => rw [hb] at h; exact .inl ⟨hasN_mem.1 hb, h.1⟩
      | false => rw [hb] at h; exact .inr h.1
    | succ j => exact commOne_spec h.2 j r' a (by simpa using hj) (by simpa using ha)
theorem commB_spec : ∀ {rs : List Rec} {an : List (List Nat)} {k : Nat}, commB rs an k = true → ∀ (i j : Nat) r r' a, i < j → rs[i]? = some r → rs[j]? = some r' → an[j]? = some a → (k + i ∈ a ∧ notIn r'.d r.cs = true) ∨ indep r r' = true
  | [], _, _, _, i, j, r, r', a, _, h, _, _ => by simp at h
  | _ :: _, [], _, _, i, j, r, r', a, _, _, _, h => by simp at h
  | q :: rs, b :: an, k, h, i, j, r, r', a, hij, hi, hj, ha => by
    simp only [commB, Bool.and_eq_true] at h
    cases j with
    | zero => omega
    | succ j =>
      cases i with
      | zero =>
        simp only [List.getElem?_cons_zero, Option.some.injEq] at hi
        subst hi
        simpa using commOne_spec h.1 j r' a (by simpa using hj) (by simpa using ha)
      | succ i =>
        have := commB_spec h.2 i j r r' a (by omega) (by simpa using hi) (by simpa using hj) (by simpa using ha)
        rwa [show k + 1 + i = k + (i + 1) by omega] at this

structure Indep (r r' : Rec) : Prop where
  d1 : ∀ x ∈ r'.rd, r.d ≠ some x
  d2 : ∀ x ∈ r.rd, r'.d ≠ some x
  d3 : ∀ t, r.d = some t → r'.d ≠ some t
  o1 : ∀ k ∈ r.ids, k ∉ r'.T
  o2 : ∀ k ∈ r.ids, k ∉ r'.ids
  o3 : ∀ k ∈ r'.ids, k ∉ r.T
  o4 : ∀ k ∈ r'.ids, ¬ (r.m ≤ k ∧ k < r.m + 16)
theorem indep_spec {r r' : Rec} (h : indep r r' = true) : Indep r r' := by
  simp only [indep, Bool.and_eq_true] at h
  obtain ⟨h1, h2, h3, h4, h5, h6, h7⟩ := h
  refine ⟨notIn_spec h1, notIn_spec h2, fun t ht ht' => ?_, disjN_spec h4, disjN_spec h5, disjN_spec h6, awayN_spec h7⟩
  rw [ht, ht'] at h3
  simp at h3

def keysS : Slots → List Nat
  | [] => []
  | (d, _) :: r => d :: keysS r
end Go.Sk
