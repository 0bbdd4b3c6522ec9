/- Caches. -/
import Derived.Test.YtmhapcbjjpadnaaGreatProg
import Derived.Test.YtmhapcbjjpadnaaGreatSkW
import Derived.KernelRfl
set_option linter.unusedSimpArgs false
set_option linter.unusedVariables false
set_option maxRecDepth 40000
namespace Go.Proofs.YtmhapcbjjpadnaaGreat
open Go Go.Sk Go.RowKit
/-- No package-level variable is read. -/
instance : Go.Sk.Tab := ⟨fun _ => none, [147, 156]⟩

def cutF (x n : Int) : Int := IntKind.i64.wrap ((IntKind.u64.wrap x).tmod (IntKind.u64.wrap n))
theorem ok14 (x n : Int) (hn : IntKind.u64.wrap n ≠ 0) : FnC Tryz.prog 14 [] [.int .i64 x, .int .i64 n] (.int .i64 (cutF x n)) [] := by
  refine fn_okX (ob0 := []) [] Tryz.func14 rfl rfl rfl rfl ?_
  repeat ((conv => whnf); first | refine Cd.go ?_ | refine ⟨rfl, ?_⟩ | refine rq_dec ⟨.inl rfl, rfl⟩ ?_ | refine rq_dec rfl ?_ | refine ⟨Nat.le_of_ble_eq_true rfl, ?_⟩ | refine ⟨.inl rfl, ?_⟩ | refine ⟨fun _ => ⟨rfl, Nat.le_of_ble_eq_true rfl⟩, ?_⟩ | refine ⟨fun _ => Nat.le_of_ble_eq_true rfl, ?_⟩ | refine ⟨fun h => Bool.noConfusion h, ?_⟩)
  conv => whnf
  first | refine rq_dec (hn) ?_ | refine gq_dec (fun _ => hn) ?_ | refine ⟨fun _ => hn, ?_⟩
  repeat ((conv => whnf); first | refine Cd.go ?_ | refine ⟨rfl, ?_⟩ | refine rq_dec ⟨.inl rfl, rfl⟩ ?_ | refine rq_dec rfl ?_ | refine ⟨Nat.le_of_ble_eq_true rfl, ?_⟩ | refine ⟨.inl rfl, ?_⟩ | refine ⟨fun _ => ⟨rfl, Nat.le_of_ble_eq_true rfl⟩, ?_⟩ | refine ⟨fun _ => Nat.le_of_ble_eq_true rfl, ?_⟩ | refine ⟨fun h => Bool.noConfusion h, ?_⟩)
  conv => whnf
  refine ⟨[], trivial, rfl, trivial, rfl, ?_⟩
  try subst hk
  repeat' (first | exact trivial | rfl | exact .inl rfl | exact .inr rfl | exact id | exact (fun h => Bool.noConfusion h) | refine And.intro ?_ ?_)
def rowsI (L : List Int) : List (List V) := L.map fun x => [.int .i64 x]
def tapeO (L : List Int) (I : Int) : Sk.Obj := .box [.lst 1 false (rowsI L), .int .i64 I]
def purB1 : V → Bool
  | .sl _ _ _ => false
  | .slk _ _ _ _ => false
  | .ptr _ _ _ => false
  | _ => true
def purB : V → Bool
  | .agg cs => cs.all purB1
  | .fn _ cs => cs.all purB1
  | v => purB1 v
theorem purB1_OK {S : Store} {v : V} (h : purB1 v = true) : purOK1 S v := by
  cases v <;> first | exact trivial | (simp [purB1] at h)
theorem purB_OK {S : Store} {v : V} (h : purB v = true) : purOK S v := by
  cases v with
  | agg cs => intro c hc; exact purB1_OK (List.all_eq_true.1 h c hc)
  | fn f cs => intro c hc; exact purB1_OK (List.all_eq_true.1 h c hc)
  | sl k o l => simp [purB, purB1] at h
  | slk k o l c => simp [purB, purB1] at h
  | ptr k i c => simp [purB, purB1] at h
  | _ => exact trivial
theorem purA {S : Store} {l : List V} (h : l.all purB = true) : ∀ v ∈ l, purOK S v := fun v hv => purB_OK (List.all_eq_true.1 h v hv)
theorem viewI {n0 : Nat} {st st' : St} (ids : List (Option Nat)) (h1 : st'.so = mkFrom 0 (st'.so.map Prod.snd)) (h2 : st'.nx = (st'.so.map Prod.snd).length) (h3 : vwObs st.so ids ids (st'.so.map Prod.snd)) (h4 : nodupB ids = true)
    (h5 : firstOK 0 n0 ids) (h6 : Nat.ble n0 (st'.so.map Prod.snd).length = true) (h7 : vwSlots st.sl st.so ids st'.sl) : View n0 st st' := ⟨ids, _, h1, h2, h3, h4, h5, h6, h7⟩
theorem wrapI {n : Int} (h : -9223372036854775808 ≤ n) (h' : n < 9223372036854775808) : IntKind.i64.wrap n = n := by rw [IntKind.wrap_i64]; omega
theorem rowsI_len (L : List Int) : (rowsI L).length = L.length := by simp [rowsI]
theorem rowsI_get (L : List Int) (i : Nat) (h : i < L.length) : (rowsI L).getD i [] = [.int .i64 (L[i]'h)] := by
  simp [rowsI, List.getD_eq_getElem?_getD, h]
theorem mgetV_set : ∀ (M : List (List Int × V)) (j : List Int) (v : V) (x : List Int) (z : V), mgetV (msetV M j v) x z = if x = j then v else mgetV M x z
  | [], j, v, x, z => by
    simp only [msetV, mgetV]
    by_cases h : x = j
    · simp [h]
    · rw [if_neg h, if_neg (fun e => h e.symm)]
  | (k, u) :: r, j, v, x, z => by
    simp only [msetV]
    by_cases hk : k = j
    · subst hk
      simp only [if_true, mgetV]
      by_cases hx : k = x
      · subst hx; simp
      · simp [hx, Ne.symm hx]
    · simp only [if_neg hk, mgetV, mgetV_set r j v x z]
      by_cases hx : k = x
      · subst hx; simp [hk]
      · simp [hx]
theorem take0 {xs : List (List V)} {n : Nat} (h : xs.length = n) : (xs.drop 0).take n = xs := by subst h; simp
theorem ok15 (L : List Int) (I n : Int) (hn : IntKind.u64.wrap n ≠ 0) (hI : 0 ≤ I) (hlt : I < (L.length : Int)) (hL : (L.length : Int) < 2 ^ 62) :
    FnC Tryz.prog 15 [tapeO L I] [.ptr 0 0 0, .int .i64 n] (.int .i64 (cutF (L.getD I.toNat 0) n)) [tapeO L (I + 1)] := by
  have hlen : (rowsI L).length = L.length := by simp [rowsI]
  refine fn_okX (ob0 := [tapeO L I]) [] Tryz.func15 rfl rfl rfl rfl ?_
  repeat ((conv => whnf); first | refine Cd.go ?_ | refine ⟨rfl, ?_⟩ | refine rq_dec ⟨.inl rfl, rfl⟩ ?_ | refine rq_dec rfl ?_ | refine ⟨Nat.le_of_ble_eq_true rfl, ?_⟩ | refine ⟨.inl rfl, ?_⟩ | refine ⟨fun _ => ⟨rfl, Nat.le_of_ble_eq_true rfl⟩, ?_⟩ | refine ⟨fun _ => Nat.le_of_ble_eq_true rfl, ?_⟩ | refine ⟨fun h => Bool.noConfusion h, ?_⟩)
  conv => whnf
  refine cq_intro (fun h => ?_) (fun _ => ?_)
  · rw [hlen] at h; exact absurd (of_decide_eq_true h) (by omega)
  repeat ((conv => whnf); first | refine Cd.go ?_ | refine ⟨rfl, ?_⟩ | refine rq_dec ⟨.inl rfl, rfl⟩ ?_ | refine rq_dec rfl ?_ | refine ⟨Nat.le_of_ble_eq_true rfl, ?_⟩ | refine ⟨.inl rfl, ?_⟩ | refine ⟨fun _ => ⟨rfl, Nat.le_of_ble_eq_true rfl⟩, ?_⟩ | refine ⟨fun _ => Nat.le_of_ble_eq_true rfl, ?_⟩ | refine ⟨fun h => Bool.noConfusion h, ?_⟩)
  conv => whnf
  have hw1 : IntKind.i64.wrap (I + 1) = I + 1 := by rw [IntKind.wrap_i64]; omega
  have hw2 : IntKind.i64.wrap (I + 1 - 1) = I := by rw [IntKind.wrap_i64]; omega
  rw [hw1, hw2]
  first | refine rq_dec (⟨rfl, hI, by rw [hlen]; exact hlt⟩) ?_ | refine gq_dec (fun _ => ⟨rfl, hI, by rw [hlen]; exact hlt⟩) ?_ | refine ⟨fun _ => ⟨rfl, hI, by rw [hlen]; exact hlt⟩, ?_⟩
  have hget : (rowsI L).getD I.toNat [] = [.int .i64 (L.getD I.toNat 0)] := by
    have : I.toNat < L.length := by omega
    simp [rowsI, List.getD_eq_getElem?_getD, this]
  rw [hget]
  repeat ((conv => whnf); first | refine Cd.go ?_ | refine ⟨rfl, ?_⟩ | refine rq_dec ⟨.inl rfl, rfl⟩ ?_ | refine rq_dec rfl ?_ | refine ⟨Nat.le_of_ble_eq_true rfl, ?_⟩ | refine ⟨.inl rfl, ?_⟩ | refine ⟨fun _ => ⟨rfl, Nat.le_of_ble_eq_true rfl⟩, ?_⟩ | refine ⟨fun _ => Nat.le_of_ble_eq_true rfl, ?_⟩ | refine ⟨fun h => Bool.noConfusion h, ?_⟩ | refine .inl ⟨_, fun _ => ⟨purA rfl, (by first | exact ok14 _ _ hn)⟩, .inl rfl, ?_⟩)
  conv => whnf
  try subst hk
  refine ⟨[some 0], ?_, rfl, ?_, rfl, ?_⟩
  all_goals repeat' (first | exact trivial | rfl | exact .inl rfl | exact .inr rfl | exact id | exact (fun h => Bool.noConfusion h) | refine And.intro ?_ ?_)
def nxV (L : List Int) (I : Nat) (n : Int) : Int := bif decide (L.length ≤ I) then 0 else cutF (L.getD I 0) n
def nxI (L : List Int) (I : Nat) : Nat := bif decide (L.length ≤ I) then I else I + 1
def tpO (L : List Int) (I : Nat) : Sk.Obj := tapeO L (I : Int)
theorem u64_of {n : Int} (h0 : 0 < n) (h1 : n < 4611686018427387904) : IntKind.u64.wrap n = n := by rw [IntKind.wrap_u64]; omega
theorem cutF_in (x n : Int) (h0 : 0 < n) (h1 : n < 4611686018427387904) : 0 ≤ cutF x n ∧ cutF x n < n := by
  unfold cutF
  rw [u64_of h0 h1]
  have hx : 0 ≤ IntKind.u64.wrap x := by rw [IntKind.wrap_u64]; omega
  have a1 := Int.tmod_nonneg n hx
  have a2 := Int.tmod_lt_of_pos (IntKind.u64.wrap x) h0
  rw [wrapI (by omega) (by omega)]
  exact ⟨a1, a2⟩
theorem nxV_in (L : List Int) (I : Nat) (n : Int) (h0 : 0 < n) (h1 : n < 4611686018427387904) : 0 ≤ nxV L I n ∧ nxV L I n < n := by
  unfold nxV
  cases decide (L.length ≤ I) with
  | true => exact ⟨by simp, by simpa using h0⟩
  | false => exact cutF_in _ n h0 h1
theorem nxI_in (L : List Int) (I : Nat) (h : I ≤ L.length) : nxI L I ≤ L.length := by
  unfold nxI
  by_cases h' : L.length ≤ I
  · simp [h']; exact h
  · simp [h']; omega
set_option maxRecDepth 20000 in
theorem ok15n (L : List Int) (I : Nat) (n : Int) (hL : (L.length : Int) < 2 ^ 62) (hI : I ≤ L.length) (h0 : 0 < n) (h1 : n < 4611686018427387904) :
    FnC Tryz.prog 15 [tpO L I] [.ptr 0 0 0, .int .i64 n] (.int .i64 (nxV L I n)) [tpO L (nxI L I)] := by
  have hn : IntKind.u64.wrap n ≠ 0 := by rw [u64_of h0 h1]; omega
  by_cases hlt : I < L.length
  · have e1 : nxV L I n = cutF (L.getD I 0) n := by simp [nxV, show ¬ L.length ≤ I by omega]
    have e2 : nxI L I = I + 1 := by simp [nxI, show ¬ L.length ≤ I by omega]
    have := ok15 L I n hn (by omega) (by omega) (by omega)
    rw [e1, e2]
    simpa [tpO] using this
  · have e1 : nxV L I n = 0 := by simp [nxV, show L.length ≤ I by omega]
    have e2 : nxI L I = I := by simp [nxI, show L.length ≤ I by omega]
    rw [e1, e2]
    refine fn_okX (ob0 := [tpO L I]) [] Tryz.func15 rfl rfl rfl rfl ?_
    repeat ((conv => whnf); first | refine Cd.go ?_ | refine ⟨rfl, ?_⟩ | refine rq_dec ⟨.inl rfl, rfl⟩ ?_ | refine rq_dec rfl ?_ | refine ⟨Nat.le_of_ble_eq_true rfl, ?_⟩ | refine ⟨.inl rfl, ?_⟩ | refine ⟨fun _ => ⟨rfl, Nat.le_of_ble_eq_true rfl⟩, ?_⟩ | refine ⟨fun _ => Nat.le_of_ble_eq_true rfl, ?_⟩ | refine ⟨fun h => Bool.noConfusion h, ?_⟩)
    conv => whnf
    rw [rowsI_len]
    refine cq_intro (fun h => ?_) (fun h => ?_)
    · repeat ((conv => whnf); first | refine Cd.go ?_ | refine ⟨rfl, ?_⟩ | refine rq_dec ⟨.inl rfl, rfl⟩ ?_ | refine rq_dec rfl ?_ | refine ⟨Nat.le_of_ble_eq_true rfl, ?_⟩ | refine ⟨.inl rfl, ?_⟩ | refine ⟨fun _ => ⟨rfl, Nat.le_of_ble_eq_true rfl⟩, ?_⟩ | refine ⟨fun _ => Nat.le_of_ble_eq_true rfl, ?_⟩ | refine ⟨fun h => Bool.noConfusion h, ?_⟩)
      conv => whnf
      refine ⟨[some 0], ?_, rfl, ?_, rfl, ?_⟩
      · exact ⟨⟨⟨.inl rfl, fun h => h, rfl⟩, ⟨rfl, rfl⟩, trivial⟩, trivial⟩
      · exact ⟨rfl, trivial⟩
      · conv => whnf
        exact ⟨rfl, rfl⟩
    · simp at h; omega
def oddL : List Int := [0, 1, 2, 3, 4, 7, 8, 15, 16, 63, 64, 128, 255, 256, -1, 1000000, 1000001, 4611686018427387904, -9223372036854775808]
def oddF (L : List Int) (I : Nat) : Int := oddL.getD (nxV L I 19).toNat 0
theorem getLit {R : List (List V)} {M : List Int} (j : Int) (hR : R = rowsI M) (h0 : 0 ≤ j) (h : j < M.length) : R.getD (0 + j.toNat) [] = [.int .i64 (M.getD j.toNat 0)] := by
  subst hR
  rw [Nat.zero_add]
  have : j.toNat < M.length := by omega
  rw [rowsI_get M _ this]; simp [List.getD_eq_getElem?_getD, this]
set_option maxRecDepth 20000 in
theorem ok34 (L : List Int) (I : Nat) (hL : (L.length : Int) < 2 ^ 62) (hI : I ≤ L.length) : FnC Tryz.prog 34 [tpO L I] [.ptr 0 0 0] (.int .i64 (oddF L I)) [tpO L (nxI L I)] := by
  refine fn_okX (ob0 := [tpO L I]) [] Tryz.func34 rfl rfl rfl rfl ?_
  repeat ((conv => whnf); first | refine Cd.go ?_ | refine ⟨rfl, ?_⟩ | refine rq_dec ⟨.inl rfl, rfl⟩ ?_ | refine rq_dec rfl ?_ | refine ⟨Nat.le_of_ble_eq_true rfl, ?_⟩ | refine ⟨.inl rfl, ?_⟩ | refine ⟨fun _ => ⟨rfl, Nat.le_of_ble_eq_true rfl⟩, ?_⟩ | refine ⟨fun _ => Nat.le_of_ble_eq_true rfl, ?_⟩ | refine ⟨fun h => Bool.noConfusion h, ?_⟩ | refine .inr ⟨fun _ => ⟨[0], _, _, _, ok15n L _ _ hL (by omega) (by omega) (by omega), ⟨rfl, trivial⟩, rfl, rfl, rfl, ?_⟩, (by intro h; cases h)⟩)
  conv => whnf
  have hv := nxV_in L I 19 (by omega) (by omega)
  first | refine rq_dec (hv) ?_ | refine gq_dec (fun _ => hv) ?_ | refine ⟨fun _ => hv, ?_⟩
  repeat ((conv => whnf); first | refine Cd.go ?_ | refine ⟨rfl, ?_⟩ | refine rq_dec ⟨.inl rfl, rfl⟩ ?_ | refine rq_dec rfl ?_ | refine ⟨Nat.le_of_ble_eq_true rfl, ?_⟩ | refine ⟨.inl rfl, ?_⟩ | refine ⟨fun _ => ⟨rfl, Nat.le_of_ble_eq_true rfl⟩, ?_⟩ | refine ⟨fun _ => Nat.le_of_ble_eq_true rfl, ?_⟩ | refine ⟨fun h => Bool.noConfusion h, ?_⟩ | refine .inr ⟨fun _ => ⟨[0], _, _, _, ok15n L _ _ hL (by omega) (by omega) (by omega), ⟨rfl, trivial⟩, rfl, rfl, rfl, ?_⟩, (by intro h; cases h)⟩)
  conv => whnf
  first | refine rq_dec (by simp only [List.length_set, List.length_replicate]; omega) ?_ | refine gq_dec (fun _ => by simp only [List.length_set, List.length_replicate]; omega) ?_ | refine ⟨fun _ => by simp only [List.length_set, List.length_replicate]; omega, ?_⟩
  rw [getLit (M := oddL) _ ?hR hv.1 hv.2]
  case hR => rfl
  repeat ((conv => whnf); first | refine Cd.go ?_ | refine ⟨rfl, ?_⟩ | refine rq_dec ⟨.inl rfl, rfl⟩ ?_ | refine rq_dec rfl ?_ | refine ⟨Nat.le_of_ble_eq_true rfl, ?_⟩ | refine ⟨.inl rfl, ?_⟩ | refine ⟨fun _ => ⟨rfl, Nat.le_of_ble_eq_true rfl⟩, ?_⟩ | refine ⟨fun _ => Nat.le_of_ble_eq_true rfl, ?_⟩ | refine ⟨fun h => Bool.noConfusion h, ?_⟩ | refine .inr ⟨fun _ => ⟨[0], _, _, _, ok15n L _ _ hL (by omega) (by omega) (by omega), ⟨rfl, trivial⟩, rfl, rfl, rfl, ?_⟩, (by intro h; cases h)⟩)
  conv => whnf
  try subst hk
  refine ⟨[some 0], ?_, rfl, ?_, rfl, ?_⟩
  all_goals repeat' (first | exact trivial | rfl | exact .inl rfl | exact .inr rfl | exact id | exact (fun h => Bool.noConfusion h) | refine And.intro ?_ ?_)
end Go.Proofs.YtmhapcbjjpadnaaGreat

set_option maxRecDepth 40000
namespace Go.Proofs.YtmhapcbjjpadnaaGreat
open Go Go.Sk Go.RowKit

/-- The first place at which p holds, or -1. -/
def idxF {α : Type} (p : α → Bool) : List α → Int
  | [] => -1
  | x :: r => bif p x then 0 else bif decide (idxF p r < 0) then -1 else idxF p r + 1
theorem idxF_in {α : Type} (p : α → Bool) : ∀ l : List α, -1 ≤ idxF p l ∧ idxF p l < l.length
  | [] => by simp [idxF]
  | x :: r => by
    have := idxF_in p r
    simp only [idxF, List.length_cons]
    cases p x <;> simp only [cond_true, cond_false]
    · by_cases h : idxF p r < 0 <;> simp [h] <;> omega
    · omega
theorem idxF_at {α : Type} (p : α → Bool) : ∀ (l : List α) (i : Nat) (h : i < l.length), (∀ j (hj : j < i), p (l[j]'(by omega)) = false) → p l[i] = true → idxF p l = i
  | [], i, h, _, _ => by simp at h
  | x :: r, 0, _, _, h2 => by simp only [List.getElem_cons_zero] at h2; simp [idxF, h2]
  | x :: r, i + 1, h, h1, h2 => by
    have hx : p x = false := by simpa using h1 0 (by omega)
    have ih := idxF_at p r i (by simpa using h) (fun j hj => by simpa using h1 (j + 1) (by omega)) (by simpa using h2)
    simp only [idxF, hx, cond_false, ih, show ¬ (i : Int) < 0 by omega, decide_false]
    omega
theorem idxF_none {α : Type} (p : α → Bool) : ∀ (l : List α), (∀ x ∈ l, p x = false) → idxF p l = -1
  | [], _ => rfl
  | x :: r, h => by
    have hx : p x = false := h x (by simp)
    have ih := idxF_none p r (fun y hy => h y (by simp [hy]))
    simp [idxF, hx, ih]
theorem idxF_neg {α : Type} (p : α → Bool) : ∀ (l : List α), idxF p l < 0 ↔ ∀ x ∈ l, p x = false
  | [] => by simp [idxF]
  | x :: r => by
    have ih := idxF_neg p r
    simp only [idxF, List.mem_cons, forall_eq_or_imp]
    cases hx : p x <;> simp only [cond_true, cond_false]
    · by_cases h : idxF p r < 0
      · simp only [h, decide_true, cond_true]; exact ⟨fun _ => ⟨trivial, ih.1 h⟩, fun _ => by omega⟩
      · simp only [h, decide_false, cond_false]; exact ⟨fun h' => absurd h' (by omega), fun h' => absurd (ih.2 h'.2) h⟩
    · exact ⟨fun h => absurd h (by omega), fun h => by cases h.1⟩
theorem idxF_spec {α : Type} (p : α → Bool) (l : List α) (h : 0 ≤ idxF p l) : ∃ (i : Nat) (hi : i < l.length), idxF p l = i ∧ p l[i] = true ∧ ∀ j (hj : j < i), p (l[j]'(by omega)) = false := by
  induction l with
  | nil => simp [idxF] at h
  | cons x r ih =>
    cases hx : p x with
    | true => exact ⟨0, by simp, by simp [idxF, hx], hx, fun j hj => by omega⟩
    | false =>
      have hr : 0 ≤ idxF p r := by
        apply Classical.byContradiction; intro hn
        simp [idxF, hx, show idxF p r < 0 by omega] at h
      obtain ⟨i, hi, e, h1, h2⟩ := ih hr
      refine ⟨i + 1, by simpa using hi, ?_, by simpa using h1, fun j hj => ?_⟩
      · simp only [idxF, hx, cond_false, e, show ¬ (i : Int) < 0 by omega, decide_false]; omega
      · cases j with
        | zero => exact hx
        | succ j => simpa using h2 j (by omega)
theorem FnC.lst_cases {f : FuncId} {ob0 ob1 : List Sk.Obj} {es : Nat} {t : Bool} {xs : List (List V)} {args : List V} {res : V} (h1 : xs ≠ [] → FnC Tryz.prog f ob0 (.lst es t xs :: args) res ob1)
    (h2 : xs = [] → ∀ (a : Option Addr) (cap : Nat), FnC Tryz.prog f ob0 (.val (.slice a 0 cap) :: args) res ob1) : FnC Tryz.prog f ob0 (.lst es t xs :: args) res ob1 := by
  by_cases h : xs = []
  · subst h
    intro U σ w cargs hR hl ha
    have hlt : 0 < cargs.size := by rw [hl]; simp
    have h0 := ha 0 _ _ rfl (Array.getElem?_eq_getElem hlt)
    generalize hv : cargs[0] = v at h0
    have hv' : cargs[0]? = some v := by rw [Array.getElem?_eq_getElem hlt, hv]
    cases h0 with
    | @lst _ _ _ _ a cap b o cv q1 q2 q3 q4 q5 q6 q7 =>
      refine h2 rfl a cap U σ w cargs hR (by simpa using hl) fun i x c hx hc => ?_
      cases i with
      | zero =>
        simp only [List.getElem?_cons_zero, Option.some.injEq] at hx
        subst hx
        rw [hv'] at hc
        obtain rfl := Option.some.inj hc
        exact .val _
      | succ i => exact ha (i + 1) x c (by simpa using hx) hc
  · exact h1 h
theorem ok306 (l : List Int) (t : Bool) (x : Int) (hl : (l.length : Int) < 2 ^ 62) : FnC Tryz.prog 306 [] [.lst 1 t (rowsI l), .int .i64 x] (.int .i64 (idxF (fun y => x == y) l)) [] := by
  refine fn_okX (ob0 := []) [] Tryz.func306 rfl rfl rfl rfl ?_
  generalize hk : idxF (fun y => x == y) l = q
  repeat ((conv => whnf); first | refine Cd.go ?_ | refine ⟨rfl, ?_⟩ | refine rq_dec ⟨.inl rfl, rfl⟩ ?_ | refine rq_dec rfl ?_ | refine ⟨Nat.le_of_ble_eq_true rfl, ?_⟩ | refine ⟨.inl rfl, ?_⟩ | refine ⟨fun _ => ⟨rfl, Nat.le_of_ble_eq_true rfl⟩, ?_⟩ | refine ⟨fun _ => Nat.le_of_ble_eq_true rfl, ?_⟩ | refine ⟨fun h => Bool.noConfusion h, ?_⟩)
  conv => whnf
  rw [rowsI_len]
  refine ⟨Nat, fun i => i ≤ l.length ∧ ∀ j (hj : j < i) (h : j < l.length), (x == l[j]) = false, fun i => ⟨[(0, ⟨[], true, .lst 1 t (rowsI l)⟩), (1, ⟨[], true, .int .i64 x⟩), (4, ⟨[], true, .int .i64 0⟩), (7, ⟨[], true, .int .i64 (l.length : Int)⟩), (8, ⟨[], true, .int .i64 (i : Int)⟩)], [], 0⟩, fun i => l.length - i, ⟨0, ⟨by omega, fun j hj => by omega⟩, ?_⟩, fun i hI => ?_⟩
  · refine viewI [] rfl rfl ?_ rfl ?_ rfl ?_
    repeat' (first | exact trivial | rfl | exact .inl rfl | exact .inr rfl | exact id | exact (fun h => Bool.noConfusion h) | refine And.intro ?_ ?_)
  obtain ⟨hI1, hI2⟩ := hI
  repeat ((conv => whnf); first | refine Cd.go ?_ | refine ⟨rfl, ?_⟩ | refine rq_dec ⟨.inl rfl, rfl⟩ ?_ | refine rq_dec rfl ?_ | refine ⟨Nat.le_of_ble_eq_true rfl, ?_⟩ | refine ⟨.inl rfl, ?_⟩ | refine ⟨fun _ => ⟨rfl, Nat.le_of_ble_eq_true rfl⟩, ?_⟩ | refine ⟨fun _ => Nat.le_of_ble_eq_true rfl, ?_⟩ | refine ⟨fun h => Bool.noConfusion h, ?_⟩)
  conv => whnf
  refine cq_intro (fun h2 => ?_) (fun h2 => ?_) <;> try simp only [Bool.cond_true_left, Bool.cond_false_right, Bool.not_eq_true', Bool.not_eq_false', Bool.not_not, rowsI_len] at h2
  · have h2 : i < l.length := by simp at h2; omega
    repeat ((conv => whnf); first | refine Cd.go ?_ | refine ⟨rfl, ?_⟩ | refine rq_dec ⟨.inl rfl, rfl⟩ ?_ | refine rq_dec rfl ?_ | refine ⟨Nat.le_of_ble_eq_true rfl, ?_⟩ | refine ⟨.inl rfl, ?_⟩ | refine ⟨fun _ => ⟨rfl, Nat.le_of_ble_eq_true rfl⟩, ?_⟩ | refine ⟨fun _ => Nat.le_of_ble_eq_true rfl, ?_⟩ | refine ⟨fun h => Bool.noConfusion h, ?_⟩)
    conv => whnf
    first | refine rq_dec (⟨rfl, by omega, by rw [rowsI_len]; omega⟩) ?_ | refine gq_dec (fun _ => ⟨rfl, by omega, by rw [rowsI_len]; omega⟩) ?_ | refine ⟨fun _ => ⟨rfl, by omega, by rw [rowsI_len]; omega⟩, ?_⟩
    rw [Int.toNat_natCast, rowsI_get l i h2]
    repeat ((conv => whnf); first | refine Cd.go ?_ | refine ⟨rfl, ?_⟩ | refine rq_dec ⟨.inl rfl, rfl⟩ ?_ | refine rq_dec rfl ?_ | refine ⟨Nat.le_of_ble_eq_true rfl, ?_⟩ | refine ⟨.inl rfl, ?_⟩ | refine ⟨fun _ => ⟨rfl, Nat.le_of_ble_eq_true rfl⟩, ?_⟩ | refine ⟨fun _ => Nat.le_of_ble_eq_true rfl, ?_⟩ | refine ⟨fun h => Bool.noConfusion h, ?_⟩)
    conv => whnf
    refine cq_intro (fun h3 => ?_) (fun h3 => ?_) <;> try simp only [Bool.cond_true_left, Bool.cond_false_right, Bool.not_eq_true', Bool.not_eq_false', Bool.not_not, rowsI_len] at h3
    · have : q = i := by rw [← hk]; exact idxF_at _ l i h2 (fun j hj => hI2 j hj (by omega)) h3
      subst this
      repeat ((conv => whnf); first | refine Cd.go ?_ | refine ⟨rfl, ?_⟩ | refine rq_dec ⟨.inl rfl, rfl⟩ ?_ | refine rq_dec rfl ?_ | refine ⟨Nat.le_of_ble_eq_true rfl, ?_⟩ | refine ⟨.inl rfl, ?_⟩ | refine ⟨fun _ => ⟨rfl, Nat.le_of_ble_eq_true rfl⟩, ?_⟩ | refine ⟨fun _ => Nat.le_of_ble_eq_true rfl, ?_⟩ | refine ⟨fun h => Bool.noConfusion h, ?_⟩)
      conv => whnf
      refine ⟨[], trivial, rfl, trivial, rfl, ?_⟩
      try subst hk
      repeat' (first | exact trivial | rfl | exact .inl rfl | exact .inr rfl | exact id | exact (fun h => Bool.noConfusion h) | refine And.intro ?_ ?_)
    repeat ((conv => whnf); first | refine Cd.go ?_ | refine ⟨rfl, ?_⟩ | refine rq_dec ⟨.inl rfl, rfl⟩ ?_ | refine rq_dec rfl ?_ | refine ⟨Nat.le_of_ble_eq_true rfl, ?_⟩ | refine ⟨.inl rfl, ?_⟩ | refine ⟨fun _ => ⟨rfl, Nat.le_of_ble_eq_true rfl⟩, ?_⟩ | refine ⟨fun _ => Nat.le_of_ble_eq_true rfl, ?_⟩ | refine ⟨fun h => Bool.noConfusion h, ?_⟩)
    conv => whnf
    rw [wrapI (n := (i : Int) + 1) (by omega) (by omega), show ((i : Int) + 1) = ((i + 1 : Nat) : Int) by omega]
    refine ⟨i + 1, ⟨by omega, fun j hj h => ?_⟩, ?_, by show l.length - (i + 1) < l.length - i; omega⟩
    · by_cases e : j = i
      · subst e; exact h3
      · exact hI2 j (by omega) h
    refine viewI [] rfl rfl ?_ rfl ?_ rfl ?_
    repeat' (first | exact trivial | rfl | exact .inl rfl | exact .inr rfl | exact id | exact (fun h => Bool.noConfusion h) | refine And.intro ?_ ?_)
  have h2 : i = l.length := by simp at h2; omega
  have : q = -1 := by rw [← hk]; exact idxF_none _ l fun y hy => by obtain ⟨j, hj, rfl⟩ := List.getElem_of_mem hy; exact hI2 j (by omega) hj
  subst this
  repeat ((conv => whnf); first | refine Cd.go ?_ | refine ⟨rfl, ?_⟩ | refine rq_dec ⟨.inl rfl, rfl⟩ ?_ | refine rq_dec rfl ?_ | refine ⟨Nat.le_of_ble_eq_true rfl, ?_⟩ | refine ⟨.inl rfl, ?_⟩ | refine ⟨fun _ => ⟨rfl, Nat.le_of_ble_eq_true rfl⟩, ?_⟩ | refine ⟨fun _ => Nat.le_of_ble_eq_true rfl, ?_⟩ | refine ⟨fun h => Bool.noConfusion h, ?_⟩)
  conv => whnf
  refine ⟨[], trivial, rfl, trivial, rfl, ?_⟩
  try subst hk
  repeat' (first | exact trivial | rfl | exact .inl rfl | exact .inr rfl | exact id | exact (fun h => Bool.noConfusion h) | refine And.intro ?_ ?_)
theorem hasI (l : List Int) (x : Int) : decide (0 ≤ idxF (fun y => x == y) l) = decide (x ∈ l) := by
  rw [Bool.eq_iff_iff, decide_eq_true_eq, decide_eq_true_eq]
  have h := idxF_neg (fun y => x == y) l
  constructor
  · intro h0
    obtain ⟨i, hi, -, h1, -⟩ := idxF_spec _ l h0
    have : x = l[i] := by simpa using h1
    rw [this]; exact List.getElem_mem hi
  · intro hm
    apply Classical.byContradiction; intro hn
    have := h.1 (by omega) x hm
    simp at this
theorem ok228 (l : List Int) (t : Bool) (x : Int) (hl : (l.length : Int) < 2 ^ 62) : FnC Tryz.prog 228 [] [.lst 1 t (rowsI l), .int .i64 x] (.bool (decide (x ∈ l))) [] := by
  rw [← hasI]
  refine fn_okX (ob0 := []) [] Tryz.func228 rfl rfl rfl rfl ?_
  repeat ((conv => whnf); first | refine Cd.go ?_ | refine ⟨rfl, ?_⟩ | refine rq_dec ⟨.inl rfl, rfl⟩ ?_ | refine rq_dec rfl ?_ | refine ⟨Nat.le_of_ble_eq_true rfl, ?_⟩ | refine ⟨.inl rfl, ?_⟩ | refine ⟨fun _ => ⟨rfl, Nat.le_of_ble_eq_true rfl⟩, ?_⟩ | refine ⟨fun _ => Nat.le_of_ble_eq_true rfl, ?_⟩ | refine ⟨fun h => Bool.noConfusion h, ?_⟩ | refine .inl ⟨_, fun _ => ⟨purA rfl, (by first | exact ok306 l t x hl)⟩, .inl rfl, ?_⟩)
  conv => whnf
  refine ⟨[], trivial, rfl, trivial, rfl, ?_⟩
  try subst hk
  repeat' (first | exact trivial | rfl | exact .inl rfl | exact .inr rfl | exact id | exact (fun h => Bool.noConfusion h) | refine And.intro ?_ ?_)
theorem ok107 (rows : List (List V)) (t : Bool) (hl : rows.length * 8 ≤ 140737488355328) : FnC Tryz.prog 107 [] [.lst 1 t rows] (.sl 0 0 rows.length) [.row 1 rows] := by
  refine FnC.lst_cases (fun hne => ?_) (fun he a cap => ?_)
  · obtain ⟨r, rs, rfl⟩ := List.exists_cons_of_ne_nil hne
    refine fn_okX (ob0 := []) [] Tryz.func107 rfl rfl rfl rfl ?_
    repeat ((conv => whnf); first | refine Cd.go ?_ | refine ⟨rfl, ?_⟩ | refine rq_dec ⟨.inl rfl, rfl⟩ ?_ | refine rq_dec rfl ?_ | refine ⟨Nat.le_of_ble_eq_true rfl, ?_⟩ | refine ⟨.inl rfl, ?_⟩ | refine ⟨fun _ => ⟨rfl, Nat.le_of_ble_eq_true rfl⟩, ?_⟩ | refine ⟨fun _ => Nat.le_of_ble_eq_true rfl, ?_⟩ | refine ⟨fun h => Bool.noConfusion h, ?_⟩)
    conv => whnf
    first | refine rq_app (by simp only [List.replicate_zero, List.length_nil, Nat.zero_add]; omega) (by simp only [List.replicate_zero, List.length_nil, Nat.zero_add]; exact hl) ?_ | refine rq_dec ⟨by simp only [List.replicate_zero, List.length_nil, Nat.zero_add]; omega, by simp only [List.replicate_zero, List.length_nil, Nat.zero_add]; exact hl⟩ ?_ | refine ⟨by simp only [List.replicate_zero, List.length_nil, Nat.zero_add]; omega, by simp only [List.replicate_zero, List.length_nil, Nat.zero_add]; exact hl, ?_⟩
    repeat ((conv => whnf); first | refine Cd.go ?_ | refine ⟨rfl, ?_⟩ | refine rq_dec ⟨.inl rfl, rfl⟩ ?_ | refine rq_dec rfl ?_ | refine ⟨Nat.le_of_ble_eq_true rfl, ?_⟩ | refine ⟨.inl rfl, ?_⟩ | refine ⟨fun _ => ⟨rfl, Nat.le_of_ble_eq_true rfl⟩, ?_⟩ | refine ⟨fun _ => Nat.le_of_ble_eq_true rfl, ?_⟩ | refine ⟨fun h => Bool.noConfusion h, ?_⟩)
    conv => whnf
    try subst hk
    refine ⟨[some 1], ?_, rfl, ?_, rfl, ?_⟩
    all_goals repeat' (first | exact trivial | rfl | exact .inl rfl | exact .inr rfl | exact id | exact (fun h => Bool.noConfusion h) | refine And.intro ?_ ?_)
    simp
  · subst he
    cases a with
    | none =>
      refine fn_okX (ob0 := []) [] Tryz.func107 rfl rfl rfl rfl ?_
      repeat ((conv => whnf); first | refine Cd.go ?_ | refine ⟨rfl, ?_⟩ | refine rq_dec ⟨.inl rfl, rfl⟩ ?_ | refine rq_dec rfl ?_ | refine ⟨Nat.le_of_ble_eq_true rfl, ?_⟩ | refine ⟨.inl rfl, ?_⟩ | refine ⟨fun _ => ⟨rfl, Nat.le_of_ble_eq_true rfl⟩, ?_⟩ | refine ⟨fun _ => Nat.le_of_ble_eq_true rfl, ?_⟩ | refine ⟨fun h => Bool.noConfusion h, ?_⟩)
      conv => whnf
      try subst hk
      refine ⟨[none], ?_, rfl, ?_, rfl, ?_⟩
      all_goals repeat' (first | exact trivial | rfl | exact .inl rfl | exact .inr rfl | exact id | exact (fun h => Bool.noConfusion h) | refine And.intro ?_ ?_)
    | some ad =>
      refine fn_okX (ob0 := []) [] Tryz.func107 rfl rfl rfl rfl ?_
      repeat ((conv => whnf); first | refine Cd.go ?_ | refine ⟨rfl, ?_⟩ | refine rq_dec ⟨.inl rfl, rfl⟩ ?_ | refine rq_dec rfl ?_ | refine ⟨Nat.le_of_ble_eq_true rfl, ?_⟩ | refine ⟨.inl rfl, ?_⟩ | refine ⟨fun _ => ⟨rfl, Nat.le_of_ble_eq_true rfl⟩, ?_⟩ | refine ⟨fun _ => Nat.le_of_ble_eq_true rfl, ?_⟩ | refine ⟨fun h => Bool.noConfusion h, ?_⟩)
      conv => whnf
      try subst hk
      refine ⟨[some 1], ?_, rfl, ?_, rfl, ?_⟩
      all_goals repeat' (first | exact trivial | rfl | exact .inl rfl | exact .inr rfl | exact id | exact (fun h => Bool.noConfusion h) | refine And.intro ?_ ?_)
theorem ok187 (rows : List (List V)) (t : Bool) (hl : rows.length * 64 ≤ 140737488355328) : FnC Tryz.prog 187 [] [.lst 6 t rows] (.sl 0 0 rows.length) [.row 6 rows] := by
  refine FnC.lst_cases (fun hne => ?_) (fun he a cap => ?_)
  · obtain ⟨r, rs, rfl⟩ := List.exists_cons_of_ne_nil hne
    refine fn_okX (ob0 := []) [] Tryz.func187 rfl rfl rfl rfl ?_
    repeat ((conv => whnf); first | refine Cd.go ?_ | refine ⟨rfl, ?_⟩ | refine rq_dec ⟨.inl rfl, rfl⟩ ?_ | refine rq_dec rfl ?_ | refine ⟨Nat.le_of_ble_eq_true rfl, ?_⟩ | refine ⟨.inl rfl, ?_⟩ | refine ⟨fun _ => ⟨rfl, Nat.le_of_ble_eq_true rfl⟩, ?_⟩ | refine ⟨fun _ => Nat.le_of_ble_eq_true rfl, ?_⟩ | refine ⟨fun h => Bool.noConfusion h, ?_⟩)
    conv => whnf
    first | refine rq_app (by simp only [List.replicate_zero, List.length_nil, Nat.zero_add]; omega) (by simp only [List.replicate_zero, List.length_nil, Nat.zero_add]; exact hl) ?_ | refine rq_dec ⟨by simp only [List.replicate_zero, List.length_nil, Nat.zero_add]; omega, by simp only [List.replicate_zero, List.length_nil, Nat.zero_add]; exact hl⟩ ?_ | refine ⟨by simp only [List.replicate_zero, List.length_nil, Nat.zero_add]; omega, by simp only [List.replicate_zero, List.length_nil, Nat.zero_add]; exact hl, ?_⟩
    repeat ((conv => whnf); first | refine Cd.go ?_ | refine ⟨rfl, ?_⟩ | refine rq_dec ⟨.inl rfl, rfl⟩ ?_ | refine rq_dec rfl ?_ | refine ⟨Nat.le_of_ble_eq_true rfl, ?_⟩ | refine ⟨.inl rfl, ?_⟩ | refine ⟨fun _ => ⟨rfl, Nat.le_of_ble_eq_true rfl⟩, ?_⟩ | refine ⟨fun _ => Nat.le_of_ble_eq_true rfl, ?_⟩ | refine ⟨fun h => Bool.noConfusion h, ?_⟩)
    conv => whnf
    try subst hk
    refine ⟨[some 1], ?_, rfl, ?_, rfl, ?_⟩
    all_goals repeat' (first | exact trivial | rfl | exact .inl rfl | exact .inr rfl | exact id | exact (fun h => Bool.noConfusion h) | refine And.intro ?_ ?_)
    simp
  · subst he
    cases a with
    | none =>
      refine fn_okX (ob0 := []) [] Tryz.func187 rfl rfl rfl rfl ?_
      repeat ((conv => whnf); first | refine Cd.go ?_ | refine ⟨rfl, ?_⟩ | refine rq_dec ⟨.inl rfl, rfl⟩ ?_ | refine rq_dec rfl ?_ | refine ⟨Nat.le_of_ble_eq_true rfl, ?_⟩ | refine ⟨.inl rfl, ?_⟩ | refine ⟨fun _ => ⟨rfl, Nat.le_of_ble_eq_true rfl⟩, ?_⟩ | refine ⟨fun _ => Nat.le_of_ble_eq_true rfl, ?_⟩ | refine ⟨fun h => Bool.noConfusion h, ?_⟩)
      conv => whnf
      try subst hk
      refine ⟨[none], ?_, rfl, ?_, rfl, ?_⟩
      all_goals repeat' (first | exact trivial | rfl | exact .inl rfl | exact .inr rfl | exact id | exact (fun h => Bool.noConfusion h) | refine And.intro ?_ ?_)
    | some ad =>
      refine fn_okX (ob0 := []) [] Tryz.func187 rfl rfl rfl rfl ?_
      repeat ((conv => whnf); first | refine Cd.go ?_ | refine ⟨rfl, ?_⟩ | refine rq_dec ⟨.inl rfl, rfl⟩ ?_ | refine rq_dec rfl ?_ | refine ⟨Nat.le_of_ble_eq_true rfl, ?_⟩ | refine ⟨.inl rfl, ?_⟩ | refine ⟨fun _ => ⟨rfl, Nat.le_of_ble_eq_true rfl⟩, ?_⟩ | refine ⟨fun _ => Nat.le_of_ble_eq_true rfl, ?_⟩ | refine ⟨fun h => Bool.noConfusion h, ?_⟩)
      conv => whnf
      try subst hk
      refine ⟨[some 1], ?_, rfl, ?_, rfl, ?_⟩
      all_goals repeat' (first | exact trivial | rfl | exact .inl rfl | exact .inr rfl | exact id | exact (fun h => Bool.noConfusion h) | refine And.intro ?_ ?_)
theorem vw1_flat {S : Store} {ids : List (Option Nat)} {c : V} (h : flatV c = true) : vw1 S ids c c := by
  cases c <;> first | exact ⟨rfl, rfl⟩ | rfl | exact ⟨.inl rfl, id, rfl⟩ | (simp [flatV] at h)
theorem all2_flat {S : Store} {ids : List (Option Nat)} : ∀ {l : List V}, l.all flatV = true → all2 (vw1 S ids) l l
  | [], _ => trivial
  | c :: r, h => by
    simp only [List.all_cons, Bool.and_eq_true] at h
    exact ⟨vw1_flat h.1, all2_flat h.2⟩
theorem pur1_flat {S : Store} {c : V} (h : flatV c = true) : pur1 S c = c := by
  cases c <;> first | rfl | (simp [flatV] at h)
def flat2 : V → Bool
  | .agg cs => cs.all flatV
  | v => flatV v
theorem map_flat {S : Store} : ∀ {l : List V}, l.all flatV = true → l.map (pur1 S) = l
  | [], _ => rfl
  | c :: r, h => by
    simp only [List.all_cons, Bool.and_eq_true] at h
    rw [List.map_cons, pur1_flat h.1, map_flat h.2]
theorem pur_flat2 {S : Store} {c : V} (h : flat2 c = true) : pur S c = c := by
  by_cases ha : ∃ cs, c = .agg cs
  · obtain ⟨cs, rfl⟩ := ha
    show V.agg (cs.map (pur1 S)) = _
    rw [map_flat h]
  · cases c <;> first | exact absurd ⟨_, rfl⟩ ha | rfl | (simp [flat2, flatV] at h)
theorem purOK_flat {S : Store} {c : V} (h : flatV c = true) : purOK1 S c := by
  cases c <;> first | exact trivial | (simp [flatV] at h)
theorem purOK_flat2 {S : Store} {c : V} (h : flat2 c = true) : purOK S c := by
  cases c with
  | agg cs => intro x hx; exact purOK_flat (List.all_eq_true.1 h x hx)
  | _ => first | exact trivial | (simp [flat2, flatV] at h)
theorem flatV_2 {c : V} (h : flatV c = true) : flat2 c = true := by
  cases c <;> first | rfl | exact h | (simp [flatV] at h)
theorem vpcall {S : Store} {g : FuncId} {caps : List V} {x res : V} {gc : Bool} {K : V → Prop} (hcap : caps.all flatV = true) (hx : flat2 x = true) (hp : FnC Tryz.prog g [] (x :: caps) res []) (hs : solidV res = true) (h : K res) :
    pcallK Tryz.prog g (x :: caps) S gc K := by
  refine ⟨res, fun _ => ⟨fun v hv => ?_, ?_⟩, .inr hs, h⟩
  · rcases List.mem_cons.1 hv with rfl | hv
    · exact purOK_flat2 hx
    · exact purOK_flat2 (flatV_2 (List.all_eq_true.1 hcap v hv))
  · have : (x :: caps).map (pur S) = x :: caps := by
      rw [List.map_cons, pur_flat2 hx]
      congr 1
      rw [← List.map_id' caps, List.map_map]
      apply List.map_congr_left
      intro c hc
      exact pur_flat2 (flatV_2 (List.all_eq_true.1 hcap c hc))
    rw [this]; exact hp
/-- IndexFunc at numbers: the closure is said by what it answers. -/
theorem ok358 (l : List Int) (t : Bool) (g : FuncId) (caps : List V) (p : Int → Bool) (hg : Callable Tryz.prog g) (hcap : caps.all flatV = true) (hp : ∀ x ∈ l, FnC Tryz.prog g [] (.int .i64 x :: caps) (.bool (p x)) []) (hl : (l.length : Int) < 2 ^ 62) :
    FnC Tryz.prog 358 [] [.lst 1 t (rowsI l), .fn g caps] (.int .i64 (idxF p l)) [] := by
  refine fn_okX (ob0 := []) [] Tryz.func358 rfl rfl rfl rfl ?_
  generalize hk : idxF p l = q
  repeat ((conv => whnf); first | refine Cd.go ?_ | refine ⟨rfl, ?_⟩ | refine rq_dec ⟨.inl rfl, rfl⟩ ?_ | refine rq_dec rfl ?_ | refine ⟨Nat.le_of_ble_eq_true rfl, ?_⟩ | refine ⟨.inl rfl, ?_⟩ | refine ⟨fun _ => ⟨rfl, Nat.le_of_ble_eq_true rfl⟩, ?_⟩ | refine ⟨fun _ => Nat.le_of_ble_eq_true rfl, ?_⟩ | refine ⟨fun h => Bool.noConfusion h, ?_⟩)
  conv => whnf
  rw [rowsI_len]
  refine ⟨Nat, fun i => i ≤ l.length ∧ ∀ j (hj : j < i) (h : j < l.length), p l[j] = false, fun i => ⟨[(0, ⟨[], true, .lst 1 t (rowsI l)⟩), (1, ⟨[], true, .fn g caps⟩), (4, ⟨[], true, .int .i64 0⟩), (7, ⟨[], true, .int .i64 (l.length : Int)⟩), (8, ⟨[], true, .int .i64 (i : Int)⟩)], [], 0⟩, fun i => l.length - i, ⟨0, ⟨by omega, fun j hj => by omega⟩, ?_⟩, fun i hI => ?_⟩
  · refine viewI [] rfl rfl ?_ rfl ?_ rfl ?_
    repeat' (first | exact trivial | rfl | exact .inl rfl | exact .inr rfl | exact id | exact (fun h => Bool.noConfusion h) | refine And.intro ?_ ?_)
    exact all2_flat hcap
  obtain ⟨hI1, hI2⟩ := hI
  repeat ((conv => whnf); first | refine Cd.go ?_ | refine ⟨rfl, ?_⟩ | refine rq_dec ⟨.inl rfl, rfl⟩ ?_ | refine rq_dec rfl ?_ | refine ⟨Nat.le_of_ble_eq_true rfl, ?_⟩ | refine ⟨.inl rfl, ?_⟩ | refine ⟨fun _ => ⟨rfl, Nat.le_of_ble_eq_true rfl⟩, ?_⟩ | refine ⟨fun _ => Nat.le_of_ble_eq_true rfl, ?_⟩ | refine ⟨fun h => Bool.noConfusion h, ?_⟩)
  conv => whnf
  refine cq_intro (fun h2 => ?_) (fun h2 => ?_) <;> try simp only [Bool.cond_true_left, Bool.cond_false_right, Bool.not_eq_true', Bool.not_eq_false', Bool.not_not, rowsI_len] at h2
  · have h2 : i < l.length := by simp at h2; omega
    repeat ((conv => whnf); first | refine Cd.go ?_ | refine ⟨rfl, ?_⟩ | refine rq_dec ⟨.inl rfl, rfl⟩ ?_ | refine rq_dec rfl ?_ | refine ⟨Nat.le_of_ble_eq_true rfl, ?_⟩ | refine ⟨.inl rfl, ?_⟩ | refine ⟨fun _ => ⟨rfl, Nat.le_of_ble_eq_true rfl⟩, ?_⟩ | refine ⟨fun _ => Nat.le_of_ble_eq_true rfl, ?_⟩ | refine ⟨fun h => Bool.noConfusion h, ?_⟩)
    conv => whnf
    first | refine rq_dec (⟨rfl, by omega, by rw [rowsI_len]; omega⟩) ?_ | refine gq_dec (fun _ => ⟨rfl, by omega, by rw [rowsI_len]; omega⟩) ?_ | refine ⟨fun _ => ⟨rfl, by omega, by rw [rowsI_len]; omega⟩, ?_⟩
    rw [Int.toNat_natCast, rowsI_get l i h2]
    repeat ((conv => whnf); first | refine Cd.go ?_ | refine ⟨rfl, ?_⟩ | refine rq_dec ⟨.inl rfl, rfl⟩ ?_ | refine rq_dec rfl ?_ | refine ⟨Nat.le_of_ble_eq_true rfl, ?_⟩ | refine ⟨.inl rfl, ?_⟩ | refine ⟨fun _ => ⟨rfl, Nat.le_of_ble_eq_true rfl⟩, ?_⟩ | refine ⟨fun _ => Nat.le_of_ble_eq_true rfl, ?_⟩ | refine ⟨fun h => Bool.noConfusion h, ?_⟩)
    conv => whnf
    refine ⟨hg, .inl (vpcall hcap rfl (hp _ (List.getElem_mem h2)) rfl ?_)⟩
    repeat ((conv => whnf); first | refine Cd.go ?_ | refine ⟨rfl, ?_⟩ | refine rq_dec ⟨.inl rfl, rfl⟩ ?_ | refine rq_dec rfl ?_ | refine ⟨Nat.le_of_ble_eq_true rfl, ?_⟩ | refine ⟨.inl rfl, ?_⟩ | refine ⟨fun _ => ⟨rfl, Nat.le_of_ble_eq_true rfl⟩, ?_⟩ | refine ⟨fun _ => Nat.le_of_ble_eq_true rfl, ?_⟩ | refine ⟨fun h => Bool.noConfusion h, ?_⟩)
    conv => whnf
    refine cq_intro (fun h3 => ?_) (fun h3 => ?_) <;> try simp only [Bool.cond_true_left, Bool.cond_false_right, Bool.not_eq_true', Bool.not_eq_false', Bool.not_not, rowsI_len] at h3
    · have : q = i := by rw [← hk]; exact idxF_at _ l i h2 (fun j hj => hI2 j hj (by omega)) h3
      subst this
      repeat ((conv => whnf); first | refine Cd.go ?_ | refine ⟨rfl, ?_⟩ | refine rq_dec ⟨.inl rfl, rfl⟩ ?_ | refine rq_dec rfl ?_ | refine ⟨Nat.le_of_ble_eq_true rfl, ?_⟩ | refine ⟨.inl rfl, ?_⟩ | refine ⟨fun _ => ⟨rfl, Nat.le_of_ble_eq_true rfl⟩, ?_⟩ | refine ⟨fun _ => Nat.le_of_ble_eq_true rfl, ?_⟩ | refine ⟨fun h => Bool.noConfusion h, ?_⟩)
      conv => whnf
      refine ⟨[], trivial, rfl, trivial, rfl, ?_⟩
      try subst hk
      repeat' (first | exact trivial | rfl | exact .inl rfl | exact .inr rfl | exact id | exact (fun h => Bool.noConfusion h) | refine And.intro ?_ ?_)
    repeat ((conv => whnf); first | refine Cd.go ?_ | refine ⟨rfl, ?_⟩ | refine rq_dec ⟨.inl rfl, rfl⟩ ?_ | refine rq_dec rfl ?_ | refine ⟨Nat.le_of_ble_eq_true rfl, ?_⟩ | refine ⟨.inl rfl, ?_⟩ | refine ⟨fun _ => ⟨rfl, Nat.le_of_ble_eq_true rfl⟩, ?_⟩ | refine ⟨fun _ => Nat.le_of_ble_eq_true rfl, ?_⟩ | refine ⟨fun h => Bool.noConfusion h, ?_⟩)
    conv => whnf
    rw [wrapI (n := (i : Int) + 1) (by omega) (by omega), show ((i : Int) + 1) = ((i + 1 : Nat) : Int) by omega]
    refine ⟨i + 1, ⟨by omega, fun j hj h => ?_⟩, ?_, by show l.length - (i + 1) < l.length - i; omega⟩
    · by_cases e : j = i
      · subst e; exact h3
      · exact hI2 j (by omega) h
    refine viewI [] rfl rfl ?_ rfl ?_ rfl ?_
    repeat' (first | exact trivial | rfl | exact .inl rfl | exact .inr rfl | exact id | exact (fun h => Bool.noConfusion h) | refine And.intro ?_ ?_)
    exact all2_flat hcap
  have h2 : i = l.length := by simp at h2; omega
  have : q = -1 := by rw [← hk]; exact idxF_none _ l fun y hy => by obtain ⟨j, hj, rfl⟩ := List.getElem_of_mem hy; exact hI2 j (by omega) hj
  subst this
  repeat ((conv => whnf); first | refine Cd.go ?_ | refine ⟨rfl, ?_⟩ | refine rq_dec ⟨.inl rfl, rfl⟩ ?_ | refine rq_dec rfl ?_ | refine ⟨Nat.le_of_ble_eq_true rfl, ?_⟩ | refine ⟨.inl rfl, ?_⟩ | refine ⟨fun _ => ⟨rfl, Nat.le_of_ble_eq_true rfl⟩, ?_⟩ | refine ⟨fun _ => Nat.le_of_ble_eq_true rfl, ?_⟩ | refine ⟨fun h => Bool.noConfusion h, ?_⟩)
  conv => whnf
  refine ⟨[], trivial, rfl, trivial, rfl, ?_⟩
  try subst hk
  repeat' (first | exact trivial | rfl | exact .inl rfl | exact .inr rfl | exact id | exact (fun h => Bool.noConfusion h) | refine And.intro ?_ ?_)
/-- A zone; 'ex' says whether its list of free frames has just the room it needs. -/
structure Zn where
  first : Int
  size : Int
  min : Int
  low : Int
  high : Int
  free : List Int
  ex : Bool
def Zn.c (z : Zn) : List V := [.int .i64 z.first, .int .i64 z.size, .int .i64 z.min, .int .i64 z.low, .int .i64 z.high, .lst 1 z.ex (rowsI z.free)]
def zeroZ : Zn := ⟨0, 0, 0, 0, 0, [], true⟩
def rowsZ (L : List Zn) : List (List V) := L.map Zn.c
theorem rowsZ_len (L : List Zn) : (rowsZ L).length = L.length := by simp [rowsZ]
theorem rowsZ_get (L : List Zn) (i : Nat) (h : i < L.length) : (rowsZ L).getD i [] = (L[i]'h).c := by
  simp [rowsZ, List.getD_eq_getElem?_getD, h]
theorem ok305 (l : List Zn) (t : Bool) (g : FuncId) (caps : List V) (p : Zn → Bool) (hg : Callable Tryz.prog g) (hcap : caps.all flatV = true) (hp : ∀ x ∈ l, FnC Tryz.prog g [] (.agg x.c :: caps) (.bool (p x)) []) (hl : (l.length : Int) < 2 ^ 62) :
    FnC Tryz.prog 305 [] [.lst 6 t (rowsZ l), .fn g caps] (.int .i64 (idxF p l)) [] := by
  refine fn_okX (ob0 := []) [] Tryz.func305 rfl rfl rfl rfl ?_
  generalize hk : idxF p l = q
  repeat ((conv => whnf); first | refine Cd.go ?_ | refine ⟨rfl, ?_⟩ | refine rq_dec ⟨.inl rfl, rfl⟩ ?_ | refine rq_dec rfl ?_ | refine ⟨Nat.le_of_ble_eq_true rfl, ?_⟩ | refine ⟨.inl rfl, ?_⟩ | refine ⟨fun _ => ⟨rfl, Nat.le_of_ble_eq_true rfl⟩, ?_⟩ | refine ⟨fun _ => Nat.le_of_ble_eq_true rfl, ?_⟩ | refine ⟨fun h => Bool.noConfusion h, ?_⟩)
  conv => whnf
  rw [rowsZ_len]
  refine ⟨Nat, fun i => i ≤ l.length ∧ ∀ j (hj : j < i) (h : j < l.length), p l[j] = false, fun i => ⟨[(0, ⟨[], true, .lst 6 t (rowsZ l)⟩), (1, ⟨[], true, .fn g caps⟩), (4, ⟨[], true, .int .i64 0⟩), (7, ⟨[], true, .int .i64 (l.length : Int)⟩), (8, ⟨[], true, .int .i64 (i : Int)⟩)], [], 0⟩, fun i => l.length - i, ⟨0, ⟨by omega, fun j hj => by omega⟩, ?_⟩, fun i hI => ?_⟩
  · refine viewI [] rfl rfl ?_ rfl ?_ rfl ?_
    repeat' (first | exact trivial | rfl | exact .inl rfl | exact .inr rfl | exact id | exact (fun h => Bool.noConfusion h) | refine And.intro ?_ ?_)
    exact all2_flat hcap
  obtain ⟨hI1, hI2⟩ := hI
  repeat ((conv => whnf); first | refine Cd.go ?_ | refine ⟨rfl, ?_⟩ | refine rq_dec ⟨.inl rfl, rfl⟩ ?_ | refine rq_dec rfl ?_ | refine ⟨Nat.le_of_ble_eq_true rfl, ?_⟩ | refine ⟨.inl rfl, ?_⟩ | refine ⟨fun _ => ⟨rfl, Nat.le_of_ble_eq_true rfl⟩, ?_⟩ | refine ⟨fun _ => Nat.le_of_ble_eq_true rfl, ?_⟩ | refine ⟨fun h => Bool.noConfusion h, ?_⟩)
  conv => whnf
  refine cq_intro (fun h2 => ?_) (fun h2 => ?_) <;> try simp only [Bool.cond_true_left, Bool.cond_false_right, Bool.not_eq_true', Bool.not_eq_false', Bool.not_not, rowsI_len] at h2
  · have h2 : i < l.length := by simp at h2; omega
    repeat ((conv => whnf); first | refine Cd.go ?_ | refine ⟨rfl, ?_⟩ | refine rq_dec ⟨.inl rfl, rfl⟩ ?_ | refine rq_dec rfl ?_ | refine ⟨Nat.le_of_ble_eq_true rfl, ?_⟩ | refine ⟨.inl rfl, ?_⟩ | refine ⟨fun _ => ⟨rfl, Nat.le_of_ble_eq_true rfl⟩, ?_⟩ | refine ⟨fun _ => Nat.le_of_ble_eq_true rfl, ?_⟩ | refine ⟨fun h => Bool.noConfusion h, ?_⟩)
    conv => whnf
    first | refine rq_dec (⟨rfl, by omega, by rw [rowsZ_len]; omega⟩) ?_ | refine gq_dec (fun _ => ⟨rfl, by omega, by rw [rowsZ_len]; omega⟩) ?_ | refine ⟨fun _ => ⟨rfl, by omega, by rw [rowsZ_len]; omega⟩, ?_⟩
    rw [Int.toNat_natCast, rowsZ_get l i h2]
    repeat ((conv => whnf); first | refine Cd.go ?_ | refine ⟨rfl, ?_⟩ | refine rq_dec ⟨.inl rfl, rfl⟩ ?_ | refine rq_dec rfl ?_ | refine ⟨Nat.le_of_ble_eq_true rfl, ?_⟩ | refine ⟨.inl rfl, ?_⟩ | refine ⟨fun _ => ⟨rfl, Nat.le_of_ble_eq_true rfl⟩, ?_⟩ | refine ⟨fun _ => Nat.le_of_ble_eq_true rfl, ?_⟩ | refine ⟨fun h => Bool.noConfusion h, ?_⟩)
    conv => whnf
    refine ⟨hg, .inl (vpcall hcap rfl (hp _ (List.getElem_mem h2)) rfl ?_)⟩
    repeat ((conv => whnf); first | refine Cd.go ?_ | refine ⟨rfl, ?_⟩ | refine rq_dec ⟨.inl rfl, rfl⟩ ?_ | refine rq_dec rfl ?_ | refine ⟨Nat.le_of_ble_eq_true rfl, ?_⟩ | refine ⟨.inl rfl, ?_⟩ | refine ⟨fun _ => ⟨rfl, Nat.le_of_ble_eq_true rfl⟩, ?_⟩ | refine ⟨fun _ => Nat.le_of_ble_eq_true rfl, ?_⟩ | refine ⟨fun h => Bool.noConfusion h, ?_⟩)
    conv => whnf
    refine cq_intro (fun h3 => ?_) (fun h3 => ?_) <;> try simp only [Bool.cond_true_left, Bool.cond_false_right, Bool.not_eq_true', Bool.not_eq_false', Bool.not_not, rowsI_len] at h3
    · have : q = i := by rw [← hk]; exact idxF_at _ l i h2 (fun j hj => hI2 j hj (by omega)) h3
      subst this
      repeat ((conv => whnf); first | refine Cd.go ?_ | refine ⟨rfl, ?_⟩ | refine rq_dec ⟨.inl rfl, rfl⟩ ?_ | refine rq_dec rfl ?_ | refine ⟨Nat.le_of_ble_eq_true rfl, ?_⟩ | refine ⟨.inl rfl, ?_⟩ | refine ⟨fun _ => ⟨rfl, Nat.le_of_ble_eq_true rfl⟩, ?_⟩ | refine ⟨fun _ => Nat.le_of_ble_eq_true rfl, ?_⟩ | refine ⟨fun h => Bool.noConfusion h, ?_⟩)
      conv => whnf
      refine ⟨[], trivial, rfl, trivial, rfl, ?_⟩
      try subst hk
      repeat' (first | exact trivial | rfl | exact .inl rfl | exact .inr rfl | exact id | exact (fun h => Bool.noConfusion h) | refine And.intro ?_ ?_)
    repeat ((conv => whnf); first | refine Cd.go ?_ | refine ⟨rfl, ?_⟩ | refine rq_dec ⟨.inl rfl, rfl⟩ ?_ | refine rq_dec rfl ?_ | refine ⟨Nat.le_of_ble_eq_true rfl, ?_⟩ | refine ⟨.inl rfl, ?_⟩ | refine ⟨fun _ => ⟨rfl, Nat.le_of_ble_eq_true rfl⟩, ?_⟩ | refine ⟨fun _ => Nat.le_of_ble_eq_true rfl, ?_⟩ | refine ⟨fun h => Bool.noConfusion h, ?_⟩)
    conv => whnf
    rw [wrapI (n := (i : Int) + 1) (by omega) (by omega), show ((i : Int) + 1) = ((i + 1 : Nat) : Int) by omega]
    refine ⟨i + 1, ⟨by omega, fun j hj h => ?_⟩, ?_, by show l.length - (i + 1) < l.length - i; omega⟩
    · by_cases e : j = i
      · subst e; exact h3
      · exact hI2 j (by omega) h
    refine viewI [] rfl rfl ?_ rfl ?_ rfl ?_
    repeat' (first | exact trivial | rfl | exact .inl rfl | exact .inr rfl | exact id | exact (fun h => Bool.noConfusion h) | refine And.intro ?_ ?_)
    exact all2_flat hcap
  have h2 : i = l.length := by simp at h2; omega
  have : q = -1 := by rw [← hk]; exact idxF_none _ l fun y hy => by obtain ⟨j, hj, rfl⟩ := List.getElem_of_mem hy; exact hI2 j (by omega) hj
  subst this
  repeat ((conv => whnf); first | refine Cd.go ?_ | refine ⟨rfl, ?_⟩ | refine rq_dec ⟨.inl rfl, rfl⟩ ?_ | refine rq_dec rfl ?_ | refine ⟨Nat.le_of_ble_eq_true rfl, ?_⟩ | refine ⟨.inl rfl, ?_⟩ | refine ⟨fun _ => ⟨rfl, Nat.le_of_ble_eq_true rfl⟩, ?_⟩ | refine ⟨fun _ => Nat.le_of_ble_eq_true rfl, ?_⟩ | refine ⟨fun h => Bool.noConfusion h, ?_⟩)
  conv => whnf
  refine ⟨[], trivial, rfl, trivial, rfl, ?_⟩
  try subst hk
  repeat' (first | exact trivial | rfl | exact .inl rfl | exact .inr rfl | exact id | exact (fun h => Bool.noConfusion h) | refine And.intro ?_ ?_)
theorem ok226 (l : List Zn) (t : Bool) (g : FuncId) (i : Int) (p : Zn → Bool) (hg : Callable Tryz.prog g) (hp : ∀ x ∈ l, FnC Tryz.prog g [] [.agg x.c, .rp 1 [.int .i64 i] 0] (.bool (p x)) []) (hl : (l.length : Int) < 2 ^ 62) :
    FnC Tryz.prog 226 [] [.lst 6 t (rowsZ l), .fn g [.rp 1 [.int .i64 i] 0]] (.bool (decide (0 ≤ idxF p l))) [] := by
  refine fn_okX (ob0 := []) [] Tryz.func226 rfl rfl rfl rfl ?_
  repeat ((conv => whnf); first | refine Cd.go ?_ | refine ⟨rfl, ?_⟩ | refine rq_dec ⟨.inl rfl, rfl⟩ ?_ | refine rq_dec rfl ?_ | refine ⟨Nat.le_of_ble_eq_true rfl, ?_⟩ | refine ⟨.inl rfl, ?_⟩ | refine ⟨fun _ => ⟨rfl, Nat.le_of_ble_eq_true rfl⟩, ?_⟩ | refine ⟨fun _ => Nat.le_of_ble_eq_true rfl, ?_⟩ | refine ⟨fun h => Bool.noConfusion h, ?_⟩ | refine .inl ⟨_, fun _ => ⟨purA rfl, (by first | exact ok305 l t g [.rp 1 [.int .i64 i] 0] p hg rfl hp hl)⟩, .inl rfl, ?_⟩)
  conv => whnf
  refine ⟨[], trivial, rfl, trivial, rfl, ?_⟩
  try subst hk
  repeat' (first | exact trivial | rfl | exact .inl rfl | exact .inr rfl | exact id | exact (fun h => Bool.noConfusion h) | refine And.intro ?_ ?_)
end Go.Proofs.YtmhapcbjjpadnaaGreat

set_option maxRecDepth 40000
namespace Go.Proofs.YtmhapcbjjpadnaaGreat
open Go Go.Sk Go.RowKit

def endZ (z : Zn) : Int := IntKind.i64.wrap (z.first + z.size)
theorem ok292 (z : Zn) : FnC Tryz.prog 292 [] [.agg z.c] (.int .i64 (endZ z)) [] := by
  refine fn_okX (ob0 := []) [] Tryz.func292 rfl rfl rfl rfl ?_
  repeat ((conv => whnf); first | refine Cd.go ?_ | refine ⟨rfl, ?_⟩ | refine rq_dec ⟨.inl rfl, rfl⟩ ?_ | refine rq_dec rfl ?_ | refine ⟨Nat.le_of_ble_eq_true rfl, ?_⟩ | refine ⟨.inl rfl, ?_⟩ | refine ⟨fun _ => ⟨rfl, Nat.le_of_ble_eq_true rfl⟩, ?_⟩ | refine ⟨fun _ => Nat.le_of_ble_eq_true rfl, ?_⟩ | refine ⟨fun h => Bool.noConfusion h, ?_⟩)
  conv => whnf
  refine ⟨[], trivial, rfl, trivial, rfl, ?_⟩
  try subst hk
  repeat' (first | exact trivial | rfl | exact .inl rfl | exact .inr rfl | exact id | exact (fun h => Bool.noConfusion h) | refine And.intro ?_ ?_)
def headBad (z : Zn) (f : Int) : Bool := ((z.first != f || decide (z.size < 1)) || decide (64 < z.size)) || decide (65 < endZ z)
def markBad (z : Zn) : Bool := ((decide (z.min < 0) || decide (z.low < z.min)) || decide (z.high < z.low)) || decide (z.size < z.high)
def freeBad (lo hi : Int) (l : List Int) (i : Nat) : Bool := (decide (l.getD i 0 < lo) || decide (hi ≤ l.getD i 0)) || (decide (0 < (i : Int)) && decide (l.getD i 0 ≤ l.getD (i - 1) 0))
def ascN (lo hi : Int) (l : List Int) : Nat → Bool
  | 0 => true
  | i + 1 => ascN lo hi l i && !freeBad lo hi l i
theorem ascN_mono (lo hi : Int) (l : List Int) : ∀ (n i : Nat), i < n → ascN lo hi l n = true → freeBad lo hi l i = false
  | 0, _, h, _ => by omega
  | n + 1, i, h, h1 => by
    simp only [ascN, Bool.and_eq_true, Bool.not_eq_true'] at h1
    by_cases e : i = n
    · subst e; exact h1.2
    · exact ascN_mono lo hi l n i (by omega) h1.1
theorem ascN_bad (lo hi : Int) (l : List Int) (n i : Nat) (h : i < n) (hb : freeBad lo hi l i = true) : ascN lo hi l n = false := by
  cases ha : ascN lo hi l n with
  | false => rfl
  | true => rw [ascN_mono lo hi l n i h ha] at hb; cases hb
def rightZ (z : Zn) (f : Int) : Bool := bif headBad z f then false else bif markBad z then false else ascN z.first (endZ z) z.free z.free.length
theorem getI (l : List Int) (i : Nat) (h : i < l.length) : l[i] = l.getD i 0 := by simp [List.getD_eq_getElem?_getD, h]
theorem prev_nat (i : Nat) (hi : (i : Int) < 2 ^ 62) : (IntKind.i64.wrap ((i : Int) - 1)).toNat = i - 1 := by rw [wrapI (by omega) (by omega)]; omega
theorem prev_int (i : Nat) (hi : (i : Int) < 2 ^ 62) : IntKind.i64.wrap ((i : Int) - 1) = (i : Int) - 1 := wrapI (by omega) (by omega)
set_option maxRecDepth 20000 in
theorem ok291 (z : Zn) (f : Int) (hl : (z.free.length : Int) < 2 ^ 62) : FnC Tryz.prog 291 [] [.agg z.c, .int .i64 f] (.bool (rightZ z f)) [] := by
  refine fn_okX (ob0 := []) [] Tryz.func291 rfl rfl rfl rfl ?_
  generalize hk : rightZ z f = q
  repeat ((conv => whnf); first | refine Cd.go ?_ | refine ⟨rfl, ?_⟩ | refine rq_dec ⟨.inl rfl, rfl⟩ ?_ | refine rq_dec rfl ?_ | refine ⟨Nat.le_of_ble_eq_true rfl, ?_⟩ | refine ⟨.inl rfl, ?_⟩ | refine ⟨fun _ => ⟨rfl, Nat.le_of_ble_eq_true rfl⟩, ?_⟩ | refine ⟨fun _ => Nat.le_of_ble_eq_true rfl, ?_⟩ | refine ⟨fun h => Bool.noConfusion h, ?_⟩ | refine .inl ⟨_, fun _ => ⟨purA rfl, (by first | exact ok292 z)⟩, .inl rfl, ?_⟩)
  conv => whnf
  refine cq_intro (fun h1 => ?_) (fun h1 => ?_) <;> try simp only [Bool.cond_true_left, Bool.cond_false_right, Bool.not_eq_true', Bool.not_eq_false', Bool.not_not] at h1
  · have h1 : headBad z f = true := h1
    simp only [rightZ, h1, cond_true] at hk
    subst hk
    repeat ((conv => whnf); first | refine Cd.go ?_ | refine ⟨rfl, ?_⟩ | refine rq_dec ⟨.inl rfl, rfl⟩ ?_ | refine rq_dec rfl ?_ | refine ⟨Nat.le_of_ble_eq_true rfl, ?_⟩ | refine ⟨.inl rfl, ?_⟩ | refine ⟨fun _ => ⟨rfl, Nat.le_of_ble_eq_true rfl⟩, ?_⟩ | refine ⟨fun _ => Nat.le_of_ble_eq_true rfl, ?_⟩ | refine ⟨fun h => Bool.noConfusion h, ?_⟩)
    conv => whnf
    refine ⟨[], trivial, rfl, trivial, rfl, ?_⟩
    try subst hk
    repeat' (first | exact trivial | rfl | exact .inl rfl | exact .inr rfl | exact id | exact (fun h => Bool.noConfusion h) | refine And.intro ?_ ?_)
  have h1 : headBad z f = false := h1
  simp only [rightZ, h1, cond_false] at hk
  repeat ((conv => whnf); first | refine Cd.go ?_ | refine ⟨rfl, ?_⟩ | refine rq_dec ⟨.inl rfl, rfl⟩ ?_ | refine rq_dec rfl ?_ | refine ⟨Nat.le_of_ble_eq_true rfl, ?_⟩ | refine ⟨.inl rfl, ?_⟩ | refine ⟨fun _ => ⟨rfl, Nat.le_of_ble_eq_true rfl⟩, ?_⟩ | refine ⟨fun _ => Nat.le_of_ble_eq_true rfl, ?_⟩ | refine ⟨fun h => Bool.noConfusion h, ?_⟩)
  conv => whnf
  refine cq_intro (fun h2 => ?_) (fun h2 => ?_) <;> try simp only [Bool.cond_true_left, Bool.cond_false_right, Bool.not_eq_true', Bool.not_eq_false', Bool.not_not] at h2
  · have h2 : markBad z = true := h2
    simp only [h2, cond_true] at hk
    subst hk
    repeat ((conv => whnf); first | refine Cd.go ?_ | refine ⟨rfl, ?_⟩ | refine rq_dec ⟨.inl rfl, rfl⟩ ?_ | refine rq_dec rfl ?_ | refine ⟨Nat.le_of_ble_eq_true rfl, ?_⟩ | refine ⟨.inl rfl, ?_⟩ | refine ⟨fun _ => ⟨rfl, Nat.le_of_ble_eq_true rfl⟩, ?_⟩ | refine ⟨fun _ => Nat.le_of_ble_eq_true rfl, ?_⟩ | refine ⟨fun h => Bool.noConfusion h, ?_⟩)
    conv => whnf
    refine ⟨[], trivial, rfl, trivial, rfl, ?_⟩
    try subst hk
    repeat' (first | exact trivial | rfl | exact .inl rfl | exact .inr rfl | exact id | exact (fun h => Bool.noConfusion h) | refine And.intro ?_ ?_)
  have h2 : markBad z = false := h2
  simp only [h2, cond_false] at hk
  repeat ((conv => whnf); first | refine Cd.go ?_ | refine ⟨rfl, ?_⟩ | refine rq_dec ⟨.inl rfl, rfl⟩ ?_ | refine rq_dec rfl ?_ | refine ⟨Nat.le_of_ble_eq_true rfl, ?_⟩ | refine ⟨.inl rfl, ?_⟩ | refine ⟨fun _ => ⟨rfl, Nat.le_of_ble_eq_true rfl⟩, ?_⟩ | refine ⟨fun _ => Nat.le_of_ble_eq_true rfl, ?_⟩ | refine ⟨fun h => Bool.noConfusion h, ?_⟩)
  conv => whnf
  rw [rowsI_len]
  refine ⟨Nat, fun i => i ≤ z.free.length ∧ ascN z.first (endZ z) z.free i = true, fun i => ⟨[(1, ⟨[], true, .int .i64 f⟩), (2, ⟨[], true, .ptr 0 0 0⟩), (4, ⟨[], true, .bool false⟩), (51, ⟨[], true, .lst 1 z.ex (rowsI z.free)⟩), (52, ⟨[], true, .int .i64 (z.free.length : Int)⟩), (53, ⟨[], true, .int .i64 (i : Int)⟩)], [(0, .box z.c)], 1⟩, fun i => z.free.length - i, ⟨0, ⟨by omega, rfl⟩, ?_⟩, fun i hI => ?_⟩
  · refine viewI [some 0] rfl rfl ?_ rfl ?_ rfl ?_
    repeat' (first | exact trivial | rfl | exact .inl rfl | exact .inr rfl | exact id | exact (fun h => Bool.noConfusion h) | refine And.intro ?_ ?_)
  obtain ⟨hI1, hI2⟩ := hI
  repeat ((conv => whnf); first | refine Cd.go ?_ | refine ⟨rfl, ?_⟩ | refine rq_dec ⟨.inl rfl, rfl⟩ ?_ | refine rq_dec rfl ?_ | refine ⟨Nat.le_of_ble_eq_true rfl, ?_⟩ | refine ⟨.inl rfl, ?_⟩ | refine ⟨fun _ => ⟨rfl, Nat.le_of_ble_eq_true rfl⟩, ?_⟩ | refine ⟨fun _ => Nat.le_of_ble_eq_true rfl, ?_⟩ | refine ⟨fun h => Bool.noConfusion h, ?_⟩)
  conv => whnf
  refine cq_intro (fun h3 => ?_) (fun h3 => ?_) <;> try simp only [Bool.cond_true_left, Bool.cond_false_right, Bool.not_eq_true', Bool.not_eq_false', Bool.not_not] at h3
  · have h3 : i < z.free.length := by simp at h3; omega
    repeat ((conv => whnf); first | refine Cd.go ?_ | refine ⟨rfl, ?_⟩ | refine rq_dec ⟨.inl rfl, rfl⟩ ?_ | refine rq_dec rfl ?_ | refine ⟨Nat.le_of_ble_eq_true rfl, ?_⟩ | refine ⟨.inl rfl, ?_⟩ | refine ⟨fun _ => ⟨rfl, Nat.le_of_ble_eq_true rfl⟩, ?_⟩ | refine ⟨fun _ => Nat.le_of_ble_eq_true rfl, ?_⟩ | refine ⟨fun h => Bool.noConfusion h, ?_⟩)
    conv => whnf
    first | refine rq_dec (⟨rfl, by omega, by rw [rowsI_len]; omega⟩) ?_ | refine gq_dec (fun _ => ⟨rfl, by omega, by rw [rowsI_len]; omega⟩) ?_ | refine ⟨fun _ => ⟨rfl, by omega, by rw [rowsI_len]; omega⟩, ?_⟩
    rw [Int.toNat_natCast, rowsI_get z.free i h3]
    repeat ((conv => whnf); first | refine Cd.go ?_ | refine ⟨rfl, ?_⟩ | refine rq_dec ⟨.inl rfl, rfl⟩ ?_ | refine rq_dec rfl ?_ | refine ⟨Nat.le_of_ble_eq_true rfl, ?_⟩ | refine ⟨.inl rfl, ?_⟩ | refine ⟨fun _ => ⟨rfl, Nat.le_of_ble_eq_true rfl⟩, ?_⟩ | refine ⟨fun _ => Nat.le_of_ble_eq_true rfl, ?_⟩ | refine ⟨fun h => Bool.noConfusion h, ?_⟩ | refine .inl ⟨_, fun _ => ⟨purA rfl, (by first | exact ok292 z)⟩, .inl rfl, ?_⟩)
    conv => whnf
    rw [prev_nat i (by omega)]
    first | refine gq_dec (fun hg => ⟨rfl, ?_, ?_⟩) ?_ | refine ⟨fun hg => ⟨rfl, ?_, ?_⟩, ?_⟩
    · simp only [Bool.and_eq_true, decide_eq_true_eq] at hg
      rw [prev_int i (by omega)]; omega
    · rw [prev_int i (by omega), rowsI_len]; omega
    rw [rowsI_get z.free (i - 1) (by omega)]
    repeat ((conv => whnf); first | refine Cd.go ?_ | refine ⟨rfl, ?_⟩ | refine rq_dec ⟨.inl rfl, rfl⟩ ?_ | refine rq_dec rfl ?_ | refine ⟨Nat.le_of_ble_eq_true rfl, ?_⟩ | refine ⟨.inl rfl, ?_⟩ | refine ⟨fun _ => ⟨rfl, Nat.le_of_ble_eq_true rfl⟩, ?_⟩ | refine ⟨fun _ => Nat.le_of_ble_eq_true rfl, ?_⟩ | refine ⟨fun h => Bool.noConfusion h, ?_⟩)
    conv => whnf
    rw [getI, getI]
    refine cq_intro (fun h4 => ?_) (fun h4 => ?_) <;> try simp only [Bool.cond_true_left, Bool.cond_false_right, Bool.not_eq_true', Bool.not_eq_false', Bool.not_not] at h4
    · have h4 : freeBad z.first (endZ z) z.free i = true := h4
      rw [ascN_bad _ _ _ _ i h3 h4] at hk
      subst hk
      repeat ((conv => whnf); first | refine Cd.go ?_ | refine ⟨rfl, ?_⟩ | refine rq_dec ⟨.inl rfl, rfl⟩ ?_ | refine rq_dec rfl ?_ | refine ⟨Nat.le_of_ble_eq_true rfl, ?_⟩ | refine ⟨.inl rfl, ?_⟩ | refine ⟨fun _ => ⟨rfl, Nat.le_of_ble_eq_true rfl⟩, ?_⟩ | refine ⟨fun _ => Nat.le_of_ble_eq_true rfl, ?_⟩ | refine ⟨fun h => Bool.noConfusion h, ?_⟩)
      conv => whnf
      refine ⟨[], trivial, rfl, trivial, rfl, ?_⟩
      try subst hk
      repeat' (first | exact trivial | rfl | exact .inl rfl | exact .inr rfl | exact id | exact (fun h => Bool.noConfusion h) | refine And.intro ?_ ?_)
    have h4 : freeBad z.first (endZ z) z.free i = false := h4
    repeat ((conv => whnf); first | refine Cd.go ?_ | refine ⟨rfl, ?_⟩ | refine rq_dec ⟨.inl rfl, rfl⟩ ?_ | refine rq_dec rfl ?_ | refine ⟨Nat.le_of_ble_eq_true rfl, ?_⟩ | refine ⟨.inl rfl, ?_⟩ | refine ⟨fun _ => ⟨rfl, Nat.le_of_ble_eq_true rfl⟩, ?_⟩ | refine ⟨fun _ => Nat.le_of_ble_eq_true rfl, ?_⟩ | refine ⟨fun h => Bool.noConfusion h, ?_⟩)
    conv => whnf
    rw [wrapI (n := (i : Int) + 1) (by omega) (by omega), show ((i : Int) + 1) = ((i + 1 : Nat) : Int) by omega]
    refine ⟨i + 1, ⟨by omega, by simp only [ascN, hI2, h4]; rfl⟩, ?_, by show z.free.length - (i + 1) < z.free.length - i; omega⟩
    refine viewI [some 0] rfl rfl ?_ rfl ?_ rfl ?_
    repeat' (first | exact trivial | rfl | exact .inl rfl | exact .inr rfl | exact id | exact (fun h => Bool.noConfusion h) | refine And.intro ?_ ?_)
  have h3 : i = z.free.length := by simp at h3; omega
  rw [← h3, hI2] at hk
  subst hk
  repeat ((conv => whnf); first | refine Cd.go ?_ | refine ⟨rfl, ?_⟩ | refine rq_dec ⟨.inl rfl, rfl⟩ ?_ | refine rq_dec rfl ?_ | refine ⟨Nat.le_of_ble_eq_true rfl, ?_⟩ | refine ⟨.inl rfl, ?_⟩ | refine ⟨fun _ => ⟨rfl, Nat.le_of_ble_eq_true rfl⟩, ?_⟩ | refine ⟨fun _ => Nat.le_of_ble_eq_true rfl, ?_⟩ | refine ⟨fun h => Bool.noConfusion h, ?_⟩)
  conv => whnf
  refine ⟨[], trivial, rfl, trivial, rfl, ?_⟩
  try subst hk
  repeat' (first | exact trivial | rfl | exact .inl rfl | exact .inr rfl | exact id | exact (fun h => Bool.noConfusion h) | refine And.intro ?_ ?_)
end Go.Proofs.YtmhapcbjjpadnaaGreat

