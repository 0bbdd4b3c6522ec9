/- Functions of the library: Index, Contains, IndexFunc, ContainsFunc, Clone. -/
import Derived.Test.YtcifhjkodbaghaaB1
set_option linter.unusedSimpArgs false
set_option linter.unusedVariables false
namespace Go.Proofs.Ytcifhjkodbaghaa
open Go Go.Sk Go.RowKit

/- slices.Index[[]int,int] -/
def rc84 : RC :=
  (.seq
  (.reg [⟨(some 4), none, (.mv (.c (.int .i64 0)))⟩] [])
  (.seq
  (.seq
  (.reg [⟨(some 6), none, (.mv (.t 0))⟩,
    ⟨(some 7), none, (.len (.t 6))⟩,
    ⟨(some 8), none, (.mv (.c (.int .i64 0)))⟩] [6])
  (.block 0
   (.loop
    (.seq
    (.reg [⟨(some 9), none, (.bin .lss (.t 8) (.t 7))⟩] [])
    (.seq
    (.cond (.t 9)
     .skip
     (.exit 0))
    (.seq
    (.block 1
     (.seq
     (.reg [⟨(some 10), none, (.mv (.t 8))⟩,
       ⟨(some 5), none, (.mv (.t 10))⟩] [10])
     (.seq
     (.reg [⟨(some 11), none, (.mv (.t 1))⟩,
       ⟨(some 12), none, (.mv (.t 0))⟩,
       ⟨(some 13), none, (.mv (.t 5))⟩,
       ⟨(some 14), none, (.iaddr 1 (.t 12) (.t 13))⟩,
       ⟨(some 15), none, (.ld false 1 (.t 14))⟩,
       ⟨(some 16), none, (.bin .eql (.t 11) (.t 15))⟩] [11, 12, 13, 14, 15])
     (.cond (.t 16)
      (.seq
      (.reg [⟨(some 17), none, (.mv (.t 5))⟩,
        ⟨(some 4), none, (.mv (.t 17))⟩] [17])
      .ret)
      .skip))))
    (.reg [⟨(some 18), none, (.bin .add (.t 8) (.c (.int .i64 1)))⟩,
      ⟨(some 8), none, (.mv (.t 18))⟩] [18])))))))
  (.seq
  (.reg [⟨(some 4), none, (.mv (.c (.int .i64 (-1))))⟩] [])
  .ret)))
theorem rcq84 : resC Go.Proofs.Try.prog Go.Proofs.Try.f84.ntmps ((Go.Proofs.Try.f84.body).getD .skip) = some (strip rc84) := by kernel_rfl
def rv84 : List RV := [(.tmp 4)]
theorem rvq84 : Go.Proofs.Try.f84.results.toList.mapM (resRV Go.Proofs.Try.prog) = some rv84 := by kernel_rfl

/- slices.Contains[[]int,int] -/
def rc73 : RC :=
  (.seq
  (.reg [⟨(some 4), none, (.mv (.c (.bool false)))⟩] [])
  (.seq
  (.reg [⟨(some 5), none, (.mv (.t 0))⟩,
    ⟨(some 6), none, (.mv (.t 1))⟩,
    ⟨(some 7), none, (.call 84 [(.t 5), (.t 6)])⟩,
    ⟨(some 8), none, (.bin .geq (.t 7) (.c (.int .i64 0)))⟩,
    ⟨(some 4), none, (.mv (.t 8))⟩] [5, 6, 7, 8])
  .ret))
theorem rcq73 : resC Go.Proofs.Try.prog Go.Proofs.Try.f73.ntmps ((Go.Proofs.Try.f73.body).getD .skip) = some (strip rc73) := by kernel_rfl
def rv73 : List RV := [(.tmp 4)]
theorem rvq73 : Go.Proofs.Try.f73.results.toList.mapM (resRV Go.Proofs.Try.prog) = some rv73 := by kernel_rfl

/- slices.Clone[[]int,int] -/
def rc75 : RC :=
  (.seq
  (.reg [⟨(some 2), none, (.mv (.c (.lst 0 true [])))⟩] [])
  (.seq
  (.seq
  (.reg [⟨(some 3), none, (.mv (.t 0))⟩,
    ⟨(some 4), none, (.isnil false (.t 3))⟩] [3])
  (.cond (.t 4)
   (.seq
   (.reg [⟨(some 2), none, (.mv (.c (.lst 0 true [])))⟩] [])
   .ret)
   .skip))
  (.seq
  (.reg [⟨(some 5), none, (.bslice 1 [(.int .i64 0)] 0 [])⟩,
    ⟨(some 6), none, (.mv (.t 0))⟩,
    ⟨(some 7), none, (.app 1 8 (.t 5) (.t 6))⟩,
    ⟨(some 2), none, (.mv (.t 7))⟩] [5, 6, 7])
  .ret)))
theorem rcq75 : resC Go.Proofs.Try.prog Go.Proofs.Try.f75.ntmps ((Go.Proofs.Try.f75.body).getD .skip) = some (strip rc75) := by kernel_rfl
def rv75 : List RV := [(.tmp 2)]
theorem rvq75 : Go.Proofs.Try.f75.results.toList.mapM (resRV Go.Proofs.Try.prog) = some rv75 := by kernel_rfl

/- slices.Clone[[]pagecache/api.Zone,pagecache/api.Zone] -/
def rc77 : RC :=
  (.seq
  (.reg [⟨(some 2), none, (.mv (.c (.lst 0 true [])))⟩] [])
  (.seq
  (.seq
  (.reg [⟨(some 3), none, (.mv (.t 0))⟩,
    ⟨(some 4), none, (.isnil false (.t 3))⟩] [3])
  (.cond (.t 4)
   (.seq
   (.reg [⟨(some 2), none, (.mv (.c (.lst 0 true [])))⟩] [])
   .ret)
   .skip))
  (.seq
  (.reg [⟨(some 5), none, (.bslice 6 [(.int .i64 0), (.int .i64 0), (.int .i64 0), (.int .i64 0), (.int .i64 0), (.lst 0 true [])] 0 [])⟩,
    ⟨(some 6), none, (.mv (.t 0))⟩,
    ⟨(some 7), none, (.app 6 64 (.t 5) (.t 6))⟩,
    ⟨(some 2), none, (.mv (.t 7))⟩] [5, 6, 7])
  .ret)))
theorem rcq77 : resC Go.Proofs.Try.prog Go.Proofs.Try.f77.ntmps ((Go.Proofs.Try.f77.body).getD .skip) = some (strip rc77) := by kernel_rfl
def rv77 : List RV := [(.tmp 2)]
theorem rvq77 : Go.Proofs.Try.f77.results.toList.mapM (resRV Go.Proofs.Try.prog) = some rv77 := by kernel_rfl

/- slices.IndexFunc[[]pagecache/api.Zone,pagecache/api.Zone] -/
def rc57 : RC :=
  (.seq
  (.reg [⟨(some 4), none, (.mv (.c (.int .i64 0)))⟩] [])
  (.seq
  (.seq
  (.reg [⟨(some 6), none, (.mv (.t 0))⟩,
    ⟨(some 7), none, (.len (.t 6))⟩,
    ⟨(some 8), none, (.mv (.c (.int .i64 0)))⟩] [6])
  (.block 0
   (.loop
    (.seq
    (.reg [⟨(some 9), none, (.bin .lss (.t 8) (.t 7))⟩] [])
    (.seq
    (.cond (.t 9)
     .skip
     (.exit 0))
    (.seq
    (.block 1
     (.seq
     (.reg [⟨(some 10), none, (.mv (.t 8))⟩,
       ⟨(some 5), none, (.mv (.t 10))⟩] [10])
     (.seq
     (.reg [⟨(some 11), none, (.mv (.t 1))⟩,
       ⟨(some 12), none, (.mv (.t 0))⟩,
       ⟨(some 13), none, (.mv (.t 5))⟩,
       ⟨(some 14), none, (.iaddr 6 (.t 12) (.t 13))⟩,
       ⟨(some 15), none, (.ld true 6 (.t 14))⟩,
       ⟨(some 16), none, (.vcall (.t 11) [(.t 15)])⟩] [11, 12, 13, 14, 15])
     (.cond (.t 16)
      (.seq
      (.reg [⟨(some 17), none, (.mv (.t 5))⟩,
        ⟨(some 4), none, (.mv (.t 17))⟩] [17])
      .ret)
      .skip))))
    (.reg [⟨(some 18), none, (.bin .add (.t 8) (.c (.int .i64 1)))⟩,
      ⟨(some 8), none, (.mv (.t 18))⟩] [18])))))))
  (.seq
  (.reg [⟨(some 4), none, (.mv (.c (.int .i64 (-1))))⟩] [])
  .ret)))
theorem rcq57 : resC Go.Proofs.Try.prog Go.Proofs.Try.f57.ntmps ((Go.Proofs.Try.f57.body).getD .skip) = some (strip rc57) := by kernel_rfl
def rv57 : List RV := [(.tmp 4)]
theorem rvq57 : Go.Proofs.Try.f57.results.toList.mapM (resRV Go.Proofs.Try.prog) = some rv57 := by kernel_rfl

/- slices.ContainsFunc[[]pagecache/api.Zone,pagecache/api.Zone] -/
def rc63 : RC :=
  (.seq
  (.reg [⟨(some 4), none, (.mv (.c (.bool false)))⟩] [])
  (.seq
  (.reg [⟨(some 5), none, (.mv (.t 0))⟩,
    ⟨(some 6), none, (.mv (.t 1))⟩,
    ⟨(some 7), none, (.call 57 [(.t 5), (.t 6)])⟩,
    ⟨(some 8), none, (.bin .geq (.t 7) (.c (.int .i64 0)))⟩,
    ⟨(some 4), none, (.mv (.t 8))⟩] [5, 6, 7, 8])
  .ret))
theorem rcq63 : resC Go.Proofs.Try.prog Go.Proofs.Try.f63.ntmps ((Go.Proofs.Try.f63.body).getD .skip) = some (strip rc63) := by kernel_rfl
def rv63 : List RV := [(.tmp 4)]
theorem rvq63 : Go.Proofs.Try.f63.results.toList.mapM (resRV Go.Proofs.Try.prog) = some rv63 := by kernel_rfl

/- slices.IndexFunc[[]int,int] -/
def rc87 : RC :=
  (.seq
  (.reg [⟨(some 4), none, (.mv (.c (.int .i64 0)))⟩] [])
  (.seq
  (.seq
  (.reg [⟨(some 6), none, (.mv (.t 0))⟩,
    ⟨(some 7), none, (.len (.t 6))⟩,
    ⟨(some 8), none, (.mv (.c (.int .i64 0)))⟩] [6])
  (.block 0
   (.loop
    (.seq
    (.reg [⟨(some 9), none, (.bin .lss (.t 8) (.t 7))⟩] [])
    (.seq
    (.cond (.t 9)
     .skip
     (.exit 0))
    (.seq
    (.block 1
     (.seq
     (.reg [⟨(some 10), none, (.mv (.t 8))⟩,
       ⟨(some 5), none, (.mv (.t 10))⟩] [10])
     (.seq
     (.reg [⟨(some 11), none, (.mv (.t 1))⟩,
       ⟨(some 12), none, (.mv (.t 0))⟩,
       ⟨(some 13), none, (.mv (.t 5))⟩,
       ⟨(some 14), none, (.iaddr 1 (.t 12) (.t 13))⟩,
       ⟨(some 15), none, (.ld false 1 (.t 14))⟩,
       ⟨(some 16), none, (.vcall (.t 11) [(.t 15)])⟩] [11, 12, 13, 14, 15])
     (.cond (.t 16)
      (.seq
      (.reg [⟨(some 17), none, (.mv (.t 5))⟩,
        ⟨(some 4), none, (.mv (.t 17))⟩] [17])
      .ret)
      .skip))))
    (.reg [⟨(some 18), none, (.bin .add (.t 8) (.c (.int .i64 1)))⟩,
      ⟨(some 8), none, (.mv (.t 18))⟩] [18])))))))
  (.seq
  (.reg [⟨(some 4), none, (.mv (.c (.int .i64 (-1))))⟩] [])
  .ret)))
theorem rcq87 : resC Go.Proofs.Try.prog Go.Proofs.Try.f87.ntmps ((Go.Proofs.Try.f87.body).getD .skip) = some (strip rc87) := by kernel_rfl
def rv87 : List RV := [(.tmp 4)]
theorem rvq87 : Go.Proofs.Try.f87.results.toList.mapM (resRV Go.Proofs.Try.prog) = some rv87 := by kernel_rfl

/-- The first place at which p holds, or -1. -/
def idxF {α : Type} (p : α → Bool) : List α → Int
  | [] => -1
  | x :: r => bif p x then 0 else bif decide (idxF p r < 0) then -1 else idxF p r + 1
theorem idxF_in {α : Type} (p : α → Bool) : ∀ l : List α, -1 ≤ idxF p l ∧ idxF p l < l.length
  | [] => by simp [idxF]
  | x :: r => by
    have := idxF_in p r
    simp only [idxF, List.length_cons]
    cases p x <;> simp only [cond_true, cond_false]
    · by_cases h : idxF p r < 0 <;> simp [h] <;> omega
    · omega
theorem idxF_at {α : Type} (p : α → Bool) : ∀ (l : List α) (i : Nat) (h : i < l.length), (∀ j (hj : j < i), p (l[j]'(by omega)) = false) → p l[i] = true → idxF p l = i
  | [], i, h, _, _ => by simp at h
  | x :: r, 0, _, _, h2 => by simp only [List.getElem_cons_zero] at h2; simp [idxF, h2]
  | x :: r, i + 1, h, h1, h2 => by
    have hx : p x = false := by simpa using h1 0 (by omega)
    have ih := idxF_at p r i (by simpa using h) (fun j hj => by simpa using h1 (j + 1) (by omega)) (by simpa using h2)
    simp only [idxF, hx, cond_false, ih, show ¬ (i : Int) < 0 by omega, decide_false]
    omega
theorem idxF_none {α : Type} (p : α → Bool) : ∀ (l : List α), (∀ x ∈ l, p x = false) → idxF p l = -1
  | [], _ => rfl
  | x :: r, h => by
    have hx : p x = false := h x (by simp)
    have ih := idxF_none p r (fun y hy => h y (by simp [hy]))
    simp [idxF, hx, ih]
theorem idxF_neg {α : Type} (p : α → Bool) : ∀ (l : List α), idxF p l < 0 ↔ ∀ x ∈ l, p x = false
  | [] => by simp [idxF]
  | x :: r => by
    have ih := idxF_neg p r
    simp only [idxF, List.mem_cons, forall_eq_or_imp]
    cases hx : p x <;> simp only [cond_true, cond_false]
    · by_cases h : idxF p r < 0
      · simp only [h, decide_true, cond_true]; exact ⟨fun _ => ⟨trivial, ih.1 h⟩, fun _ => by omega⟩
      · simp only [h, decide_false, cond_false]; exact ⟨fun h' => absurd h' (by omega), fun h' => absurd (ih.2 h'.2) h⟩
    · exact ⟨fun h => absurd h (by omega), fun h => by cases h.1⟩
theorem idxF_spec {α : Type} (p : α → Bool) (l : List α) (h : 0 ≤ idxF p l) : ∃ (i : Nat) (hi : i < l.length), idxF p l = i ∧ p l[i] = true ∧ ∀ j (hj : j < i), p (l[j]'(by omega)) = false := by
  induction l with
  | nil => simp [idxF] at h
  | cons x r ih =>
    cases hx : p x with
    | true => exact ⟨0, by simp, by simp [idxF, hx], hx, fun j hj => by omega⟩
    | false =>
      have hr : 0 ≤ idxF p r := by
        apply Classical.byContradiction; intro hn
        simp [idxF, hx, show idxF p r < 0 by omega] at h
      obtain ⟨i, hi, e, h1, h2⟩ := ih hr
      refine ⟨i + 1, by simpa using hi, ?_, by simpa using h1, fun j hj => ?_⟩
      · simp only [idxF, hx, cond_false, e, show ¬ (i : Int) < 0 by omega, decide_false]; omega
      · cases j with
        | zero => exact hx
        | succ j => simpa using h2 j (by omega)
theorem FnC.lst_cases {f : FuncId} {ob0 ob1 : List Sk.Obj} {es : Nat} {t : Bool} {xs : List (List V)} {args : List V} {res : V} (h1 : xs ≠ [] → FnC Try.prog f ob0 (.lst es t xs :: args) res ob1)
    (h2 : xs = [] → ∀ (a : Option Addr) (cap : Nat), FnC Try.prog f ob0 (.val (.slice a 0 cap) :: args) res ob1) : FnC Try.prog f ob0 (.lst es t xs :: args) res ob1 := by
  by_cases h : xs = []
  · subst h
    intro U σ w cargs hR hl ha
    have hlt : 0 < cargs.size := by rw [hl]; simp
    have h0 := ha 0 _ _ rfl (Array.getElem?_eq_getElem hlt)
    generalize hv : cargs[0] = v at h0
    have hv' : cargs[0]? = some v := by rw [Array.getElem?_eq_getElem hlt, hv]
    cases h0 with
    | @lst _ _ _ _ a cap b o cv q1 q2 q3 q4 q5 q6 q7 =>
      refine h2 rfl a cap U σ w cargs hR (by simpa using hl) fun i x c hx hc => ?_
      cases i with
      | zero =>
        simp only [List.getElem?_cons_zero, Option.some.injEq] at hx
        subst hx
        rw [hv'] at hc
        obtain rfl := Option.some.inj hc
        exact .val _
      | succ i => exact ha (i + 1) x c (by simpa using hx) hc
  · exact h1 h
theorem ok84 (l : List Int) (t : Bool) (x : Int) (hl : (l.length : Int) < 2 ^ 62) : FnC Try.prog 84 [] [.lst 1 t (rowsI l), .int .i64 x] (.int .i64 (idxF (fun y => x == y) l)) [] := by
  refine fn_okC (ob0 := []) (rc := rc84) (rvs := rv84) Try.func84 rfl rcq84 rvq84 (show 2 ≤ _ by decide) ?_
  generalize hk : idxF (fun y => x == y) l = q
  repeat ((conv => whnf); first | refine Cd.seq ?_ | refine Cd.cut ?_ | refine Cd.reg ?_ | refine Cd.block ?_ | refine Cd.cond ?_ | refine Cd.dreg ?_ | refine Cd.skip ?_ | refine Cd.ret ?_ | refine Cd.exit ?_ | refine Cd.loop ?_ | refine ⟨rfl, ?_⟩ | refine ⟨Nat.le_of_ble_eq_true rfl, ?_⟩ | refine ⟨.inl rfl, ?_⟩ | refine ⟨fun h => Bool.noConfusion h, ?_⟩)
  conv => whnf
  rw [rowsI_len]
  refine ⟨Nat, fun i => i ≤ l.length ∧ ∀ j (hj : j < i) (h : j < l.length), (x == l[j]) = false, fun i => ⟨[(0, ⟨[], true, .lst 1 t (rowsI l)⟩), (1, ⟨[], true, .int .i64 x⟩), (4, ⟨[], true, .int .i64 0⟩), (7, ⟨[], true, .int .i64 (l.length : Int)⟩), (8, ⟨[], true, .int .i64 (i : Int)⟩)], [], 0⟩, fun i => l.length - i, ⟨0, ⟨by omega, fun j hj => by omega⟩, ?_⟩, fun i hI => ?_⟩
  · refine viewI [] rfl rfl ?_ rfl ?_ rfl ?_
    repeat' (first | exact trivial | rfl | exact .inl rfl | exact .inr rfl | exact id | exact (fun h => Bool.noConfusion h) | refine And.intro ?_ ?_)
  obtain ⟨hI1, hI2⟩ := hI
  repeat ((conv => whnf); first | refine Cd.seq ?_ | refine Cd.cut ?_ | refine Cd.reg ?_ | refine Cd.block ?_ | refine Cd.cond ?_ | refine Cd.dreg ?_ | refine Cd.skip ?_ | refine Cd.ret ?_ | refine Cd.exit ?_ | refine Cd.loop ?_ | refine ⟨rfl, ?_⟩ | refine ⟨Nat.le_of_ble_eq_true rfl, ?_⟩ | refine ⟨.inl rfl, ?_⟩ | refine ⟨fun h => Bool.noConfusion h, ?_⟩)
  conv => whnf
  refine ⟨fun h2 => ?_, fun h2 => ?_⟩ <;> try simp only [Bool.cond_true_left, Bool.cond_false_right, Bool.not_eq_true', Bool.not_eq_false', Bool.not_not, rowsI_len] at h2
  · have h2 : i < l.length := by simp at h2; omega
    repeat ((conv => whnf); first | refine Cd.seq ?_ | refine Cd.cut ?_ | refine Cd.reg ?_ | refine Cd.block ?_ | refine Cd.cond ?_ | refine Cd.dreg ?_ | refine Cd.skip ?_ | refine Cd.ret ?_ | refine Cd.exit ?_ | refine Cd.loop ?_ | refine ⟨rfl, ?_⟩ | refine ⟨Nat.le_of_ble_eq_true rfl, ?_⟩ | refine ⟨.inl rfl, ?_⟩ | refine ⟨fun h => Bool.noConfusion h, ?_⟩)
    conv => whnf
    refine ⟨fun _ => ⟨rfl, by omega, by rw [rowsI_len]; omega⟩, ?_⟩
    rw [Int.toNat_natCast, rowsI_get l i h2]
    repeat ((conv => whnf); first | refine Cd.seq ?_ | refine Cd.cut ?_ | refine Cd.reg ?_ | refine Cd.block ?_ | refine Cd.cond ?_ | refine Cd.dreg ?_ | refine Cd.skip ?_ | refine Cd.ret ?_ | refine Cd.exit ?_ | refine Cd.loop ?_ | refine ⟨rfl, ?_⟩ | refine ⟨Nat.le_of_ble_eq_true rfl, ?_⟩ | refine ⟨.inl rfl, ?_⟩ | refine ⟨fun h => Bool.noConfusion h, ?_⟩)
    conv => whnf
    refine ⟨fun h3 => ?_, fun h3 => ?_⟩ <;> try simp only [Bool.cond_true_left, Bool.cond_false_right, Bool.not_eq_true', Bool.not_eq_false', Bool.not_not, rowsI_len] at h3
    · have : q = i := by rw [← hk]; exact idxF_at _ l i h2 (fun j hj => hI2 j hj (by omega)) h3
      subst this
      repeat ((conv => whnf); first | refine Cd.seq ?_ | refine Cd.cut ?_ | refine Cd.reg ?_ | refine Cd.block ?_ | refine Cd.cond ?_ | refine Cd.dreg ?_ | refine Cd.skip ?_ | refine Cd.ret ?_ | refine Cd.exit ?_ | refine Cd.loop ?_ | refine ⟨rfl, ?_⟩ | refine ⟨Nat.le_of_ble_eq_true rfl, ?_⟩ | refine ⟨.inl rfl, ?_⟩ | refine ⟨fun h => Bool.noConfusion h, ?_⟩)
      conv => whnf
      refine ⟨[], ?_, rfl, trivial, rfl, ?_⟩
      · exact trivial
      try subst hk
      repeat' (first | exact trivial | rfl | exact .inl rfl | exact .inr rfl | exact id | exact (fun h => Bool.noConfusion h) | refine And.intro ?_ ?_)
    repeat ((conv => whnf); first | refine Cd.seq ?_ | refine Cd.cut ?_ | refine Cd.reg ?_ | refine Cd.block ?_ | refine Cd.cond ?_ | refine Cd.dreg ?_ | refine Cd.skip ?_ | refine Cd.ret ?_ | refine Cd.exit ?_ | refine Cd.loop ?_ | refine ⟨rfl, ?_⟩ | refine ⟨Nat.le_of_ble_eq_true rfl, ?_⟩ | refine ⟨.inl rfl, ?_⟩ | refine ⟨fun h => Bool.noConfusion h, ?_⟩)
    conv => whnf
    rw [wrapI (n := (i : Int) + 1) (by omega) (by omega), show ((i : Int) + 1) = ((i + 1 : Nat) : Int) by omega]
    refine ⟨i + 1, ⟨by omega, fun j hj h => ?_⟩, ?_, by show l.length - (i + 1) < l.length - i; omega⟩
    · by_cases e : j = i
      · subst e; exact h3
      · exact hI2 j (by omega) h
    refine viewI [] rfl rfl ?_ rfl ?_ rfl ?_
    repeat' (first | exact trivial | rfl | exact .inl rfl | exact .inr rfl | exact id | exact (fun h => Bool.noConfusion h) | refine And.intro ?_ ?_)
  have h2 : i = l.length := by simp at h2; omega
  have : q = -1 := by rw [← hk]; exact idxF_none _ l fun y hy => by obtain ⟨j, hj, rfl⟩ := List.getElem_of_mem hy; exact hI2 j (by omega) hj
  subst this
  repeat ((conv => whnf); first | refine Cd.seq ?_ | refine Cd.cut ?_ | refine Cd.reg ?_ | refine Cd.block ?_ | refine Cd.cond ?_ | refine Cd.dreg ?_ | refine Cd.skip ?_ | refine Cd.ret ?_ | refine Cd.exit ?_ | refine Cd.loop ?_ | refine ⟨rfl, ?_⟩ | refine ⟨Nat.le_of_ble_eq_true rfl, ?_⟩ | refine ⟨.inl rfl, ?_⟩ | refine ⟨fun h => Bool.noConfusion h, ?_⟩)
  conv => whnf
  refine ⟨[], ?_, rfl, trivial, rfl, ?_⟩
  · exact trivial
  try subst hk
  repeat' (first | exact trivial | rfl | exact .inl rfl | exact .inr rfl | exact id | exact (fun h => Bool.noConfusion h) | refine And.intro ?_ ?_)
theorem hasI (l : List Int) (x : Int) : decide (0 ≤ idxF (fun y => x == y) l) = decide (x ∈ l) := by
  rw [Bool.eq_iff_iff, decide_eq_true_eq, decide_eq_true_eq]
  have h := idxF_neg (fun y => x == y) l
  constructor
  · intro h0
    obtain ⟨i, hi, -, h1, -⟩ := idxF_spec _ l h0
    have : x = l[i] := by simpa using h1
    rw [this]; exact List.getElem_mem hi
  · intro hm
    apply Classical.byContradiction; intro hn
    have := h.1 (by omega) x hm
    simp at this
theorem ok73 (l : List Int) (t : Bool) (x : Int) (hl : (l.length : Int) < 2 ^ 62) : FnC Try.prog 73 [] [.lst 1 t (rowsI l), .int .i64 x] (.bool (decide (x ∈ l))) [] := by
  rw [← hasI]
  refine fn_okC (ob0 := []) (rc := rc73) (rvs := rv73) Try.func73 rfl rcq73 rvq73 (show 2 ≤ _ by decide) ?_
  repeat ((conv => whnf); first | refine Cd.seq ?_ | refine Cd.cut ?_ | refine Cd.reg ?_ | refine Cd.block ?_ | refine Cd.cond ?_ | refine Cd.dreg ?_ | refine Cd.skip ?_ | refine Cd.ret ?_ | refine Cd.exit ?_ | refine Cd.loop ?_ | refine ⟨rfl, ?_⟩ | refine ⟨Nat.le_of_ble_eq_true rfl, ?_⟩ | refine ⟨.inl rfl, ?_⟩ | refine ⟨fun h => Bool.noConfusion h, ?_⟩ | refine .inl ⟨_, fun _ => ⟨purA rfl, (by first | exact ok84 l t x hl)⟩, .inl rfl, ?_⟩)
  conv => whnf
  refine ⟨[], ?_, rfl, trivial, rfl, ?_⟩
  · exact trivial
  try subst hk
  repeat' (first | exact trivial | rfl | exact .inl rfl | exact .inr rfl | exact id | exact (fun h => Bool.noConfusion h) | refine And.intro ?_ ?_)
theorem ok75 (rows : List (List V)) (t : Bool) (hl : rows.length * 8 ≤ 140737488355328) : FnC Try.prog 75 [] [.lst 1 t rows] (.sl 0 0 rows.length) [.row 1 rows] := by
  refine FnC.lst_cases (fun hne => ?_) (fun he a cap => ?_)
  · obtain ⟨r, rs, rfl⟩ := List.exists_cons_of_ne_nil hne
    refine fn_okC (ob0 := []) (rc := rc75) (rvs := rv75) Try.func75 rfl rcq75 rvq75 (show 1 ≤ _ by decide) ?_
    repeat ((conv => whnf); first | refine Cd.seq ?_ | refine Cd.cut ?_ | refine Cd.reg ?_ | refine Cd.block ?_ | refine Cd.cond ?_ | refine Cd.dreg ?_ | refine Cd.skip ?_ | refine Cd.ret ?_ | refine Cd.exit ?_ | refine Cd.loop ?_ | refine ⟨rfl, ?_⟩ | refine ⟨Nat.le_of_ble_eq_true rfl, ?_⟩ | refine ⟨.inl rfl, ?_⟩ | refine ⟨fun h => Bool.noConfusion h, ?_⟩ | refine ⟨?_, fun h => Bool.noConfusion h⟩ | refine fun (_ : false = false) => ?_ | refine fun (_ : true = true) => ?_)
    conv => whnf
    refine ⟨by simp only [List.replicate_zero, List.length_nil, Nat.zero_add]; omega, by simp only [List.replicate_zero, List.length_nil, Nat.zero_add]; exact hl, ?_⟩
    repeat ((conv => whnf); first | refine Cd.seq ?_ | refine Cd.cut ?_ | refine Cd.reg ?_ | refine Cd.block ?_ | refine Cd.cond ?_ | refine Cd.dreg ?_ | refine Cd.skip ?_ | refine Cd.ret ?_ | refine Cd.exit ?_ | refine Cd.loop ?_ | refine ⟨rfl, ?_⟩ | refine ⟨Nat.le_of_ble_eq_true rfl, ?_⟩ | refine ⟨.inl rfl, ?_⟩ | refine ⟨fun h => Bool.noConfusion h, ?_⟩)
    conv => whnf
    try subst hk
    refine ⟨[some 1], ?_, rfl, ?_, rfl, ?_⟩
    all_goals repeat' (first | exact trivial | rfl | exact .inl rfl | exact .inr rfl | exact id | exact (fun h => Bool.noConfusion h) | refine And.intro ?_ ?_)
    simp
  · subst he
    cases a with
    | none =>
      refine fn_okC (ob0 := []) (rc := rc75) (rvs := rv75) Try.func75 rfl rcq75 rvq75 (show 1 ≤ _ by decide) ?_
      repeat ((conv => whnf); first | refine Cd.seq ?_ | refine Cd.cut ?_ | refine Cd.reg ?_ | refine Cd.block ?_ | refine Cd.cond ?_ | refine Cd.dreg ?_ | refine Cd.skip ?_ | refine Cd.ret ?_ | refine Cd.exit ?_ | refine Cd.loop ?_ | refine ⟨rfl, ?_⟩ | refine ⟨Nat.le_of_ble_eq_true rfl, ?_⟩ | refine ⟨.inl rfl, ?_⟩ | refine ⟨fun h => Bool.noConfusion h, ?_⟩ | refine ⟨?_, fun h => Bool.noConfusion h⟩ | refine fun (_ : false = false) => ?_ | refine fun (_ : true = true) => ?_)
      conv => whnf
      try subst hk
      refine ⟨[none], ?_, rfl, ?_, rfl, ?_⟩
      all_goals repeat' (first | exact trivial | rfl | exact .inl rfl | exact .inr rfl | exact id | exact (fun h => Bool.noConfusion h) | refine And.intro ?_ ?_)
    | some ad =>
      refine fn_okC (ob0 := []) (rc := rc75) (rvs := rv75) Try.func75 rfl rcq75 rvq75 (show 1 ≤ _ by decide) ?_
      repeat ((conv => whnf); first | refine Cd.seq ?_ | refine Cd.cut ?_ | refine Cd.reg ?_ | refine Cd.block ?_ | refine Cd.cond ?_ | refine Cd.dreg ?_ | refine Cd.skip ?_ | refine Cd.ret ?_ | refine Cd.exit ?_ | refine Cd.loop ?_ | refine ⟨rfl, ?_⟩ | refine ⟨Nat.le_of_ble_eq_true rfl, ?_⟩ | refine ⟨.inl rfl, ?_⟩ | refine ⟨fun h => Bool.noConfusion h, ?_⟩ | refine ⟨?_, fun h => Bool.noConfusion h⟩ | refine fun (_ : false = false) => ?_ | refine fun (_ : true = true) => ?_)
      conv => whnf
      refine ⟨.inr rfl, rfl, rfl, rfl, rfl, by simp, by simp, ?_⟩
      repeat ((conv => whnf); first | refine Cd.seq ?_ | refine Cd.cut ?_ | refine Cd.reg ?_ | refine Cd.block ?_ | refine Cd.cond ?_ | refine Cd.dreg ?_ | refine Cd.skip ?_ | refine Cd.ret ?_ | refine Cd.exit ?_ | refine Cd.loop ?_ | refine ⟨rfl, ?_⟩ | refine ⟨Nat.le_of_ble_eq_true rfl, ?_⟩ | refine ⟨.inl rfl, ?_⟩ | refine ⟨fun h => Bool.noConfusion h, ?_⟩)
      conv => whnf
      try subst hk
      refine ⟨[some 1], ?_, rfl, ?_, rfl, ?_⟩
      all_goals repeat' (first | exact trivial | rfl | exact .inl rfl | exact .inr rfl | exact id | exact (fun h => Bool.noConfusion h) | refine And.intro ?_ ?_)
theorem ok77 (rows : List (List V)) (t : Bool) (hl : rows.length * 64 ≤ 140737488355328) : FnC Try.prog 77 [] [.lst 6 t rows] (.sl 0 0 rows.length) [.row 6 rows] := by
  refine FnC.lst_cases (fun hne => ?_) (fun he a cap => ?_)
  · obtain ⟨r, rs, rfl⟩ := List.exists_cons_of_ne_nil hne
    refine fn_okC (ob0 := []) (rc := rc77) (rvs := rv77) Try.func77 rfl rcq77 rvq77 (show 1 ≤ _ by decide) ?_
    repeat ((conv => whnf); first | refine Cd.seq ?_ | refine Cd.cut ?_ | refine Cd.reg ?_ | refine Cd.block ?_ | refine Cd.cond ?_ | refine Cd.dreg ?_ | refine Cd.skip ?_ | refine Cd.ret ?_ | refine Cd.exit ?_ | refine Cd.loop ?_ | refine ⟨rfl, ?_⟩ | refine ⟨Nat.le_of_ble_eq_true rfl, ?_⟩ | refine ⟨.inl rfl, ?_⟩ | refine ⟨fun h => Bool.noConfusion h, ?_⟩ | refine ⟨?_, fun h => Bool.noConfusion h⟩ | refine fun (_ : false = false) => ?_ | refine fun (_ : true = true) => ?_)
    conv => whnf
    refine ⟨by simp only [List.replicate_zero, List.length_nil, Nat.zero_add]; omega, by simp only [List.replicate_zero, List.length_nil, Nat.zero_add]; exact hl, ?_⟩
    repeat ((conv => whnf); first | refine Cd.seq ?_ | refine Cd.cut ?_ | refine Cd.reg ?_ | refine Cd.block ?_ | refine Cd.cond ?_ | refine Cd.dreg ?_ | refine Cd.skip ?_ | refine Cd.ret ?_ | refine Cd.exit ?_ | refine Cd.loop ?_ | refine ⟨rfl, ?_⟩ | refine ⟨Nat.le_of_ble_eq_true rfl, ?_⟩ | refine ⟨.inl rfl, ?_⟩ | refine ⟨fun h => Bool.noConfusion h, ?_⟩)
    conv => whnf
    try subst hk
    refine ⟨[some 1], ?_, rfl, ?_, rfl, ?_⟩
    all_goals repeat' (first | exact trivial | rfl | exact .inl rfl | exact .inr rfl | exact id | exact (fun h => Bool.noConfusion h) | refine And.intro ?_ ?_)
    simp
  · subst he
    cases a with
    | none =>
      refine fn_okC (ob0 := []) (rc := rc77) (rvs := rv77) Try.func77 rfl rcq77 rvq77 (show 1 ≤ _ by decide) ?_
      repeat ((conv => whnf); first | refine Cd.seq ?_ | refine Cd.cut ?_ | refine Cd.reg ?_ | refine Cd.block ?_ | refine Cd.cond ?_ | refine Cd.dreg ?_ | refine Cd.skip ?_ | refine Cd.ret ?_ | refine Cd.exit ?_ | refine Cd.loop ?_ | refine ⟨rfl, ?_⟩ | refine ⟨Nat.le_of_ble_eq_true rfl, ?_⟩ | refine ⟨.inl rfl, ?_⟩ | refine ⟨fun h => Bool.noConfusion h, ?_⟩ | refine ⟨?_, fun h => Bool.noConfusion h⟩ | refine fun (_ : false = false) => ?_ | refine fun (_ : true = true) => ?_)
      conv => whnf
      try subst hk
      refine ⟨[none], ?_, rfl, ?_, rfl, ?_⟩
      all_goals repeat' (first | exact trivial | rfl | exact .inl rfl | exact .inr rfl | exact id | exact (fun h => Bool.noConfusion h) | refine And.intro ?_ ?_)
    | some ad =>
      refine fn_okC (ob0 := []) (rc := rc77) (rvs := rv77) Try.func77 rfl rcq77 rvq77 (show 1 ≤ _ by decide) ?_
      repeat ((conv => whnf); first | refine Cd.seq ?_ | refine Cd.cut ?_ | refine Cd.reg ?_ | refine Cd.block ?_ | refine Cd.cond ?_ | refine Cd.dreg ?_ | refine Cd.skip ?_ | refine Cd.ret ?_ | refine Cd.exit ?_ | refine Cd.loop ?_ | refine ⟨rfl, ?_⟩ | refine ⟨Nat.le_of_ble_eq_true rfl, ?_⟩ | refine ⟨.inl rfl, ?_⟩ | refine ⟨fun h => Bool.noConfusion h, ?_⟩ | refine ⟨?_, fun h => Bool.noConfusion h⟩ | refine fun (_ : false = false) => ?_ | refine fun (_ : true = true) => ?_)
      conv => whnf
      refine ⟨.inr rfl, rfl, rfl, rfl, rfl, by simp, by simp, ?_⟩
      repeat ((conv => whnf); first | refine Cd.seq ?_ | refine Cd.cut ?_ | refine Cd.reg ?_ | refine Cd.block ?_ | refine Cd.cond ?_ | refine Cd.dreg ?_ | refine Cd.skip ?_ | refine Cd.ret ?_ | refine Cd.exit ?_ | refine Cd.loop ?_ | refine ⟨rfl, ?_⟩ | refine ⟨Nat.le_of_ble_eq_true rfl, ?_⟩ | refine ⟨.inl rfl, ?_⟩ | refine ⟨fun h => Bool.noConfusion h, ?_⟩)
      conv => whnf
      try subst hk
      refine ⟨[some 1], ?_, rfl, ?_, rfl, ?_⟩
      all_goals repeat' (first | exact trivial | rfl | exact .inl rfl | exact .inr rfl | exact id | exact (fun h => Bool.noConfusion h) | refine And.intro ?_ ?_)
/-! Closures: what they hold is flat. -/
theorem vw1_flat {S : Store} {ids : List (Option Nat)} {c : V} (h : flatV c = true) : vw1 S ids c c := by
  cases c <;> first | exact ⟨rfl, rfl⟩ | rfl | exact ⟨.inl rfl, id, rfl⟩ | (simp [flatV] at h)
theorem all2_flat {S : Store} {ids : List (Option Nat)} : ∀ {l : List V}, l.all flatV = true → all2 (vw1 S ids) l l
  | [], _ => trivial
  | c :: r, h => by
    simp only [List.all_cons, Bool.and_eq_true] at h
    exact ⟨vw1_flat h.1, all2_flat h.2⟩
theorem pur1_flat {S : Store} {c : V} (h : flatV c = true) : pur1 S c = c := by
  cases c <;> first | rfl | (simp [flatV] at h)
def flat2 : V → Bool
  | .agg cs => cs.all flatV
  | v => flatV v
theorem map_flat {S : Store} : ∀ {l : List V}, l.all flatV = true → l.map (pur1 S) = l
  | [], _ => rfl
  | c :: r, h => by
    simp only [List.all_cons, Bool.and_eq_true] at h
    rw [List.map_cons, pur1_flat h.1, map_flat h.2]
theorem pur_flat2 {S : Store} {c : V} (h : flat2 c = true) : pur S c = c := by
  by_cases ha : ∃ cs, c = .agg cs
  · obtain ⟨cs, rfl⟩ := ha
    show V.agg (cs.map (pur1 S)) = _
    rw [map_flat h]
  · cases c <;> first | exact absurd ⟨_, rfl⟩ ha | rfl | (simp [flat2, flatV] at h)
theorem purOK_flat {S : Store} {c : V} (h : flatV c = true) : purOK1 S c := by
  cases c <;> first | exact trivial | (simp [flatV] at h)
theorem purOK_flat2 {S : Store} {c : V} (h : flat2 c = true) : purOK S c := by
  cases c with
  | agg cs => intro x hx; exact purOK_flat (List.all_eq_true.1 h x hx)
  | _ => first | exact trivial | (simp [flat2, flatV] at h)
theorem flatV_2 {c : V} (h : flatV c = true) : flat2 c = true := by
  cases c <;> first | rfl | exact h | (simp [flatV] at h)
theorem vpcall {S : Store} {g : FuncId} {caps : List V} {x res : V} {gc : Bool} {K : V → Prop} (hcap : caps.all flatV = true) (hx : flat2 x = true) (hp : FnC Try.prog g [] (x :: caps) res []) (hs : solidV res = true) (h : K res) :
    pcallK Try.prog g (x :: caps) S gc K := by
  refine ⟨res, fun _ => ⟨fun v hv => ?_, ?_⟩, .inr hs, h⟩
  · rcases List.mem_cons.1 hv with rfl | hv
    · exact purOK_flat2 hx
    · exact purOK_flat2 (flatV_2 (List.all_eq_true.1 hcap v hv))
  · have : (x :: caps).map (pur S) = x :: caps := by
      rw [List.map_cons, pur_flat2 hx]
      congr 1
      rw [← List.map_id' caps, List.map_map]
      apply List.map_congr_left
      intro c hc
      exact pur_flat2 (flatV_2 (List.all_eq_true.1 hcap c hc))
    rw [this]; exact hp
/-- IndexFunc at numbers: the closure is said by what it answers. -/
theorem ok87 (l : List Int) (t : Bool) (g : FuncId) (caps : List V) (p : Int → Bool) (hg : Callable Try.prog g) (hcap : caps.all flatV = true) (hp : ∀ x, FnC Try.prog g [] (.int .i64 x :: caps) (.bool (p x)) []) (hl : (l.length : Int) < 2 ^ 62) :
    FnC Try.prog 87 [] [.lst 1 t (rowsI l), .fn g caps] (.int .i64 (idxF p l)) [] := by
  refine fn_okC (ob0 := []) (rc := rc87) (rvs := rv87) Try.func87 rfl rcq87 rvq87 (show 2 ≤ _ by decide) ?_
  generalize hk : idxF p l = q
  repeat ((conv => whnf); first | refine Cd.seq ?_ | refine Cd.cut ?_ | refine Cd.reg ?_ | refine Cd.block ?_ | refine Cd.cond ?_ | refine Cd.dreg ?_ | refine Cd.skip ?_ | refine Cd.ret ?_ | refine Cd.exit ?_ | refine Cd.loop ?_ | refine ⟨rfl, ?_⟩ | refine ⟨Nat.le_of_ble_eq_true rfl, ?_⟩ | refine ⟨.inl rfl, ?_⟩ | refine ⟨fun h => Bool.noConfusion h, ?_⟩)
  conv => whnf
  rw [rowsI_len]
  refine ⟨Nat, fun i => i ≤ l.length ∧ ∀ j (hj : j < i) (h : j < l.length), p l[j] = false, fun i => ⟨[(0, ⟨[], true, .lst 1 t (rowsI l)⟩), (1, ⟨[], true, .fn g caps⟩), (4, ⟨[], true, .int .i64 0⟩), (7, ⟨[], true, .int .i64 (l.length : Int)⟩), (8, ⟨[], true, .int .i64 (i : Int)⟩)], [], 0⟩, fun i => l.length - i, ⟨0, ⟨by omega, fun j hj => by omega⟩, ?_⟩, fun i hI => ?_⟩
  · refine viewI [] rfl rfl ?_ rfl ?_ rfl ?_
    repeat' (first | exact trivial | rfl | exact .inl rfl | exact .inr rfl | exact id | exact (fun h => Bool.noConfusion h) | refine And.intro ?_ ?_)
    exact all2_flat hcap
  obtain ⟨hI1, hI2⟩ := hI
  repeat ((conv => whnf); first | refine Cd.seq ?_ | refine Cd.cut ?_ | refine Cd.reg ?_ | refine Cd.block ?_ | refine Cd.cond ?_ | refine Cd.dreg ?_ | refine Cd.skip ?_ | refine Cd.ret ?_ | refine Cd.exit ?_ | refine Cd.loop ?_ | refine ⟨rfl, ?_⟩ | refine ⟨Nat.le_of_ble_eq_true rfl, ?_⟩ | refine ⟨.inl rfl, ?_⟩ | refine ⟨fun h => Bool.noConfusion h, ?_⟩)
  conv => whnf
  refine ⟨fun h2 => ?_, fun h2 => ?_⟩ <;> try simp only [Bool.cond_true_left, Bool.cond_false_right, Bool.not_eq_true', Bool.not_eq_false', Bool.not_not, rowsI_len] at h2
  · have h2 : i < l.length := by simp at h2; omega
    repeat ((conv => whnf); first | refine Cd.seq ?_ | refine Cd.cut ?_ | refine Cd.reg ?_ | refine Cd.block ?_ | refine Cd.cond ?_ | refine Cd.dreg ?_ | refine Cd.skip ?_ | refine Cd.ret ?_ | refine Cd.exit ?_ | refine Cd.loop ?_ | refine ⟨rfl, ?_⟩ | refine ⟨Nat.le_of_ble_eq_true rfl, ?_⟩ | refine ⟨.inl rfl, ?_⟩ | refine ⟨fun h => Bool.noConfusion h, ?_⟩)
    conv => whnf
    refine ⟨fun _ => ⟨rfl, by omega, by rw [rowsI_len]; omega⟩, ?_⟩
    rw [Int.toNat_natCast, rowsI_get l i h2]
    repeat ((conv => whnf); first | refine Cd.seq ?_ | refine Cd.cut ?_ | refine Cd.reg ?_ | refine Cd.block ?_ | refine Cd.cond ?_ | refine Cd.dreg ?_ | refine Cd.skip ?_ | refine Cd.ret ?_ | refine Cd.exit ?_ | refine Cd.loop ?_ | refine ⟨rfl, ?_⟩ | refine ⟨Nat.le_of_ble_eq_true rfl, ?_⟩ | refine ⟨.inl rfl, ?_⟩ | refine ⟨fun h => Bool.noConfusion h, ?_⟩)
    conv => whnf
    refine ⟨hg, .inl (vpcall hcap rfl (hp _) rfl ?_)⟩
    repeat ((conv => whnf); first | refine Cd.seq ?_ | refine Cd.cut ?_ | refine Cd.reg ?_ | refine Cd.block ?_ | refine Cd.cond ?_ | refine Cd.dreg ?_ | refine Cd.skip ?_ | refine Cd.ret ?_ | refine Cd.exit ?_ | refine Cd.loop ?_ | refine ⟨rfl, ?_⟩ | refine ⟨Nat.le_of_ble_eq_true rfl, ?_⟩ | refine ⟨.inl rfl, ?_⟩ | refine ⟨fun h => Bool.noConfusion h, ?_⟩)
    conv => whnf
    refine ⟨fun h3 => ?_, fun h3 => ?_⟩ <;> try simp only [Bool.cond_true_left, Bool.cond_false_right, Bool.not_eq_true', Bool.not_eq_false', Bool.not_not, rowsI_len] at h3
    · have : q = i := by rw [← hk]; exact idxF_at _ l i h2 (fun j hj => hI2 j hj (by omega)) h3
      subst this
      repeat ((conv => whnf); first | refine Cd.seq ?_ | refine Cd.cut ?_ | refine Cd.reg ?_ | refine Cd.block ?_ | refine Cd.cond ?_ | refine Cd.dreg ?_ | refine Cd.skip ?_ | refine Cd.ret ?_ | refine Cd.exit ?_ | refine Cd.loop ?_ | refine ⟨rfl, ?_⟩ | refine ⟨Nat.le_of_ble_eq_true rfl, ?_⟩ | refine ⟨.inl rfl, ?_⟩ | refine ⟨fun h => Bool.noConfusion h, ?_⟩)
      conv => whnf
      refine ⟨[], ?_, rfl, trivial, rfl, ?_⟩
      · exact trivial
      try subst hk
      repeat' (first | exact trivial | rfl | exact .inl rfl | exact .inr rfl | exact id | exact (fun h => Bool.noConfusion h) | refine And.intro ?_ ?_)
    repeat ((conv => whnf); first | refine Cd.seq ?_ | refine Cd.cut ?_ | refine Cd.reg ?_ | refine Cd.block ?_ | refine Cd.cond ?_ | refine Cd.dreg ?_ | refine Cd.skip ?_ | refine Cd.ret ?_ | refine Cd.exit ?_ | refine Cd.loop ?_ | refine ⟨rfl, ?_⟩ | refine ⟨Nat.le_of_ble_eq_true rfl, ?_⟩ | refine ⟨.inl rfl, ?_⟩ | refine ⟨fun h => Bool.noConfusion h, ?_⟩)
    conv => whnf
    rw [wrapI (n := (i : Int) + 1) (by omega) (by omega), show ((i : Int) + 1) = ((i + 1 : Nat) : Int) by omega]
    refine ⟨i + 1, ⟨by omega, fun j hj h => ?_⟩, ?_, by show l.length - (i + 1) < l.length - i; omega⟩
    · by_cases e : j = i
      · subst e; exact h3
      · exact hI2 j (by omega) h
    refine viewI [] rfl rfl ?_ rfl ?_ rfl ?_
    repeat' (first | exact trivial | rfl | exact .inl rfl | exact .inr rfl | exact id | exact (fun h => Bool.noConfusion h) | refine And.intro ?_ ?_)
    exact all2_flat hcap
  have h2 : i = l.length := by simp at h2; omega
  have : q = -1 := by rw [← hk]; exact idxF_none _ l fun y hy => by obtain ⟨j, hj, rfl⟩ := List.getElem_of_mem hy; exact hI2 j (by omega) hj
  subst this
  repeat ((conv => whnf); first | refine Cd.seq ?_ | refine Cd.cut ?_ | refine Cd.reg ?_ | refine Cd.block ?_ | refine Cd.cond ?_ | refine Cd.dreg ?_ | refine Cd.skip ?_ | refine Cd.ret ?_ | refine Cd.exit ?_ | refine Cd.loop ?_ | refine ⟨rfl, ?_⟩ | refine ⟨Nat.le_of_ble_eq_true rfl, ?_⟩ | refine ⟨.inl rfl, ?_⟩ | refine ⟨fun h => Bool.noConfusion h, ?_⟩)
  conv => whnf
  refine ⟨[], ?_, rfl, trivial, rfl, ?_⟩
  · exact trivial
  try subst hk
  repeat' (first | exact trivial | rfl | exact .inl rfl | exact .inr rfl | exact id | exact (fun h => Bool.noConfusion h) | refine And.intro ?_ ?_)
/-- A zone; 'ex' says whether its list of free frames has just the room it needs. -/
structure Zn where
  first : Int
  size : Int
  min : Int
  low : Int
  high : Int
  free : List Int
  ex : Bool
def Zn.c (z : Zn) : List V := [.int .i64 z.first, .int .i64 z.size, .int .i64 z.min, .int .i64 z.low, .int .i64 z.high, .lst 1 z.ex (rowsI z.free)]
def zeroZ : Zn := ⟨0, 0, 0, 0, 0, [], true⟩
def rowsZ (L : List Zn) : List (List V) := L.map Zn.c
theorem rowsZ_len (L : List Zn) : (rowsZ L).length = L.length := by simp [rowsZ]
theorem rowsZ_get (L : List Zn) (i : Nat) (h : i < L.length) : (rowsZ L).getD i [] = (L[i]'h).c := by
  simp [rowsZ, List.getD_eq_getElem?_getD, h]
theorem ok57 (l : List Zn) (t : Bool) (g : FuncId) (caps : List V) (p : Zn → Bool) (hg : Callable Try.prog g) (hcap : caps.all flatV = true) (hp : ∀ x : Zn, FnC Try.prog g [] (.agg x.c :: caps) (.bool (p x)) []) (hl : (l.length : Int) < 2 ^ 62) :
    FnC Try.prog 57 [] [.lst 6 t (rowsZ l), .fn g caps] (.int .i64 (idxF p l)) [] := by
  refine fn_okC (ob0 := []) (rc := rc57) (rvs := rv57) Try.func57 rfl rcq57 rvq57 (show 2 ≤ _ by decide) ?_
  generalize hk : idxF p l = q
  repeat ((conv => whnf); first | refine Cd.seq ?_ | refine Cd.cut ?_ | refine Cd.reg ?_ | refine Cd.block ?_ | refine Cd.cond ?_ | refine Cd.dreg ?_ | refine Cd.skip ?_ | refine Cd.ret ?_ | refine Cd.exit ?_ | refine Cd.loop ?_ | refine ⟨rfl, ?_⟩ | refine ⟨Nat.le_of_ble_eq_true rfl, ?_⟩ | refine ⟨.inl rfl, ?_⟩ | refine ⟨fun h => Bool.noConfusion h, ?_⟩)
  conv => whnf
  rw [rowsZ_len]
  refine ⟨Nat, fun i => i ≤ l.length ∧ ∀ j (hj : j < i) (h : j < l.length), p l[j] = false, fun i => ⟨[(0, ⟨[], true, .lst 6 t (rowsZ l)⟩), (1, ⟨[], true, .fn g caps⟩), (4, ⟨[], true, .int .i64 0⟩), (7, ⟨[], true, .int .i64 (l.length : Int)⟩), (8, ⟨[], true, .int .i64 (i : Int)⟩)], [], 0⟩, fun i => l.length - i, ⟨0, ⟨by omega, fun j hj => by omega⟩, ?_⟩, fun i hI => ?_⟩
  · refine viewI [] rfl rfl ?_ rfl ?_ rfl ?_
    repeat' (first | exact trivial | rfl | exact .inl rfl | exact .inr rfl | exact id | exact (fun h => Bool.noConfusion h) | refine And.intro ?_ ?_)
    exact all2_flat hcap
  obtain ⟨hI1, hI2⟩ := hI
  repeat ((conv => whnf); first | refine Cd.seq ?_ | refine Cd.cut ?_ | refine Cd.reg ?_ | refine Cd.block ?_ | refine Cd.cond ?_ | refine Cd.dreg ?_ | refine Cd.skip ?_ | refine Cd.ret ?_ | refine Cd.exit ?_ | refine Cd.loop ?_ | refine ⟨rfl, ?_⟩ | refine ⟨Nat.le_of_ble_eq_true rfl, ?_⟩ | refine ⟨.inl rfl, ?_⟩ | refine ⟨fun h => Bool.noConfusion h, ?_⟩)
  conv => whnf
  refine ⟨fun h2 => ?_, fun h2 => ?_⟩ <;> try simp only [Bool.cond_true_left, Bool.cond_false_right, Bool.not_eq_true', Bool.not_eq_false', Bool.not_not, rowsI_len] at h2
  · have h2 : i < l.length := by simp at h2; omega
    repeat ((conv => whnf); first | refine Cd.seq ?_ | refine Cd.cut ?_ | refine Cd.reg ?_ | refine Cd.block ?_ | refine Cd.cond ?_ | refine Cd.dreg ?_ | refine Cd.skip ?_ | refine Cd.ret ?_ | refine Cd.exit ?_ | refine Cd.loop ?_ | refine ⟨rfl, ?_⟩ | refine ⟨Nat.le_of_ble_eq_true rfl, ?_⟩ | refine ⟨.inl rfl, ?_⟩ | refine ⟨fun h => Bool.noConfusion h, ?_⟩)
    conv => whnf
    refine ⟨fun _ => ⟨rfl, by omega, by rw [rowsZ_len]; omega⟩, ?_⟩
    rw [Int.toNat_natCast, rowsZ_get l i h2]
    repeat ((conv => whnf); first | refine Cd.seq ?_ | refine Cd.cut ?_ | refine Cd.reg ?_ | refine Cd.block ?_ | refine Cd.cond ?_ | refine Cd.dreg ?_ | refine Cd.skip ?_ | refine Cd.ret ?_ | refine Cd.exit ?_ | refine Cd.loop ?_ | refine ⟨rfl, ?_⟩ | refine ⟨Nat.le_of_ble_eq_true rfl, ?_⟩ | refine ⟨.inl rfl, ?_⟩ | refine ⟨fun h => Bool.noConfusion h, ?_⟩)
    conv => whnf
    refine ⟨hg, .inl (vpcall hcap rfl (hp _) rfl ?_)⟩
    repeat ((conv => whnf); first | refine Cd.seq ?_ | refine Cd.cut ?_ | refine Cd.reg ?_ | refine Cd.block ?_ | refine Cd.cond ?_ | refine Cd.dreg ?_ | refine Cd.skip ?_ | refine Cd.ret ?_ | refine Cd.exit ?_ | refine Cd.loop ?_ | refine ⟨rfl, ?_⟩ | refine ⟨Nat.le_of_ble_eq_true rfl, ?_⟩ | refine ⟨.inl rfl, ?_⟩ | refine ⟨fun h => Bool.noConfusion h, ?_⟩)
    conv => whnf
    refine ⟨fun h3 => ?_, fun h3 => ?_⟩ <;> try simp only [Bool.cond_true_left, Bool.cond_false_right, Bool.not_eq_true', Bool.not_eq_false', Bool.not_not, rowsI_len] at h3
    · have : q = i := by rw [← hk]; exact idxF_at _ l i h2 (fun j hj => hI2 j hj (by omega)) h3
      subst this
      repeat ((conv => whnf); first | refine Cd.seq ?_ | refine Cd.cut ?_ | refine Cd.reg ?_ | refine Cd.block ?_ | refine Cd.cond ?_ | refine Cd.dreg ?_ | refine Cd.skip ?_ | refine Cd.ret ?_ | refine Cd.exit ?_ | refine Cd.loop ?_ | refine ⟨rfl, ?_⟩ | refine ⟨Nat.le_of_ble_eq_true rfl, ?_⟩ | refine ⟨.inl rfl, ?_⟩ | refine ⟨fun h => Bool.noConfusion h, ?_⟩)
      conv => whnf
      refine ⟨[], ?_, rfl, trivial, rfl, ?_⟩
      · exact trivial
      try subst hk
      repeat' (first | exact trivial | rfl | exact .inl rfl | exact .inr rfl | exact id | exact (fun h => Bool.noConfusion h) | refine And.intro ?_ ?_)
    repeat ((conv => whnf); first | refine Cd.seq ?_ | refine Cd.cut ?_ | refine Cd.reg ?_ | refine Cd.block ?_ | refine Cd.cond ?_ | refine Cd.dreg ?_ | refine Cd.skip ?_ | refine Cd.ret ?_ | refine Cd.exit ?_ | refine Cd.loop ?_ | refine ⟨rfl, ?_⟩ | refine ⟨Nat.le_of_ble_eq_true rfl, ?_⟩ | refine ⟨.inl rfl, ?_⟩ | refine ⟨fun h => Bool.noConfusion h, ?_⟩)
    conv => whnf
    rw [wrapI (n := (i : Int) + 1) (by omega) (by omega), show ((i : Int) + 1) = ((i + 1 : Nat) : Int) by omega]
    refine ⟨i + 1, ⟨by omega, fun j hj h => ?_⟩, ?_, by show l.length - (i + 1) < l.length - i; omega⟩
    · by_cases e : j = i
      · subst e; exact h3
      · exact hI2 j (by omega) h
    refine viewI [] rfl rfl ?_ rfl ?_ rfl ?_
    repeat' (first | exact trivial | rfl | exact .inl rfl | exact .inr rfl | exact id | exact (fun h => Bool.noConfusion h) | refine And.intro ?_ ?_)
    exact all2_flat hcap
  have h2 : i = l.length := by simp at h2; omega
  have : q = -1 := by rw [← hk]; exact idxF_none _ l fun y hy => by obtain ⟨j, hj, rfl⟩ := List.getElem_of_mem hy; exact hI2 j (by omega) hj
  subst this
  repeat ((conv => whnf); first | refine Cd.seq ?_ | refine Cd.cut ?_ | refine Cd.reg ?_ | refine Cd.block ?_ | refine Cd.cond ?_ | refine Cd.dreg ?_ | refine Cd.skip ?_ | refine Cd.ret ?_ | refine Cd.exit ?_ | refine Cd.loop ?_ | refine ⟨rfl, ?_⟩ | refine ⟨Nat.le_of_ble_eq_true rfl, ?_⟩ | refine ⟨.inl rfl, ?_⟩ | refine ⟨fun h => Bool.noConfusion h, ?_⟩)
  conv => whnf
  refine ⟨[], ?_, rfl, trivial, rfl, ?_⟩
  · exact trivial
  try subst hk
  repeat' (first | exact trivial | rfl | exact .inl rfl | exact .inr rfl | exact id | exact (fun h => Bool.noConfusion h) | refine And.intro ?_ ?_)
theorem ok63 (l : List Zn) (t : Bool) (g : FuncId) (p : Zn → Bool) (hg : Callable Try.prog g) (hp : ∀ x : Zn, FnC Try.prog g [] [.agg x.c] (.bool (p x)) []) (hl : (l.length : Int) < 2 ^ 62) :
    FnC Try.prog 63 [] [.lst 6 t (rowsZ l), .fn g []] (.bool (decide (0 ≤ idxF p l))) [] := by
  refine fn_okC (ob0 := []) (rc := rc63) (rvs := rv63) Try.func63 rfl rcq63 rvq63 (show 2 ≤ _ by decide) ?_
  repeat ((conv => whnf); first | refine Cd.seq ?_ | refine Cd.cut ?_ | refine Cd.reg ?_ | refine Cd.block ?_ | refine Cd.cond ?_ | refine Cd.dreg ?_ | refine Cd.skip ?_ | refine Cd.ret ?_ | refine Cd.exit ?_ | refine Cd.loop ?_ | refine ⟨rfl, ?_⟩ | refine ⟨Nat.le_of_ble_eq_true rfl, ?_⟩ | refine ⟨.inl rfl, ?_⟩ | refine ⟨fun h => Bool.noConfusion h, ?_⟩ | refine .inl ⟨_, fun _ => ⟨purA rfl, (by first | exact ok57 l t g [] p hg rfl hp hl)⟩, .inl rfl, ?_⟩)
  conv => whnf
  refine ⟨[], ?_, rfl, trivial, rfl, ?_⟩
  · exact trivial
  try subst hk
  repeat' (first | exact trivial | rfl | exact .inl rfl | exact .inr rfl | exact id | exact (fun h => Bool.noConfusion h) | refine And.intro ?_ ?_)
end Go.Proofs.Ytcifhjkodbaghaa
