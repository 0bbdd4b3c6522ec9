/- Stream: ints, Same: comparing lists. -/
import Derived.Test.YteelckbeekgfiaaDoorW6
import Derived.Test.YteelckbeekgfiaaDoorT2
set_option linter.unusedSimpArgs false
set_option linter.unusedVariables false
namespace Go.Proofs.YteelckbeekgfiaaDoor
open Go Go.Sk Go.RowKit

/- pagecache/pagecachelaw07.ints -/
def rc13 : RC :=
  (.seq
  (.reg [⟨(some 4), none, (.mv (.c (.bool false)))⟩] [])
  (.seq
  (.seq
  (.reg [⟨(some 6), none, (.mv (.t 0))⟩,
    ⟨(some 7), none, (.len (.t 6))⟩,
    ⟨(some 8), none, (.mv (.t 1))⟩,
    ⟨(some 9), none, (.len (.t 8))⟩,
    ⟨(some 10), none, (.bin .neq (.t 7) (.t 9))⟩] [6, 7, 8, 9])
  (.cond (.t 10)
   (.seq
   (.reg [⟨(some 4), none, (.mv (.c (.bool false)))⟩] [])
   .ret)
   .skip))
  (.seq
  (.seq
  (.reg [⟨(some 5), none, (.mv (.c (.int .i64 0)))⟩] [])
  (.block 0
   (.loop
    (.seq
    (.seq
    (.reg [⟨(some 11), none, (.mv (.t 5))⟩,
      ⟨(some 12), none, (.mv (.t 0))⟩,
      ⟨(some 13), none, (.len (.t 12))⟩,
      ⟨(some 14), none, (.bin .lss (.t 11) (.t 13))⟩] [11, 12, 13])
    (.cond (.t 14)
     .skip
     (.exit 0)))
    (.seq
    (.block 1
     (.seq
     (.dreg 7168 7312 [⟨(some 17), none, (.mv (.t 0))⟩,
       ⟨(some 18), none, (.mv (.t 5))⟩,
       ⟨(some 19), none, (.iaddr 1 (.t 17) (.t 18))⟩,
       ⟨(some 20), none, (.ld false 1 (.t 19))⟩,
       ⟨(some 21), none, (.mv (.t 1))⟩,
       ⟨(some 22), none, (.mv (.t 5))⟩,
       ⟨(some 23), none, (.iaddr 1 (.t 21) (.t 22))⟩,
       ⟨(some 24), none, (.ld false 1 (.t 23))⟩,
       ⟨(some 25), none, (.bin .neq (.t 20) (.t 24))⟩] [17, 18, 19, 20, 21, 22, 23, 24] [[], [], [0, 1], [2, 1, 0], [], [], [4, 5], [6, 5, 4], [3, 0, 1, 2, 7, 4, 5, 6]] [7168, 7184, 7200, 7216, 7232, 7248, 7264, 7280, 7296])
     (.cond (.t 25)
      (.seq
      (.reg [⟨(some 4), none, (.mv (.c (.bool false)))⟩] [])
      .ret)
      .skip)))
    (.reg [⟨(some 15), none, (.mv (.t 5))⟩,
      ⟨(some 16), none, (.bin .add (.t 15) (.c (.int .i64 1)))⟩,
      ⟨(some 5), none, (.mv (.t 16))⟩] [15, 16]))))))
  (.seq
  (.reg [⟨(some 4), none, (.mv (.c (.bool true)))⟩] [])
  .ret))))
theorem rcq13 : resC Go.Proofs.Tryd.prog Go.Proofs.Tryd.f13.ntmps ((Go.Proofs.Tryd.f13.body).getD .skip) = some (strip rc13) := by kernel_rfl
def rv13 : List RV := [(.tmp 4)]
theorem rvq13 : Go.Proofs.Tryd.f13.results.toList.mapM (resRV Go.Proofs.Tryd.prog) = some rv13 := by kernel_rfl

theorem wrapI {n : Int} (h : -9223372036854775808 ≤ n) (h' : n < 9223372036854775808) : IntKind.i64.wrap n = n := by rw [IntKind.wrap_i64]; omega
theorem rowsI_len (L : List Int) : (rowsI L).length = L.length := by simp [rowsI]
theorem rowsI_get (L : List Int) (i : Nat) (h : i < L.length) : (rowsI L).getD i [] = [.int .i64 (L[i]'h)] := by
  simp [rowsI, List.getD_eq_getElem?_getD, h]
theorem ok13 (A B : List Int) (ta tb : Bool) (hA : (A.length : Int) < 2 ^ 62) : FnC Tryd.prog 13 [] [.lst 1 ta (rowsI A), .lst 1 tb (rowsI B)] (.bool (decide (A = B))) [] := by
  refine fn_okC (ob0 := []) (rc := rc13) (rvs := rv13) Tryd.func13 rfl rcq13 rvq13 (show 2 ≤ _ by decide) ?_
  generalize hk : decide (A = B) = q
  repeat ((conv => whnf); first | refine Cd.seq ?_ | refine Cd.cut ?_ | refine Cd.reg ?_ | refine Cd.block ?_ | refine Cd.cond ?_ | refine Cd.dreg ?_ | refine Cd.skip ?_ | refine Cd.ret ?_ | refine Cd.exit ?_ | refine Cd.loop ?_ | refine ⟨rfl, ?_⟩ | refine ⟨Nat.le_of_ble_eq_true rfl, ?_⟩ | refine ⟨.inl rfl, ?_⟩ | refine ⟨fun h => Bool.noConfusion h, ?_⟩)
  conv => whnf
  rw [rowsI_len, rowsI_len]
  refine ⟨fun h1 => ?_, fun h1 => ?_⟩ <;> try simp only [Bool.cond_true_left, Bool.cond_false_right, Bool.not_eq_true', Bool.not_eq_false', Bool.not_not, rowsI_len] at h1
  · have h1 : A.length ≠ B.length := by simp at h1; omega
    repeat ((conv => whnf); first | refine Cd.seq ?_ | refine Cd.cut ?_ | refine Cd.reg ?_ | refine Cd.block ?_ | refine Cd.cond ?_ | refine Cd.dreg ?_ | refine Cd.skip ?_ | refine Cd.ret ?_ | refine Cd.exit ?_ | refine Cd.loop ?_ | refine ⟨rfl, ?_⟩ | refine ⟨Nat.le_of_ble_eq_true rfl, ?_⟩ | refine ⟨.inl rfl, ?_⟩ | refine ⟨fun h => Bool.noConfusion h, ?_⟩)
    conv => whnf
    have : A ≠ B := fun e => h1 (by rw [e])
    refine ⟨[], ?_, rfl, trivial, rfl, ?_⟩
    · exact trivial
    try subst hk
    simp only [this, decide_false, cond_true, cond_false, Bool.not_true, Bool.not_false]
    repeat' (first | exact trivial | rfl | exact .inl rfl | exact .inr rfl | exact id | exact (fun h => Bool.noConfusion h) | refine And.intro ?_ ?_)
  have h1 : A.length = B.length := by simp at h1; omega
  repeat ((conv => whnf); first | refine Cd.seq ?_ | refine Cd.cut ?_ | refine Cd.reg ?_ | refine Cd.block ?_ | refine Cd.cond ?_ | refine Cd.dreg ?_ | refine Cd.skip ?_ | refine Cd.ret ?_ | refine Cd.exit ?_ | refine Cd.loop ?_ | refine ⟨rfl, ?_⟩ | refine ⟨Nat.le_of_ble_eq_true rfl, ?_⟩ | refine ⟨.inl rfl, ?_⟩ | refine ⟨fun h => Bool.noConfusion h, ?_⟩)
  conv => whnf
  refine ⟨Nat, fun i => i ≤ A.length ∧ ∀ j (hj : j < i) (ha : j < A.length) (hb : j < B.length), A[j] = B[j], fun i => ⟨[(0, ⟨[], true, .lst 1 ta (rowsI A)⟩), (1, ⟨[], true, .lst 1 tb (rowsI B)⟩), (4, ⟨[], true, .bool false⟩), (5, ⟨[], true, .int .i64 i⟩)], [], 0⟩, fun i => A.length - i, ⟨0, ⟨by omega, fun j hj => by omega⟩, ?_⟩, fun i hI => ?_⟩
  · refine viewI [] rfl rfl ?_ rfl ?_ rfl ?_
    repeat' (first | exact trivial | rfl | exact .inl rfl | exact .inr rfl | exact id | exact (fun h => Bool.noConfusion h) | refine And.intro ?_ ?_)
  obtain ⟨hI1, hI2⟩ := hI
  repeat ((conv => whnf); first | refine Cd.seq ?_ | refine Cd.cut ?_ | refine Cd.reg ?_ | refine Cd.block ?_ | refine Cd.cond ?_ | refine Cd.dreg ?_ | refine Cd.skip ?_ | refine Cd.ret ?_ | refine Cd.exit ?_ | refine Cd.loop ?_ | refine ⟨rfl, ?_⟩ | refine ⟨Nat.le_of_ble_eq_true rfl, ?_⟩ | refine ⟨.inl rfl, ?_⟩ | refine ⟨fun h => Bool.noConfusion h, ?_⟩)
  conv => whnf
  refine ⟨fun h2 => ?_, fun h2 => ?_⟩ <;> try simp only [Bool.cond_true_left, Bool.cond_false_right, Bool.not_eq_true', Bool.not_eq_false', Bool.not_not, rowsI_len] at h2
  · have h2 : i < A.length := by simp at h2; omega
    repeat ((conv => whnf); first | refine Cd.seq ?_ | refine Cd.cut ?_ | refine Cd.reg ?_ | refine Cd.block ?_ | refine Cd.cond ?_ | refine Cd.dreg ?_ | refine Cd.skip ?_ | refine Cd.ret ?_ | refine Cd.exit ?_ | refine Cd.loop ?_ | refine ⟨rfl, ?_⟩ | refine ⟨Nat.le_of_ble_eq_true rfl, ?_⟩ | refine ⟨.inl rfl, ?_⟩ | refine ⟨fun h => Bool.noConfusion h, ?_⟩)
    conv => whnf
    refine ⟨fun _ => ⟨rfl, by omega, by rw [rowsI_len]; omega⟩, ?_⟩
    rw [show ((i : Int)).toNat = i by omega, rowsI_get A i h2]
    repeat ((conv => whnf); first | refine Cd.seq ?_ | refine Cd.cut ?_ | refine Cd.reg ?_ | refine Cd.block ?_ | refine Cd.cond ?_ | refine Cd.dreg ?_ | refine Cd.skip ?_ | refine Cd.ret ?_ | refine Cd.exit ?_ | refine Cd.loop ?_ | refine ⟨rfl, ?_⟩ | refine ⟨Nat.le_of_ble_eq_true rfl, ?_⟩ | refine ⟨.inl rfl, ?_⟩ | refine ⟨fun h => Bool.noConfusion h, ?_⟩)
    conv => whnf
    refine ⟨fun _ => ⟨rfl, by omega, by rw [rowsI_len]; omega⟩, ?_⟩
    rw [show ((i : Int)).toNat = i by omega, rowsI_get B i (by omega)]
    repeat ((conv => whnf); first | refine Cd.seq ?_ | refine Cd.cut ?_ | refine Cd.reg ?_ | refine Cd.block ?_ | refine Cd.cond ?_ | refine Cd.dreg ?_ | refine Cd.skip ?_ | refine Cd.ret ?_ | refine Cd.exit ?_ | refine Cd.loop ?_ | refine ⟨rfl, ?_⟩ | refine ⟨Nat.le_of_ble_eq_true rfl, ?_⟩ | refine ⟨.inl rfl, ?_⟩ | refine ⟨fun h => Bool.noConfusion h, ?_⟩)
    conv => whnf
    refine ⟨fun h3 => ?_, fun h3 => ?_⟩ <;> try simp only [Bool.cond_true_left, Bool.cond_false_right, Bool.not_eq_true', Bool.not_eq_false', Bool.not_not, rowsI_len] at h3
    · have h3 : A[i] ≠ B[i] := by simpa using h3
      repeat ((conv => whnf); first | refine Cd.seq ?_ | refine Cd.cut ?_ | refine Cd.reg ?_ | refine Cd.block ?_ | refine Cd.cond ?_ | refine Cd.dreg ?_ | refine Cd.skip ?_ | refine Cd.ret ?_ | refine Cd.exit ?_ | refine Cd.loop ?_ | refine ⟨rfl, ?_⟩ | refine ⟨Nat.le_of_ble_eq_true rfl, ?_⟩ | refine ⟨.inl rfl, ?_⟩ | refine ⟨fun h => Bool.noConfusion h, ?_⟩)
      conv => whnf
      have : A ≠ B := fun e => h3 (by subst e; rfl)
      refine ⟨[], ?_, rfl, trivial, rfl, ?_⟩
      · exact trivial
      try subst hk
      simp only [this, decide_false, cond_true, cond_false, Bool.not_true, Bool.not_false]
      repeat' (first | exact trivial | rfl | exact .inl rfl | exact .inr rfl | exact id | exact (fun h => Bool.noConfusion h) | refine And.intro ?_ ?_)
    have h3 : A[i] = B[i] := by simpa using h3
    repeat ((conv => whnf); first | refine Cd.seq ?_ | refine Cd.cut ?_ | refine Cd.reg ?_ | refine Cd.block ?_ | refine Cd.cond ?_ | refine Cd.dreg ?_ | refine Cd.skip ?_ | refine Cd.ret ?_ | refine Cd.exit ?_ | refine Cd.loop ?_ | refine ⟨rfl, ?_⟩ | refine ⟨Nat.le_of_ble_eq_true rfl, ?_⟩ | refine ⟨.inl rfl, ?_⟩ | refine ⟨fun h => Bool.noConfusion h, ?_⟩)
    conv => whnf
    rw [wrapI (n := (i : Int) + 1) (by omega) (by omega), show ((i : Int) + 1) = ((i + 1 : Nat) : Int) by omega]
    refine ⟨i + 1, ⟨by omega, fun j hj ha hb => ?_⟩, ?_, by show A.length - (i + 1) < A.length - i; omega⟩
    · by_cases e : j = i
      · subst e; exact h3
      · exact hI2 j (by omega) ha hb
    refine viewI [] rfl rfl ?_ rfl ?_ rfl ?_
    repeat' (first | exact trivial | rfl | exact .inl rfl | exact .inr rfl | exact id | exact (fun h => Bool.noConfusion h) | refine And.intro ?_ ?_)
  have h2 : i = A.length := by simp at h2; omega
  repeat ((conv => whnf); first | refine Cd.seq ?_ | refine Cd.cut ?_ | refine Cd.reg ?_ | refine Cd.block ?_ | refine Cd.cond ?_ | refine Cd.dreg ?_ | refine Cd.skip ?_ | refine Cd.ret ?_ | refine Cd.exit ?_ | refine Cd.loop ?_ | refine ⟨rfl, ?_⟩ | refine ⟨Nat.le_of_ble_eq_true rfl, ?_⟩ | refine ⟨.inl rfl, ?_⟩ | refine ⟨fun h => Bool.noConfusion h, ?_⟩)
  conv => whnf
  have : A = B := List.ext_getElem h1 fun j ha hb => hI2 j (by omega) ha hb
  refine ⟨[], ?_, rfl, trivial, rfl, ?_⟩
  · exact trivial
  try subst hk
  simp only [decide_eq_true this, cond_true, cond_false, Bool.not_true, Bool.not_false]
  repeat' (first | exact trivial | rfl | exact .inl rfl | exact .inr rfl | exact id | exact (fun h => Bool.noConfusion h) | refine And.intro ?_ ?_)
def rowsS (L : List Stm) : List (List V) := L.map Stm.c
theorem rowsS_len (L : List Stm) : (rowsS L).length = L.length := by simp [rowsS]
theorem rowsS_get (L : List Stm) (i : Nat) (h : i < L.length) : (rowsS L).getD i [] = (L[i]'h).c := by
  simp [rowsS, List.getD_eq_getElem?_getD, h]
theorem rowsS_get' (L : List Stm) (j : Int) (i : Nat) (e : j = i) (h : i < L.length) : (rowsS L).getD j.toNat [] = (L[i]'h).c := by
  subst e; rw [Int.toNat_natCast]; exact rowsS_get L i h
theorem rowsI_get' (L : List Int) (j : Int) (i : Nat) (e : j = i) (h : i < L.length) : (rowsI L).getD j.toNat [] = [.int .i64 (L[i]'h)] := by
  subst e; rw [Int.toNat_natCast]; exact rowsI_get L i h
theorem rowsS_six (L : List Stm) : ∀ x ∈ rowsS L, x.length = 6 := by
  intro x hx
  obtain ⟨s, -, rfl⟩ := List.mem_map.1 hx
  rfl
def eqS (a b : Stm) : Bool := true && (a.kind == b.kind) && (a.start == b.start) && (a.stop == b.stop) && (a.step == b.step) && (a.hits == b.hits) && (a.stamp == b.stamp)
theorem eqS_iff (a b : Stm) : eqS a b = true ↔ a = b := by
  obtain ⟨a1, a2, a3, a4, a5, a6⟩ := a
  obtain ⟨b1, b2, b3, b4, b5, b6⟩ := b
  simp [eqS, and_assoc]
instance : DecidableEq Stm := fun a b => decidable_of_iff _ (eqS_iff a b)
end Go.Proofs.YteelckbeekgfiaaDoor
