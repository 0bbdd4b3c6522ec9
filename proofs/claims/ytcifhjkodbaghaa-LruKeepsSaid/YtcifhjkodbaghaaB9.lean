/- Zone: Same. -/
import Derived.Test.YtcifhjkodbaghaaB8
set_option linter.unusedSimpArgs false
set_option linter.unusedVariables false
namespace Go.Proofs.Ytcifhjkodbaghaa
open Go Go.Sk Go.RowKit

/- pagecache/pagecacheref10.Same -/
def rc24 : RC :=
  (.seq
  (.reg [⟨(some 4), none, (.mv (.c (.bool false)))⟩] [])
  (.seq
  (.seq
  (.reg [⟨(some 9), none, (.mv (.t 0))⟩,
    ⟨(some 10), none, (.len (.t 9))⟩,
    ⟨(some 11), none, (.mv (.t 1))⟩,
    ⟨(some 12), none, (.len (.t 11))⟩,
    ⟨(some 13), none, (.bin .neq (.t 10) (.t 12))⟩] [9, 10, 11, 12])
  (.cond (.t 13)
   (.seq
   (.reg [⟨(some 4), none, (.mv (.c (.bool false)))⟩] [])
   .ret)
   .skip))
  (.seq
  (.seq
  (.reg [⟨(some 5), none, (.mv (.c (.int .i64 0)))⟩] [])
  (.block 0
   (.loop
    (.seq
    (.seq
    (.reg [⟨(some 14), none, (.mv (.t 5))⟩,
      ⟨(some 15), none, (.mv (.t 0))⟩,
      ⟨(some 16), none, (.len (.t 15))⟩,
      ⟨(some 17), none, (.bin .lss (.t 14) (.t 16))⟩] [14, 15, 16])
    (.cond (.t 17)
     .skip
     (.exit 0)))
    (.seq
    (.block 1
     (.seq
     (.dreg 7168 7360 [⟨(some 20), none, (.mv (.t 0))⟩,
       ⟨(some 21), none, (.mv (.t 5))⟩,
       ⟨(some 22), none, (.iaddr 6 (.t 20) (.t 21))⟩,
       ⟨(some 23), none, (.ld true 6 (.t 22))⟩,
       ⟨(some 24), none, (.mv (.t 1))⟩,
       ⟨(some 25), none, (.mv (.t 5))⟩,
       ⟨(some 26), none, (.iaddr 6 (.t 24) (.t 25))⟩,
       ⟨(some 27), none, (.ld true 6 (.t 26))⟩,
       ⟨(some 6), none, (.alloc [(.int .i64 0), (.int .i64 0), (.int .i64 0), (.int .i64 0), (.int .i64 0), (.lst 0 true [])])⟩,
       ⟨(some 7), none, (.alloc [(.int .i64 0), (.int .i64 0), (.int .i64 0), (.int .i64 0), (.int .i64 0), (.lst 0 true [])])⟩,
       ⟨none, none, (.st 6 (.t 6) (.t 23))⟩,
       ⟨none, none, (.st 6 (.t 7) (.t 27))⟩] [20, 21, 22, 23, 24, 25, 26, 27] [[], [], [0, 1], [2, 1, 0], [], [], [4, 5], [6, 5, 4], [], [], [3, 0, 1, 2, 8, 9], [7, 4, 5, 6, 10, 9, 8, 2, 1, 0, 3]] [7168, 7184, 7200, 7216, 7232, 7248, 7264, 7280, 7296, 7312, 7328, 7344])
     (.seq
     (.seq
     (.reg [⟨(some 28), none, (.faddr 0 (.t 6))⟩,
       ⟨(some 29), none, (.ld false 1 (.t 28))⟩,
       ⟨(some 30), none, (.faddr 0 (.t 7))⟩,
       ⟨(some 31), none, (.ld false 1 (.t 30))⟩,
       ⟨(some 32), none, (.bin .neq (.t 29) (.t 31))⟩,
       ⟨(some 33), none, (.mv (.t 32))⟩,
       ⟨(some 34), (some (33, false)), (.faddr 1 (.t 6))⟩,
       ⟨(some 35), (some (33, false)), (.ld false 1 (.t 34))⟩,
       ⟨(some 36), (some (33, false)), (.faddr 1 (.t 7))⟩,
       ⟨(some 37), (some (33, false)), (.ld false 1 (.t 36))⟩,
       ⟨(some 38), (some (33, false)), (.bin .neq (.t 35) (.t 37))⟩,
       ⟨(some 39), none, (.pick (.t 33) (.c (.bool true)) (.t 38))⟩,
       ⟨(some 40), none, (.mv (.t 39))⟩,
       ⟨(some 41), (some (40, false)), (.faddr 2 (.t 6))⟩,
       ⟨(some 42), (some (40, false)), (.ld false 1 (.t 41))⟩,
       ⟨(some 43), (some (40, false)), (.faddr 2 (.t 7))⟩,
       ⟨(some 44), (some (40, false)), (.ld false 1 (.t 43))⟩,
       ⟨(some 45), (some (40, false)), (.bin .neq (.t 42) (.t 44))⟩,
       ⟨(some 46), none, (.pick (.t 40) (.c (.bool true)) (.t 45))⟩,
       ⟨(some 47), none, (.mv (.t 46))⟩,
       ⟨(some 48), (some (47, false)), (.faddr 3 (.t 6))⟩,
       ⟨(some 49), (some (47, false)), (.ld false 1 (.t 48))⟩,
       ⟨(some 50), (some (47, false)), (.faddr 3 (.t 7))⟩,
       ⟨(some 51), (some (47, false)), (.ld false 1 (.t 50))⟩,
       ⟨(some 52), (some (47, false)), (.bin .neq (.t 49) (.t 51))⟩,
       ⟨(some 53), none, (.pick (.t 47) (.c (.bool true)) (.t 52))⟩,
       ⟨(some 54), none, (.mv (.t 53))⟩,
       ⟨(some 55), (some (54, false)), (.faddr 4 (.t 6))⟩,
       ⟨(some 56), (some (54, false)), (.ld false 1 (.t 55))⟩,
       ⟨(some 57), (some (54, false)), (.faddr 4 (.t 7))⟩,
       ⟨(some 58), (some (54, false)), (.ld false 1 (.t 57))⟩,
       ⟨(some 59), (some (54, false)), (.bin .neq (.t 56) (.t 58))⟩,
       ⟨(some 60), none, (.pick (.t 54) (.c (.bool true)) (.t 59))⟩,
       ⟨(some 61), none, (.mv (.t 60))⟩,
       ⟨(some 62), (some (61, false)), (.faddr 5 (.t 6))⟩,
       ⟨(some 63), (some (61, false)), (.ld false 1 (.t 62))⟩,
       ⟨(some 64), (some (61, false)), (.len (.t 63))⟩,
       ⟨(some 65), (some (61, false)), (.faddr 5 (.t 7))⟩,
       ⟨(some 66), (some (61, false)), (.ld false 1 (.t 65))⟩,
       ⟨(some 67), (some (61, false)), (.len (.t 66))⟩,
       ⟨(some 68), (some (61, false)), (.bin .neq (.t 64) (.t 67))⟩,
       ⟨(some 69), none, (.pick (.t 61) (.c (.bool true)) (.t 68))⟩] [28, 29, 30, 31, 32, 33, 34, 35, 36, 37, 38, 39, 40, 41, 42, 43, 44, 45, 46, 47, 48, 49, 50, 51, 52, 53, 54, 55, 56, 57, 58, 59, 60, 61, 62, 63, 64, 65, 66, 67, 68])
     (.cond (.t 69)
      (.seq
      (.reg [⟨(some 4), none, (.mv (.c (.bool false)))⟩] [])
      .ret)
      .skip))
     (.seq
     (.reg [⟨(some 8), none, (.mv (.c (.int .i64 0)))⟩] [])
     (.block 2
      (.loop
       (.seq
       (.seq
       (.reg [⟨(some 70), none, (.mv (.t 8))⟩,
         ⟨(some 71), none, (.faddr 5 (.t 6))⟩,
         ⟨(some 72), none, (.ld false 1 (.t 71))⟩,
         ⟨(some 73), none, (.len (.t 72))⟩,
         ⟨(some 74), none, (.bin .lss (.t 70) (.t 73))⟩] [70, 71, 72, 73])
       (.cond (.t 74)
        .skip
        (.exit 2)))
       (.seq
       (.block 3
        (.seq
        (.dreg 13312 13488 [⟨(some 77), none, (.faddr 5 (.t 6))⟩,
          ⟨(some 78), none, (.ld false 1 (.t 77))⟩,
          ⟨(some 79), none, (.mv (.t 8))⟩,
          ⟨(some 80), none, (.iaddr 1 (.t 78) (.t 79))⟩,
          ⟨(some 81), none, (.ld false 1 (.t 80))⟩,
          ⟨(some 82), none, (.faddr 5 (.t 7))⟩,
          ⟨(some 83), none, (.ld false 1 (.t 82))⟩,
          ⟨(some 84), none, (.mv (.t 8))⟩,
          ⟨(some 85), none, (.iaddr 1 (.t 83) (.t 84))⟩,
          ⟨(some 86), none, (.ld false 1 (.t 85))⟩,
          ⟨(some 87), none, (.bin .neq (.t 81) (.t 86))⟩] [77, 78, 79, 80, 81, 82, 83, 84, 85, 86] [[], [0], [], [1, 0, 2], [3, 2, 0, 1], [], [5], [], [6, 5, 7], [8, 7, 5, 6], [4, 1, 0, 2, 3, 9, 6, 5, 7, 8]] [13312, 13328, 13344, 13360, 13376, 13392, 13408, 13424, 13440, 13456, 13472])
        (.cond (.t 87)
         (.seq
         (.reg [⟨(some 4), none, (.mv (.c (.bool false)))⟩] [])
         .ret)
         .skip)))
       (.reg [⟨(some 75), none, (.mv (.t 8))⟩,
         ⟨(some 76), none, (.bin .add (.t 75) (.c (.int .i64 1)))⟩,
         ⟨(some 8), none, (.mv (.t 76))⟩] [75, 76])))))))))
    (.reg [⟨(some 18), none, (.mv (.t 5))⟩,
      ⟨(some 19), none, (.bin .add (.t 18) (.c (.int .i64 1)))⟩,
      ⟨(some 5), none, (.mv (.t 19))⟩] [18, 19]))))))
  (.seq
  (.reg [⟨(some 4), none, (.mv (.c (.bool true)))⟩] [])
  .ret))))
theorem rcq24 : resC Go.Proofs.Try.prog Go.Proofs.Try.f24.ntmps ((Go.Proofs.Try.f24.body).getD .skip) = some (strip rc24) := by kernel_rfl
def rv24 : List RV := [(.tmp 4)]
theorem rvq24 : Go.Proofs.Try.f24.results.toList.mapM (resRV Go.Proofs.Try.prog) = some rv24 := by kernel_rfl

def headNe (x y : Zn) : Bool := ((((x.first != y.first || x.size != y.size) || x.min != y.min) || x.low != y.low) || x.high != y.high) || ((x.free.length : Int) != (y.free.length : Int))
def eqZ (x y : Zn) : Bool := !headNe x y && decide (x.free = y.free)
def sameR : List Zn → List Zn → Bool
  | [], [] => true
  | x :: a, y :: b => eqZ x y && sameR a b
  | _, _ => false
theorem sameR_len : ∀ (a b : List Zn), a.length ≠ b.length → sameR a b = false
  | [], [], h => absurd rfl h
  | [], _ :: _, _ => rfl
  | _ :: _, [], _ => rfl
  | x :: a, y :: b, h => by
    simp only [sameR, sameR_len a b (by simpa using h), Bool.and_false]
theorem eqZ_iff (x y : Zn) : eqZ x y = true ↔ x.first = y.first ∧ x.size = y.size ∧ x.min = y.min ∧ x.low = y.low ∧ x.high = y.high ∧ x.free = y.free := by
  simp only [eqZ, headNe, Bool.and_eq_true, Bool.not_eq_true', Bool.or_eq_false_iff, bne_eq_false_iff_eq, decide_eq_true_eq]
  constructor
  · rintro ⟨⟨⟨⟨⟨⟨h1, h2⟩, h3⟩, h4⟩, h5⟩, -⟩, h6⟩; exact ⟨h1, h2, h3, h4, h5, h6⟩
  · rintro ⟨h1, h2, h3, h4, h5, h6⟩; exact ⟨⟨⟨⟨⟨⟨h1, h2⟩, h3⟩, h4⟩, h5⟩, by rw [h6]⟩, h6⟩
theorem sameR_iff : ∀ (a b : List Zn), sameR a b = true ↔ a.length = b.length ∧ ∀ i (h : i < a.length) (h' : i < b.length), eqZ a[i] b[i] = true
  | [], [] => by simp [sameR]
  | [], _ :: _ => by simp [sameR]
  | _ :: _, [] => by simp [sameR]
  | x :: a, y :: b => by
    simp only [sameR, Bool.and_eq_true, sameR_iff a b, List.length_cons]
    constructor
    · rintro ⟨h1, h2, h3⟩
      refine ⟨by omega, fun i h h' => ?_⟩
      cases i with
      | zero => exact h1
      | succ i => exact h3 i (by omega) (by omega)
    · rintro ⟨h1, h2⟩
      exact ⟨h2 0 (by omega) (by omega), by omega, fun i h h' => h2 (i + 1) (by omega) (by omega)⟩
set_option maxRecDepth 20000 in
set_option maxHeartbeats 1000000 in
theorem ok24 (a b : List Zn) (ta tb : Bool) (ha : SmallZ a) (hb : SmallZ b) : FnC Try.prog 24 [] [.lst 6 ta (rowsZ a), .lst 6 tb (rowsZ b)] (.bool (sameR a b)) [] := by
  have hla := ha.len
  have hlb := hb.len
  refine fn_okC (ob0 := []) (rc := rc24) (rvs := rv24) Try.func24 rfl rcq24 rvq24 (show 2 ≤ _ by decide) ?_
  generalize hk : sameR a b = q
  repeat ((conv => whnf); first | refine Cd.seq ?_ | refine Cd.cut ?_ | refine Cd.reg ?_ | refine Cd.block ?_ | refine Cd.cond ?_ | refine Cd.dreg ?_ | refine Cd.skip ?_ | refine Cd.ret ?_ | refine Cd.exit ?_ | refine Cd.loop ?_ | refine ⟨rfl, ?_⟩ | refine ⟨Nat.le_of_ble_eq_true rfl, ?_⟩ | refine ⟨.inl rfl, ?_⟩ | refine ⟨fun h => Bool.noConfusion h, ?_⟩)
  conv => whnf
  rw [rowsZ_len, rowsZ_len]
  refine ⟨fun h1 => ?_, fun h1 => ?_⟩ <;> try simp only [Bool.cond_true_left, Bool.cond_false_right, Bool.not_eq_true', Bool.not_eq_false', Bool.not_not] at h1
  · have h1 : a.length ≠ b.length := by simp at h1; omega
    rw [sameR_len a b h1] at hk
    subst hk
    repeat ((conv => whnf); first | refine Cd.seq ?_ | refine Cd.cut ?_ | refine Cd.reg ?_ | refine Cd.block ?_ | refine Cd.cond ?_ | refine Cd.dreg ?_ | refine Cd.skip ?_ | refine Cd.ret ?_ | refine Cd.exit ?_ | refine Cd.loop ?_ | refine ⟨rfl, ?_⟩ | refine ⟨Nat.le_of_ble_eq_true rfl, ?_⟩ | refine ⟨.inl rfl, ?_⟩ | refine ⟨fun h => Bool.noConfusion h, ?_⟩)
    conv => whnf
    refine ⟨[], ?_, rfl, trivial, rfl, ?_⟩
    · exact trivial
    try subst hk
    repeat' (first | exact trivial | rfl | exact .inl rfl | exact .inr rfl | exact id | exact (fun h => Bool.noConfusion h) | refine And.intro ?_ ?_)
  have h1 : a.length = b.length := by simp at h1; omega
  repeat ((conv => whnf); first | refine Cd.seq ?_ | refine Cd.cut ?_ | refine Cd.reg ?_ | refine Cd.block ?_ | refine Cd.cond ?_ | refine Cd.dreg ?_ | refine Cd.skip ?_ | refine Cd.ret ?_ | refine Cd.exit ?_ | refine Cd.loop ?_ | refine ⟨rfl, ?_⟩ | refine ⟨Nat.le_of_ble_eq_true rfl, ?_⟩ | refine ⟨.inl rfl, ?_⟩ | refine ⟨fun h => Bool.noConfusion h, ?_⟩)
  conv => whnf
  refine ⟨Nat, fun i => i ≤ a.length ∧ sameR (a.drop i) (b.drop i) = q, fun i => ⟨[(0, ⟨[], true, .lst 6 ta (rowsZ a)⟩), (1, ⟨[], true, .lst 6 tb (rowsZ b)⟩), (4, ⟨[], true, .bool false⟩), (5, ⟨[], true, .int .i64 (i : Int)⟩)], [], 0⟩, fun i => a.length - i, ⟨0, ⟨by omega, hk⟩, ?_⟩, fun i hI => ?_⟩
  · refine viewI [] rfl rfl ?_ rfl ?_ rfl ?_
    repeat' (first | exact trivial | rfl | exact .inl rfl | exact .inr rfl | exact id | exact (fun h => Bool.noConfusion h) | refine And.intro ?_ ?_)
  obtain ⟨hI1, hI2⟩ := hI
  repeat ((conv => whnf); first | refine Cd.seq ?_ | refine Cd.cut ?_ | refine Cd.reg ?_ | refine Cd.block ?_ | refine Cd.cond ?_ | refine Cd.dreg ?_ | refine Cd.skip ?_ | refine Cd.ret ?_ | refine Cd.exit ?_ | refine Cd.loop ?_ | refine ⟨rfl, ?_⟩ | refine ⟨Nat.le_of_ble_eq_true rfl, ?_⟩ | refine ⟨.inl rfl, ?_⟩ | refine ⟨fun h => Bool.noConfusion h, ?_⟩)
  conv => whnf
  rw [rowsZ_len]
  refine ⟨fun h2 => ?_, fun h2 => ?_⟩ <;> try simp only [Bool.cond_true_left, Bool.cond_false_right, Bool.not_eq_true', Bool.not_eq_false', Bool.not_not] at h2
  · have h2 : i < a.length := by simp at h2; omega
    have h2b : i < b.length := by omega
    rw [List.drop_eq_getElem_cons h2, List.drop_eq_getElem_cons h2b, sameR] at hI2
    have hfa := ha.free a[i] (List.getElem_mem h2)
    have hfb := hb.free b[i] (List.getElem_mem h2b)
    repeat ((conv => whnf); first | refine Cd.seq ?_ | refine Cd.cut ?_ | refine Cd.reg ?_ | refine Cd.block ?_ | refine Cd.cond ?_ | refine Cd.dreg ?_ | refine Cd.skip ?_ | refine Cd.ret ?_ | refine Cd.exit ?_ | refine Cd.loop ?_ | refine ⟨rfl, ?_⟩ | refine ⟨Nat.le_of_ble_eq_true rfl, ?_⟩ | refine ⟨.inl rfl, ?_⟩ | refine ⟨fun h => Bool.noConfusion h, ?_⟩)
    conv => whnf
    refine ⟨fun _ => ⟨rfl, by omega, by rw [rowsZ_len]; omega⟩, ?_⟩
    rw [Int.toNat_natCast, rowsZ_get a i h2]
    repeat ((conv => whnf); first | refine Cd.seq ?_ | refine Cd.cut ?_ | refine Cd.reg ?_ | refine Cd.block ?_ | refine Cd.cond ?_ | refine Cd.dreg ?_ | refine Cd.skip ?_ | refine Cd.ret ?_ | refine Cd.exit ?_ | refine Cd.loop ?_ | refine ⟨rfl, ?_⟩ | refine ⟨Nat.le_of_ble_eq_true rfl, ?_⟩ | refine ⟨.inl rfl, ?_⟩ | refine ⟨fun h => Bool.noConfusion h, ?_⟩)
    conv => whnf
    refine ⟨fun _ => ⟨rfl, by omega, by rw [rowsZ_len]; omega⟩, ?_⟩
    rw [Int.toNat_natCast, rowsZ_get b i h2b]
    generalize a[i] = x at hI2 hfa
    generalize b[i] = y at hI2 hfb
    repeat ((conv => whnf); first | refine Cd.seq ?_ | refine Cd.cut ?_ | refine Cd.reg ?_ | refine Cd.block ?_ | refine Cd.cond ?_ | refine Cd.dreg ?_ | refine Cd.skip ?_ | refine Cd.ret ?_ | refine Cd.exit ?_ | refine Cd.loop ?_ | refine ⟨rfl, ?_⟩ | refine ⟨Nat.le_of_ble_eq_true rfl, ?_⟩ | refine ⟨.inl rfl, ?_⟩ | refine ⟨fun h => Bool.noConfusion h, ?_⟩)
    conv => whnf
    rw [rowsI_len, rowsI_len]
    repeat ((conv => whnf); first | refine Cd.seq ?_ | refine Cd.cut ?_ | refine Cd.reg ?_ | refine Cd.block ?_ | refine Cd.cond ?_ | refine Cd.dreg ?_ | refine Cd.skip ?_ | refine Cd.ret ?_ | refine Cd.exit ?_ | refine Cd.loop ?_ | refine ⟨rfl, ?_⟩ | refine ⟨Nat.le_of_ble_eq_true rfl, ?_⟩ | refine ⟨.inl rfl, ?_⟩ | refine ⟨fun h => Bool.noConfusion h, ?_⟩)
    conv => whnf
    refine ⟨fun h3 => ?_, fun h3 => ?_⟩ <;> try simp only [Bool.cond_true_left, Bool.cond_false_right, Bool.not_eq_true', Bool.not_eq_false', Bool.not_not] at h3
    · have h3 : headNe x y = true := h3
      rw [eqZ, h3] at hI2
      have hI2 : false = q := hI2
      subst hI2
      repeat ((conv => whnf); first | refine Cd.seq ?_ | refine Cd.cut ?_ | refine Cd.reg ?_ | refine Cd.block ?_ | refine Cd.cond ?_ | refine Cd.dreg ?_ | refine Cd.skip ?_ | refine Cd.ret ?_ | refine Cd.exit ?_ | refine Cd.loop ?_ | refine ⟨rfl, ?_⟩ | refine ⟨Nat.le_of_ble_eq_true rfl, ?_⟩ | refine ⟨.inl rfl, ?_⟩ | refine ⟨fun h => Bool.noConfusion h, ?_⟩)
      conv => whnf
      refine ⟨[], ?_, rfl, trivial, rfl, ?_⟩
      · exact trivial
      try subst hk
      repeat' (first | exact trivial | rfl | exact .inl rfl | exact .inr rfl | exact id | exact (fun h => Bool.noConfusion h) | refine And.intro ?_ ?_)
    have h3 : headNe x y = false := h3
    rw [eqZ, h3, Bool.not_false, Bool.true_and] at hI2
    have hlen : x.free.length = y.free.length := by
      simp only [headNe, Bool.or_eq_false_iff, bne_eq_false_iff_eq] at h3; omega
    repeat ((conv => whnf); first | refine Cd.seq ?_ | refine Cd.cut ?_ | refine Cd.reg ?_ | refine Cd.block ?_ | refine Cd.cond ?_ | refine Cd.dreg ?_ | refine Cd.skip ?_ | refine Cd.ret ?_ | refine Cd.exit ?_ | refine Cd.loop ?_ | refine ⟨rfl, ?_⟩ | refine ⟨Nat.le_of_ble_eq_true rfl, ?_⟩ | refine ⟨.inl rfl, ?_⟩ | refine ⟨fun h => Bool.noConfusion h, ?_⟩)
    conv => whnf
    refine ⟨Nat, fun k => k ≤ x.free.length ∧ ∀ j (hj : j < k) (h : j < x.free.length) (h' : j < y.free.length), x.free[j] = y.free[j], fun k => ⟨[(0, ⟨[], true, .lst 6 ta (rowsZ a)⟩), (1, ⟨[], true, .lst 6 tb (rowsZ b)⟩), (4, ⟨[], true, .bool false⟩), (5, ⟨[], true, .int .i64 (i : Int)⟩), (6, ⟨[], true, .ptr 0 0 0⟩), (7, ⟨[], true, .ptr 1 0 0⟩), (8, ⟨[], true, .int .i64 (k : Int)⟩)], [(0, .box x.c), (1, .box y.c)], 2⟩, fun k => x.free.length - k, ⟨0, ⟨by omega, fun j hj => by omega⟩, ?_⟩, fun k hJ => ?_⟩
    · refine viewI [some ?k106_0, some ?k106_1] rfl rfl ?h3_106 ?h4_106 ?h5_106 ?h6_106 ?h7_106
      case' h7_106 => repeat' (first | exact trivial | rfl | exact .inl rfl | exact .inr rfl | exact id | exact (fun h => Bool.noConfusion h) | refine And.intro ?_ ?_)
      case' h4_106 => rfl
      case' h6_106 => rfl
      case' h3_106 => repeat' (first | exact trivial | rfl | exact .inl rfl | exact .inr rfl | exact id | exact (fun h => Bool.noConfusion h) | refine And.intro ?_ ?_)
      case' h5_106 => repeat' (first | exact trivial | rfl | exact .inl rfl | exact .inr rfl | exact id | exact (fun h => Bool.noConfusion h) | refine And.intro ?_ ?_)
    obtain ⟨hJ1, hJ2⟩ := hJ
    repeat ((conv => whnf); first | refine Cd.seq ?_ | refine Cd.cut ?_ | refine Cd.reg ?_ | refine Cd.block ?_ | refine Cd.cond ?_ | refine Cd.dreg ?_ | refine Cd.skip ?_ | refine Cd.ret ?_ | refine Cd.exit ?_ | refine Cd.loop ?_ | refine ⟨rfl, ?_⟩ | refine ⟨Nat.le_of_ble_eq_true rfl, ?_⟩ | refine ⟨.inl rfl, ?_⟩ | refine ⟨fun h => Bool.noConfusion h, ?_⟩)
    conv => whnf
    rw [rowsI_len]
    refine ⟨fun h4 => ?_, fun h4 => ?_⟩ <;> try simp only [Bool.cond_true_left, Bool.cond_false_right, Bool.not_eq_true', Bool.not_eq_false', Bool.not_not] at h4
    · have h4 : k < x.free.length := by simp at h4; omega
      repeat ((conv => whnf); first | refine Cd.seq ?_ | refine Cd.cut ?_ | refine Cd.reg ?_ | refine Cd.block ?_ | refine Cd.cond ?_ | refine Cd.dreg ?_ | refine Cd.skip ?_ | refine Cd.ret ?_ | refine Cd.exit ?_ | refine Cd.loop ?_ | refine ⟨rfl, ?_⟩ | refine ⟨Nat.le_of_ble_eq_true rfl, ?_⟩ | refine ⟨.inl rfl, ?_⟩ | refine ⟨fun h => Bool.noConfusion h, ?_⟩)
      conv => whnf
      refine ⟨fun _ => ⟨rfl, by omega, by rw [rowsI_len]; omega⟩, ?_⟩
      rw [Int.toNat_natCast, rowsI_get x.free k h4]
      repeat ((conv => whnf); first | refine Cd.seq ?_ | refine Cd.cut ?_ | refine Cd.reg ?_ | refine Cd.block ?_ | refine Cd.cond ?_ | refine Cd.dreg ?_ | refine Cd.skip ?_ | refine Cd.ret ?_ | refine Cd.exit ?_ | refine Cd.loop ?_ | refine ⟨rfl, ?_⟩ | refine ⟨Nat.le_of_ble_eq_true rfl, ?_⟩ | refine ⟨.inl rfl, ?_⟩ | refine ⟨fun h => Bool.noConfusion h, ?_⟩)
      conv => whnf
      refine ⟨fun _ => ⟨rfl, by omega, by rw [rowsI_len]; omega⟩, ?_⟩
      rw [Int.toNat_natCast, rowsI_get y.free k (by omega)]
      repeat ((conv => whnf); first | refine Cd.seq ?_ | refine Cd.cut ?_ | refine Cd.reg ?_ | refine Cd.block ?_ | refine Cd.cond ?_ | refine Cd.dreg ?_ | refine Cd.skip ?_ | refine Cd.ret ?_ | refine Cd.exit ?_ | refine Cd.loop ?_ | refine ⟨rfl, ?_⟩ | refine ⟨Nat.le_of_ble_eq_true rfl, ?_⟩ | refine ⟨.inl rfl, ?_⟩ | refine ⟨fun h => Bool.noConfusion h, ?_⟩)
      conv => whnf
      refine ⟨fun h5 => ?_, fun h5 => ?_⟩ <;> try simp only [Bool.cond_true_left, Bool.cond_false_right, Bool.not_eq_true', Bool.not_eq_false', Bool.not_not] at h5
      · have h5 : x.free[k] ≠ y.free[k]'(by omega) := by simpa using h5
        have hne : x.free ≠ y.free := fun e => h5 (by simp [e])
        rw [decide_eq_false hne, Bool.false_and] at hI2
        subst hI2
        repeat ((conv => whnf); first | refine Cd.seq ?_ | refine Cd.cut ?_ | refine Cd.reg ?_ | refine Cd.block ?_ | refine Cd.cond ?_ | refine Cd.dreg ?_ | refine Cd.skip ?_ | refine Cd.ret ?_ | refine Cd.exit ?_ | refine Cd.loop ?_ | refine ⟨rfl, ?_⟩ | refine ⟨Nat.le_of_ble_eq_true rfl, ?_⟩ | refine ⟨.inl rfl, ?_⟩ | refine ⟨fun h => Bool.noConfusion h, ?_⟩)
        conv => whnf
        refine ⟨[], ?_, rfl, trivial, rfl, ?_⟩
        · exact trivial
        try subst hk
        repeat' (first | exact trivial | rfl | exact .inl rfl | exact .inr rfl | exact id | exact (fun h => Bool.noConfusion h) | refine And.intro ?_ ?_)
      have h5 : x.free[k] = y.free[k]'(by omega) := by simpa using h5
      repeat ((conv => whnf); first | refine Cd.seq ?_ | refine Cd.cut ?_ | refine Cd.reg ?_ | refine Cd.block ?_ | refine Cd.cond ?_ | refine Cd.dreg ?_ | refine Cd.skip ?_ | refine Cd.ret ?_ | refine Cd.exit ?_ | refine Cd.loop ?_ | refine ⟨rfl, ?_⟩ | refine ⟨Nat.le_of_ble_eq_true rfl, ?_⟩ | refine ⟨.inl rfl, ?_⟩ | refine ⟨fun h => Bool.noConfusion h, ?_⟩)
      conv => whnf
      rw [wrapI (n := (k : Int) + 1) (by omega) (by omega), show ((k : Int) + 1) = ((k + 1 : Nat) : Int) by omega]
      refine ⟨k + 1, ⟨by omega, fun j hj h h' => ?_⟩, ?_, by show x.free.length - (k + 1) < x.free.length - k; omega⟩
      · by_cases e : j = k
        · subst e; exact h5
        · exact hJ2 j (by omega) h h'
      refine viewI [some 0, some 1] rfl rfl ?_ rfl ?_ rfl ?_
      repeat' (first | exact trivial | rfl | exact .inl rfl | exact .inr rfl | exact id | exact (fun h => Bool.noConfusion h) | refine And.intro ?_ ?_)
    have h4 : k = x.free.length := by simp at h4; omega
    have he : x.free = y.free := List.ext_getElem hlen fun j h h' => hJ2 j (by omega) h h'
    rw [decide_eq_true he, Bool.true_and] at hI2
    repeat ((conv => whnf); first | refine Cd.seq ?_ | refine Cd.cut ?_ | refine Cd.reg ?_ | refine Cd.block ?_ | refine Cd.cond ?_ | refine Cd.dreg ?_ | refine Cd.skip ?_ | refine Cd.ret ?_ | refine Cd.exit ?_ | refine Cd.loop ?_ | refine ⟨rfl, ?_⟩ | refine ⟨Nat.le_of_ble_eq_true rfl, ?_⟩ | refine ⟨.inl rfl, ?_⟩ | refine ⟨fun h => Bool.noConfusion h, ?_⟩)
    conv => whnf
    rw [wrapI (n := (i : Int) + 1) (by omega) (by omega), show ((i : Int) + 1) = ((i + 1 : Nat) : Int) by omega]
    refine ⟨i + 1, ⟨by omega, hI2⟩, ?_, by show a.length - (i + 1) < a.length - i; omega⟩
    refine viewI [] rfl rfl ?_ rfl ?_ rfl ?_
    repeat' (first | exact trivial | rfl | exact .inl rfl | exact .inr rfl | exact id | exact (fun h => Bool.noConfusion h) | refine And.intro ?_ ?_)
  have h2 : i = a.length := by simp at h2; omega
  rw [h2, List.drop_length, h1, List.drop_length, sameR] at hI2
  subst hI2
  repeat ((conv => whnf); first | refine Cd.seq ?_ | refine Cd.cut ?_ | refine Cd.reg ?_ | refine Cd.block ?_ | refine Cd.cond ?_ | refine Cd.dreg ?_ | refine Cd.skip ?_ | refine Cd.ret ?_ | refine Cd.exit ?_ | refine Cd.loop ?_ | refine ⟨rfl, ?_⟩ | refine ⟨Nat.le_of_ble_eq_true rfl, ?_⟩ | refine ⟨.inl rfl, ?_⟩ | refine ⟨fun h => Bool.noConfusion h, ?_⟩)
  conv => whnf
  refine ⟨[], ?_, rfl, trivial, rfl, ?_⟩
  · exact trivial
  try subst hk
  repeat' (first | exact trivial | rfl | exact .inl rfl | exact .inr rfl | exact id | exact (fun h => Bool.noConfusion h) | refine And.intro ?_ ?_)
end Go.Proofs.Ytcifhjkodbaghaa
