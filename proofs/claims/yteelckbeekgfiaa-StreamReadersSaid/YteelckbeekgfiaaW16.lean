/- Stream: awake. -/
import Derived.Test.YteelckbeekgfiaaW15
import Derived.Test.YteelckbeekgfiaaW11b
set_option linter.unusedSimpArgs false
set_option linter.unusedVariables false
namespace Go.Proofs.Yteelckbeekgfiaa
open Go Go.Sk Go.RowKit

/- pagecache/pagecachelaw06.awake -/
def rc18 : RC :=
  (.seq
  (.reg [⟨(some 0), none, (.mv (.c (.bool false)))⟩] [])
  (.seq
  (.reg [⟨(some 1), none, (.mv (.c (.lst 0 true [])))⟩] [])
  (.seq
  (.seq
  (.reg [⟨(some 2), none, (.mv (.c (.int .i64 0)))⟩] [])
  (.block 0
   (.loop
    (.seq
    (.seq
    (.reg [⟨(some 7), none, (.mv (.t 2))⟩,
      ⟨(some 8), none, (.bin .lss (.t 7) (.c (.int .i64 3)))⟩] [7])
    (.cond (.t 8)
     .skip
     (.exit 0)))
    (.seq
    (.block 1
     (.seq
     (.reg [⟨(some 12), none, (.mv (.t 1))⟩,
       ⟨(some 13), none, (.mv (.t 2))⟩,
       ⟨(some 14), none, (.mv (.t 2))⟩,
       ⟨(some 15), none, (.bin .add (.t 14) (.c (.int .i64 1)))⟩,
       ⟨(some 16), none, (.call 11 [(.t 12), (.t 13), (.t 15)])⟩,
       ⟨(some 11), none, (.mv (.t 16))⟩,
       ⟨(some 17), none, (.extr 0 (.t 11))⟩,
       ⟨(some 18), none, (.extr 1 (.t 11))⟩,
       ⟨(some 19), none, (.extr 2 (.t 11))⟩,
       ⟨(some 3), none, (.mv (.t 17))⟩,
       ⟨(some 4), none, (.mv (.t 18))⟩,
       ⟨(some 5), none, (.mv (.t 19))⟩] [12, 13, 14, 15, 16, 11, 17, 18, 19])
     (.seq
     (.seq
     (.reg [⟨(some 20), none, (.mv (.t 5))⟩,
       ⟨(some 21), none, (.bin .neq (.t 20) (.c (.int .i64 0)))⟩,
       ⟨(some 22), none, (.mv (.t 21))⟩,
       ⟨(some 23), (some (22, false)), (.mv (.t 4))⟩,
       ⟨(some 24), (some (22, false)), (.bin .neq (.t 23) (.c (.int .i64 0)))⟩,
       ⟨(some 25), none, (.pick (.t 22) (.c (.bool true)) (.t 24))⟩] [20, 21, 22, 23, 24])
     (.cond (.t 25)
      (.seq
      (.reg [⟨(some 0), none, (.mv (.c (.bool false)))⟩] [])
      .ret)
      .skip))
     (.reg [⟨(some 26), none, (.mv (.t 3))⟩,
       ⟨(some 1), none, (.mv (.t 26))⟩] [26]))))
    (.reg [⟨(some 9), none, (.mv (.t 2))⟩,
      ⟨(some 10), none, (.bin .add (.t 9) (.c (.int .i64 1)))⟩,
      ⟨(some 2), none, (.mv (.t 10))⟩] [9, 10]))))))
  (.seq
  (.reg [⟨(some 27), none, (.bslice 1 [(.int .i64 0)] 0 [])⟩,
    ⟨(some 6), none, (.mv (.t 27))⟩] [27])
  (.seq
  (.seq
  (.reg [⟨(some 28), none, (.mv (.t 1))⟩,
    ⟨(some 29), none, (.len (.t 28))⟩,
    ⟨(some 30), none, (.bin .eql (.t 29) (.c (.int .i64 1)))⟩] [28, 29])
  (.cond (.t 30)
   (.reg [⟨(some 31), none, (.mv (.t 1))⟩,
     ⟨(some 32), none, (.iaddr 6 (.t 31) (.c (.int .i64 0)))⟩,
     ⟨(some 33), none, (.ld true 6 (.t 32))⟩,
     ⟨(some 34), none, (.call 23 [(.t 33), (.c (.int .i64 2))])⟩,
     ⟨(some 6), none, (.mv (.t 34))⟩] [31, 32, 33, 34])
   .skip))
  (.seq
  (.reg [⟨(some 35), none, (.mv (.t 1))⟩,
    ⟨(some 36), none, (.len (.t 35))⟩,
    ⟨(some 37), none, (.bin .eql (.t 36) (.c (.int .i64 1)))⟩,
    ⟨(some 38), none, (.mv (.t 37))⟩,
    ⟨(some 39), (some (38, true)), (.mv (.t 1))⟩,
    ⟨(some 40), (some (38, true)), (.iaddr 6 (.t 39) (.c (.int .i64 0)))⟩,
    ⟨(some 41), (some (38, true)), (.faddr 0 (.t 40))⟩,
    ⟨(some 42), (some (38, true)), (.ld false 1 (.t 41))⟩,
    ⟨(some 43), (some (38, true)), (.bin .eql (.t 42) (.c (.int .i64 2)))⟩,
    ⟨(some 44), none, (.pick (.t 38) (.t 43) (.c (.bool false)))⟩,
    ⟨(some 45), none, (.mv (.t 44))⟩,
    ⟨(some 46), (some (45, true)), (.mv (.t 1))⟩,
    ⟨(some 47), (some (45, true)), (.iaddr 6 (.t 46) (.c (.int .i64 0)))⟩,
    ⟨(some 48), (some (45, true)), (.faddr 4 (.t 47))⟩,
    ⟨(some 49), (some (45, true)), (.ld false 1 (.t 48))⟩,
    ⟨(some 50), (some (45, true)), (.bin .eql (.t 49) (.c (.int .i64 2)))⟩,
    ⟨(some 51), none, (.pick (.t 45) (.t 50) (.c (.bool false)))⟩,
    ⟨(some 52), none, (.mv (.t 51))⟩,
    ⟨(some 53), (some (52, true)), (.mv (.t 1))⟩,
    ⟨(some 54), (some (52, true)), (.iaddr 6 (.t 53) (.c (.int .i64 0)))⟩,
    ⟨(some 55), (some (52, true)), (.ld true 6 (.t 54))⟩,
    ⟨(some 56), (some (52, true)), (.call 20 [(.t 55)])⟩,
    ⟨(some 57), none, (.pick (.t 52) (.t 56) (.c (.bool false)))⟩,
    ⟨(some 58), none, (.mv (.t 57))⟩,
    ⟨(some 59), (some (58, true)), (.mv (.t 6))⟩,
    ⟨(some 60), (some (58, true)), (.len (.t 59))⟩,
    ⟨(some 61), (some (58, true)), (.bin .eql (.t 60) (.c (.int .i64 2)))⟩,
    ⟨(some 62), none, (.pick (.t 58) (.t 61) (.c (.bool false)))⟩,
    ⟨(some 63), none, (.mv (.t 62))⟩,
    ⟨(some 64), (some (63, true)), (.mv (.t 6))⟩,
    ⟨(some 65), (some (63, true)), (.iaddr 1 (.t 64) (.c (.int .i64 0)))⟩,
    ⟨(some 66), (some (63, true)), (.ld false 1 (.t 65))⟩,
    ⟨(some 67), (some (63, true)), (.bin .eql (.t 66) (.c (.int .i64 3)))⟩,
    ⟨(some 68), none, (.pick (.t 63) (.t 67) (.c (.bool false)))⟩,
    ⟨(some 69), none, (.mv (.t 68))⟩,
    ⟨(some 70), (some (69, true)), (.mv (.t 1))⟩,
    ⟨(some 71), (some (69, true)), (.call 14 [(.t 70)])⟩,
    ⟨(some 72), none, (.pick (.t 69) (.t 71) (.c (.bool false)))⟩,
    ⟨(some 0), none, (.mv (.t 72))⟩] [35, 36, 37, 38, 39, 40, 41, 42, 43, 44, 45, 46, 47, 48, 49, 50, 51, 52, 53, 54, 55, 56, 57, 58, 59, 60, 61, 62, 63, 64, 65, 66, 67, 68, 69, 70, 71, 72])
  .ret))))))
theorem rcq18 : resC Go.Proofs.Try.prog Go.Proofs.Try.f18.ntmps ((Go.Proofs.Try.f18.body).getD .skip) = some (strip rc18) := by kernel_rfl
def rv18 : List RV := [(.tmp 0)]
theorem rvq18 : Go.Proofs.Try.f18.results.toList.mapM (resRV Go.Proofs.Try.prog) = some rv18 := by kernel_rfl

def awS : Stm := ⟨2, 2, 3, 0, 2, 3⟩
def awL : Nat → List Stm
  | 0 => []
  | 1 => [⟨1, 0, 1, 0, 0, 1⟩]
  | 2 => [⟨2, 1, 2, 0, 1, 2⟩]
  | _ => [awS]
theorem aw0 : feedP (awL 0) 0 1 = (awL 1, 0, 0) := by decide
theorem aw1 : feedP (awL 1) 1 2 = (awL 2, 0, 0) := by decide
theorem aw2 : feedP (awL 2) 2 3 = (awL 3, 0, 0) := by decide
theorem awP : predictF awS 2 = [3, 4] := by decide
theorem awC : checkF (awL 3) = true := by decide
theorem awSure : sureF awS = true := by decide
set_option maxRecDepth 20000 in
theorem ok18 : FnC Try.prog 18 [] [] (.bool true) [] := by
  refine fn_okC (ob0 := []) (rc := rc18) (rvs := rv18) Try.func18 rfl rcq18 rvq18 (show 0 ≤ _ by decide) ?_
  repeat ((conv => whnf); first | refine Cd.seq ?_ | refine Cd.reg ?_ | refine Cd.block ?_ | refine Cd.cond ?_ | refine Cd.dreg ?_ | refine Cd.skip ?_ | refine Cd.ret ?_ | refine Cd.exit ?_ | refine Cd.loop ?_ | refine ⟨rfl, ?_⟩ | refine ⟨Nat.le_of_ble_eq_true rfl, ?_⟩ | refine ⟨.inl rfl, ?_⟩)
  conv => whnf
  refine ⟨Nat, fun i => i ≤ 3, fun i => ⟨[(0, ⟨[], true, .bool false⟩), (1, ⟨[], true, .lst 6 false (rowsS (awL i))⟩), (2, ⟨[], true, .int .i64 i⟩)], [], 0⟩, fun i => 3 - i, ⟨0, by omega, ?_⟩, fun i hI => ?_⟩
  · refine viewI [] rfl rfl ?_ rfl ?_ rfl ?_
    repeat' (first | exact trivial | rfl | exact .inl rfl | exact .inr rfl | exact id | exact (fun h => Bool.noConfusion h) | refine And.intro ?_ ?_)
  have hlen : (awL i).length ≤ 1 := by
    match i with
    | 0 => decide
    | 1 => decide
    | 2 => decide
    | _ + 3 => exact Nat.le_refl 1
  repeat ((conv => whnf); first | refine Cd.seq ?_ | refine Cd.reg ?_ | refine Cd.block ?_ | refine Cd.cond ?_ | refine Cd.dreg ?_ | refine Cd.skip ?_ | refine Cd.ret ?_ | refine Cd.exit ?_ | refine Cd.loop ?_ | refine ⟨rfl, ?_⟩ | refine ⟨Nat.le_of_ble_eq_true rfl, ?_⟩ | refine ⟨.inl rfl, ?_⟩)
  conv => whnf
  refine ⟨fun h1 => ?_, fun h1 => ?_⟩ <;> try simp only [Bool.cond_true_left, Bool.cond_false_right, Bool.not_eq_true', Bool.not_eq_false', Bool.not_not] at h1
  · have h1 : i < 3 := by simp at h1; omega
    have hw : IntKind.i64.wrap ((i : Int) + 1) = ((i + 1 : Nat) : Int) := by rw [wrapI (by omega) (by omega)]; omega
    have hf : feedP (awL i) i ((i + 1 : Nat) : Int) = (awL (i + 1), 0, 0) := by
      match i, h1 with
      | 0, _ => exact aw0
      | 1, _ => exact aw1
      | 2, _ => exact aw2
    repeat ((conv => whnf); first | refine Cd.seq ?_ | refine Cd.reg ?_ | refine Cd.block ?_ | refine Cd.cond ?_ | refine Cd.dreg ?_ | refine Cd.skip ?_ | refine Cd.ret ?_ | refine Cd.exit ?_ | refine Cd.loop ?_ | refine ⟨rfl, ?_⟩ | refine ⟨Nat.le_of_ble_eq_true rfl, ?_⟩ | refine ⟨.inl rfl, ?_⟩)
    conv => whnf
    rw [hw]
    repeat ((conv => whnf); first | refine Cd.seq ?_ | refine Cd.reg ?_ | refine Cd.block ?_ | refine Cd.cond ?_ | refine Cd.dreg ?_ | refine Cd.skip ?_ | refine Cd.ret ?_ | refine Cd.exit ?_ | refine Cd.loop ?_ | refine ⟨rfl, ?_⟩ | refine ⟨Nat.le_of_ble_eq_true rfl, ?_⟩ | refine ⟨.inl rfl, ?_⟩ | refine .inl ⟨_, fun _ => ⟨purA rfl, (by first | exact ok11 (awL i) false _ _ (by omega))⟩, .inl rfl, ?_⟩)
    conv => whnf
    simp only [hf]
    refine ⟨fun h2 => ?_, fun h2 => ?_⟩ <;> try simp only [Bool.cond_true_left, Bool.cond_false_right, Bool.not_eq_true', Bool.not_eq_false', Bool.not_not] at h2
    · simp at h2
    repeat ((conv => whnf); first | refine Cd.seq ?_ | refine Cd.reg ?_ | refine Cd.block ?_ | refine Cd.cond ?_ | refine Cd.dreg ?_ | refine Cd.skip ?_ | refine Cd.ret ?_ | refine Cd.exit ?_ | refine Cd.loop ?_ | refine ⟨rfl, ?_⟩ | refine ⟨Nat.le_of_ble_eq_true rfl, ?_⟩ | refine ⟨.inl rfl, ?_⟩)
    conv => whnf
    rw [hw]
    refine ⟨i + 1, by show i + 1 ≤ 3; omega, ?_, by show 3 - (i + 1) < 3 - i; omega⟩
    refine viewI [] rfl rfl ?_ rfl ?_ rfl ?_
    repeat' (first | exact trivial | rfl | exact .inl rfl | exact .inr rfl | exact id | exact (fun h => Bool.noConfusion h) | refine And.intro ?_ ?_)
  have hI : i ≤ 3 := hI
  obtain rfl : i = 3 := by simp at h1; omega
  rw [show rowsS (awL 3) = [awS.c] from rfl]
  repeat ((conv => whnf); first | refine Cd.seq ?_ | refine Cd.reg ?_ | refine Cd.block ?_ | refine Cd.cond ?_ | refine Cd.dreg ?_ | refine Cd.skip ?_ | refine Cd.ret ?_ | refine Cd.exit ?_ | refine Cd.loop ?_ | refine ⟨rfl, ?_⟩ | refine ⟨Nat.le_of_ble_eq_true rfl, ?_⟩ | refine ⟨.inl rfl, ?_⟩)
  conv => whnf
  refine ⟨fun h2 => ?_, fun h2 => ?_⟩ <;> try simp only [Bool.cond_true_left, Bool.cond_false_right, Bool.not_eq_true', Bool.not_eq_false', Bool.not_not] at h2
  · repeat ((conv => whnf); first | refine Cd.seq ?_ | refine Cd.reg ?_ | refine Cd.block ?_ | refine Cd.cond ?_ | refine Cd.dreg ?_ | refine Cd.skip ?_ | refine Cd.ret ?_ | refine Cd.exit ?_ | refine Cd.loop ?_ | refine ⟨rfl, ?_⟩ | refine ⟨Nat.le_of_ble_eq_true rfl, ?_⟩ | refine ⟨.inl rfl, ?_⟩)
    conv => whnf
    refine ⟨fun _ => ⟨rfl, by decide, by decide⟩, ?_⟩
    rw [show [awS.c].getD (0 : Int).toNat [] = awS.c from rfl]
    repeat ((conv => whnf); first | refine Cd.seq ?_ | refine Cd.reg ?_ | refine Cd.block ?_ | refine Cd.cond ?_ | refine Cd.dreg ?_ | refine Cd.skip ?_ | refine Cd.ret ?_ | refine Cd.exit ?_ | refine Cd.loop ?_ | refine ⟨rfl, ?_⟩ | refine ⟨Nat.le_of_ble_eq_true rfl, ?_⟩ | refine ⟨.inl rfl, ?_⟩ | refine .inl ⟨_, fun _ => ⟨purA rfl, (by first | exact ok23 awS 2)⟩, .inl rfl, ?_⟩)
    conv => whnf
    rw [awP, show rowsI [3, 4] = [[.int .i64 3], [.int .i64 4]] from rfl]
    refine ⟨fun _ => ⟨rfl, by decide, by decide⟩, ?_⟩
    rw [show [awS.c].getD (0 : Int).toNat [] = awS.c from rfl]
    repeat ((conv => whnf); first | refine Cd.seq ?_ | refine Cd.reg ?_ | refine Cd.block ?_ | refine Cd.cond ?_ | refine Cd.dreg ?_ | refine Cd.skip ?_ | refine Cd.ret ?_ | refine Cd.exit ?_ | refine Cd.loop ?_ | refine ⟨rfl, ?_⟩ | refine ⟨Nat.le_of_ble_eq_true rfl, ?_⟩ | refine ⟨.inl rfl, ?_⟩ | refine .inl ⟨_, fun _ => ⟨purA rfl, (by first | exact ok20 awS | exact ok14 (awL 3) false (by decide))⟩, .inl rfl, ?_⟩)
    conv => whnf
    refine ⟨fun _ => ⟨rfl, by decide, by decide⟩, ?_⟩
    rw [show [awS.c].getD (0 : Int).toNat [] = awS.c from rfl]
    repeat ((conv => whnf); first | refine Cd.seq ?_ | refine Cd.reg ?_ | refine Cd.block ?_ | refine Cd.cond ?_ | refine Cd.dreg ?_ | refine Cd.skip ?_ | refine Cd.ret ?_ | refine Cd.exit ?_ | refine Cd.loop ?_ | refine ⟨rfl, ?_⟩ | refine ⟨Nat.le_of_ble_eq_true rfl, ?_⟩ | refine ⟨.inl rfl, ?_⟩ | refine .inl ⟨_, fun _ => ⟨purA rfl, (by first | exact ok20 awS | exact ok14 (awL 3) false (by decide))⟩, .inl rfl, ?_⟩)
    conv => whnf
    refine ⟨fun _ => ⟨rfl, by decide, by decide⟩, ?_⟩
    rw [show [awS.c].getD (0 : Int).toNat [] = awS.c from rfl]
    repeat ((conv => whnf); first | refine Cd.seq ?_ | refine Cd.reg ?_ | refine Cd.block ?_ | refine Cd.cond ?_ | refine Cd.dreg ?_ | refine Cd.skip ?_ | refine Cd.ret ?_ | refine Cd.exit ?_ | refine Cd.loop ?_ | refine ⟨rfl, ?_⟩ | refine ⟨Nat.le_of_ble_eq_true rfl, ?_⟩ | refine ⟨.inl rfl, ?_⟩ | refine .inl ⟨_, fun _ => ⟨purA rfl, (by first | exact ok20 awS | exact ok14 (awL 3) false (by decide))⟩, .inl rfl, ?_⟩)
    conv => whnf
    refine ⟨fun _ => ⟨rfl, by decide, by decide⟩, ?_⟩
    rw [show ([[.int .i64 3], [.int .i64 4]] : List (List V)).getD (0 : Int).toNat [] = [.int .i64 3] from rfl]
    repeat ((conv => whnf); first | refine Cd.seq ?_ | refine Cd.reg ?_ | refine Cd.block ?_ | refine Cd.cond ?_ | refine Cd.dreg ?_ | refine Cd.skip ?_ | refine Cd.ret ?_ | refine Cd.exit ?_ | refine Cd.loop ?_ | refine ⟨rfl, ?_⟩ | refine ⟨Nat.le_of_ble_eq_true rfl, ?_⟩ | refine ⟨.inl rfl, ?_⟩ | refine .inl ⟨_, fun _ => ⟨purA rfl, (by first | exact ok20 awS | exact ok14 (awL 3) false (by decide))⟩, .inl rfl, ?_⟩)
    conv => whnf
    rw [awC, awSure]
    refine ⟨[], ?_, rfl, trivial, rfl, ?_⟩
    · exact trivial
    try subst hk
    repeat' (first | exact trivial | rfl | exact .inl rfl | exact .inr rfl | exact id | exact (fun h => Bool.noConfusion h) | refine And.intro ?_ ?_)
  · cases h2
end Go.Proofs.Yteelckbeekgfiaa
