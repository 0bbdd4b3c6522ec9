/- Zone: awake. -/
import Derived.Test.YtcifhjkodbaghaaB14
set_option linter.unusedSimpArgs false
set_option linter.unusedVariables false
namespace Go.Proofs.Ytcifhjkodbaghaa
open Go Go.Sk Go.RowKit

/- pagecache/pagecachelaw10.awake -/
def rc31 : RC :=
  (.seq
  (.reg [⟨(some 0), none, (.mv (.c (.bool false)))⟩] [])
  (.seq
  (.regc [⟨(some 11), none, (.bslice 1 [(.int .i64 0)] 2 [(0, (.c (.int .i64 8))), (1, (.c (.int .i64 8)))])⟩] [⟨(some 12), none, (.call 32 [(.t 11)])⟩,
    ⟨(some 10), none, (.mv (.t 12))⟩,
    ⟨(some 13), none, (.extr 0 (.t 10))⟩,
    ⟨(some 14), none, (.extr 1 (.t 10))⟩,
    ⟨(some 1), none, (.mv (.t 13))⟩,
    ⟨(some 2), none, (.mv (.t 14))⟩] [11, 12, 10, 13, 14])
  (.seq
  (.reg [⟨(some 16), none, (.mv (.t 1))⟩,
    ⟨(some 17), none, (.call 18 [(.t 16), (.c (.int .i64 1)), (.c (.bool false))])⟩,
    ⟨(some 15), none, (.mv (.t 17))⟩,
    ⟨(some 18), none, (.extr 0 (.t 15))⟩,
    ⟨(some 19), none, (.extr 1 (.t 15))⟩,
    ⟨(some 20), none, (.extr 2 (.t 15))⟩,
    ⟨(some 3), none, (.mv (.t 18))⟩,
    ⟨(some 4), none, (.mv (.t 19))⟩,
    ⟨(some 5), none, (.mv (.t 20))⟩] [16, 17, 15, 18, 19, 20])
  (.seq
  (.reg [⟨(some 22), none, (.mv (.t 3))⟩,
    ⟨(some 23), none, (.mv (.t 4))⟩,
    ⟨(some 24), none, (.call 20 [(.t 22), (.t 23)])⟩,
    ⟨(some 21), none, (.mv (.t 24))⟩,
    ⟨(some 25), none, (.extr 0 (.t 21))⟩,
    ⟨(some 26), none, (.extr 1 (.t 21))⟩,
    ⟨(some 6), none, (.mv (.t 25))⟩,
    ⟨(some 7), none, (.mv (.t 26))⟩] [22, 23, 24, 21, 25, 26])
  (.seq
  (.reg [⟨(some 28), none, (.mv (.t 6))⟩,
    ⟨(some 29), none, (.mv (.t 4))⟩,
    ⟨(some 30), none, (.call 20 [(.t 28), (.t 29)])⟩,
    ⟨(some 27), none, (.mv (.t 30))⟩,
    ⟨(some 31), none, (.extr 0 (.t 27))⟩,
    ⟨(some 32), none, (.extr 1 (.t 27))⟩,
    ⟨(some 8), none, (.mv (.t 31))⟩,
    ⟨(some 9), none, (.mv (.t 32))⟩] [28, 29, 30, 27, 31, 32, 8])
  (.seq
  (.reg [⟨(some 33), none, (.mv (.t 2))⟩,
    ⟨(some 34), none, (.bin .eql (.t 33) (.c (.int .i64 0)))⟩,
    ⟨(some 35), none, (.mv (.t 34))⟩,
    ⟨(some 36), (some (35, true)), (.mv (.t 5))⟩,
    ⟨(some 37), (some (35, true)), (.bin .eql (.t 36) (.c (.int .i64 0)))⟩,
    ⟨(some 38), none, (.pick (.t 35) (.t 37) (.c (.bool false)))⟩,
    ⟨(some 39), none, (.mv (.t 38))⟩,
    ⟨(some 40), (some (39, true)), (.mv (.t 4))⟩,
    ⟨(some 41), (some (39, true)), (.bin .eql (.t 40) (.c (.int .i64 9)))⟩,
    ⟨(some 42), none, (.pick (.t 39) (.t 41) (.c (.bool false)))⟩,
    ⟨(some 43), none, (.mv (.t 42))⟩,
    ⟨(some 44), (some (43, true)), (.mv (.t 7))⟩,
    ⟨(some 45), (some (43, true)), (.bin .eql (.t 44) (.c (.int .i64 0)))⟩,
    ⟨(some 46), none, (.pick (.t 43) (.t 45) (.c (.bool false)))⟩,
    ⟨(some 47), none, (.mv (.t 46))⟩,
    ⟨(some 48), (some (47, true)), (.mv (.t 9))⟩,
    ⟨(some 49), (some (47, true)), (.bin .eql (.t 48) (.c (.int .i64 5)))⟩,
    ⟨(some 50), none, (.pick (.t 47) (.t 49) (.c (.bool false)))⟩,
    ⟨(some 51), none, (.mv (.t 50))⟩,
    ⟨(some 52), (some (51, true)), (.mv (.t 3))⟩,
    ⟨(some 53), (some (51, true)), (.call 25 [(.t 52)])⟩,
    ⟨(some 54), (some (51, true)), (.bin .eql (.t 53) (.c (.int .i64 15)))⟩,
    ⟨(some 55), none, (.pick (.t 51) (.t 54) (.c (.bool false)))⟩,
    ⟨(some 56), none, (.mv (.t 55))⟩,
    ⟨(some 57), (some (56, true)), (.mv (.t 6))⟩,
    ⟨(some 58), (some (56, true)), (.call 22 [(.t 57)])⟩,
    ⟨(some 59), none, (.pick (.t 56) (.t 58) (.c (.bool false)))⟩,
    ⟨(some 60), none, (.mv (.t 59))⟩,
    ⟨(some 61), (some (60, true)), (.call 22 [(.c (.lst 0 true []))])⟩,
    ⟨(some 62), (some (60, true)), (.un .not (.t 61))⟩,
    ⟨(some 63), none, (.pick (.t 60) (.t 62) (.c (.bool false)))⟩,
    ⟨(some 64), none, (.mv (.t 63))⟩,
    ⟨(some 65), (some (64, true)), (.mv (.t 6))⟩,
    ⟨(some 66), (some (64, true)), (.call 27 [(.t 65)])⟩,
    ⟨(some 67), (some (64, true)), (.un .not (.t 66))⟩,
    ⟨(some 68), none, (.pick (.t 64) (.t 67) (.c (.bool false)))⟩,
    ⟨(some 69), none, (.mv (.t 68))⟩,
    ⟨(some 70), (some (69, true)), (.mv (.t 6))⟩,
    ⟨(some 71), (some (69, true)), (.call 29 [(.t 70)])⟩,
    ⟨(some 72), (some (69, true)), (.bin .eql (.t 71) (.c (.int .i64 0)))⟩,
    ⟨(some 73), none, (.pick (.t 69) (.t 72) (.c (.bool false)))⟩,
    ⟨(some 0), none, (.mv (.t 73))⟩] [33, 34, 35, 36, 37, 38, 39, 40, 41, 42, 43, 44, 45, 46, 47, 48, 49, 50, 51, 52, 53, 54, 55, 56, 57, 58, 59, 60, 61, 62, 63, 64, 65, 66, 67, 68, 69, 70, 71, 72, 73])
  .ret))))))
theorem rcq31 : resC Go.Proofs.Try.prog Go.Proofs.Try.f31.ntmps ((Go.Proofs.Try.f31.body).getD .skip) = some (strip rc31) := by kernel_rfl
def rv31 : List RV := [(.tmp 0)]
theorem rvq31 : Go.Proofs.Try.f31.results.toList.mapM (resRV Go.Proofs.Try.prog) = some rv31 := by kernel_rfl

def z10 : List Zn := (newF [8, 8]).1
def m10 : List Zn := (takeG (z10.map exZ) z10 1 false).1
def f10 : Int := (takeG (z10.map exZ) z10 1 false).2.1
def n10 : List Zn := (giveG (m10.map exZ) m10 f10).1
theorem f10_eq : f10 = 9 := by decide
theorem z10_small : SmallZ z10 := ⟨by decide, by decide⟩
theorem m10_small : SmallZ m10 := ⟨by decide, by decide⟩
theorem n10_small : SmallZ n10 := ⟨by decide, by decide⟩
theorem VR.nilAt {O : Nat → Prop} {w : World} {σ : Sg} {e e' : Nat} {t : Bool} {v : Value} (h : VR O w σ (.lst e t []) v) : VR O w σ (.lst e' t []) v := by
  generalize hx : V.lst e t [] = x at h
  cases h with
  | @lst _ es t' xs a cap b o cv ha hes hcap ht h1 h3 h2 =>
    cases hx
    exact .lst (xs := []) b o cv (fun h => absurd rfl h) (fun x hx => by cases hx) hcap ht (fun i c hi => absurd hi (by simp)) (fun i c hi => absurd hi (by simp)) fun i x c y hx => by simp at hx
  | _ => cases hx
theorem FnC.nilAt {f : FuncId} {e e' : Nat} {t : Bool} {res : V} (h : FnC Try.prog f [] [.lst e' t []] res []) : FnC Try.prog f [] [.lst e t []] res [] := fun U σ w cargs hR hn hargs => h U σ w cargs hR hn fun i v c hi hc => by
  cases i with
  | zero => obtain rfl := Option.some.inj hi; exact VR.nilAt (hargs 0 _ c rfl hc)
  | succ i => simp at hi
theorem ok22n : FnC Try.prog 22 [] [.lst 0 true []] (.bool (checkZ [])) [] := FnC.nilAt (ok22 [] true ⟨by decide, fun z hz => by cases hz⟩)
set_option maxRecDepth 20000 in
set_option maxHeartbeats 1000000 in
theorem ok31 : FnC Try.prog 31 [] [] (.bool true) [] := by
  refine fn_okC (ob0 := []) (rc := rc31) (rvs := rv31) Try.func31 rfl rcq31 rvq31 (show 0 ≤ _ by decide) ?_
  repeat ((conv => whnf); first | refine Cd.seq ?_ | refine Cd.cut ?_ | refine Cd.reg ?_ | refine Cd.block ?_ | refine Cd.cond ?_ | refine Cd.dreg ?_ | refine Cd.skip ?_ | refine Cd.ret ?_ | refine Cd.exit ?_ | refine Cd.loop ?_ | refine ⟨rfl, ?_⟩ | refine ⟨Nat.le_of_ble_eq_true rfl, ?_⟩ | refine ⟨.inl rfl, ?_⟩ | refine ⟨fun h => Bool.noConfusion h, ?_⟩)
  conv => whnf
  refine ⟨Unit, fun _ => True, fun _ => ⟨[(0, ⟨[], true, .bool false⟩), (11, ⟨[], true, .lst 1 false (rowsI [8, 8])⟩)], [], 0⟩, ?_, fun _ _ => ?_⟩
  · repeat ((conv => whnf); first | refine Cd.seq ?_ | refine Cd.cut ?_ | refine Cd.reg ?_ | refine Cd.block ?_ | refine Cd.cond ?_ | refine Cd.dreg ?_ | refine Cd.skip ?_ | refine Cd.ret ?_ | refine Cd.exit ?_ | refine Cd.loop ?_ | refine ⟨rfl, ?_⟩ | refine ⟨Nat.le_of_ble_eq_true rfl, ?_⟩ | refine ⟨.inl rfl, ?_⟩ | refine ⟨fun h => Bool.noConfusion h, ?_⟩)
    conv => whnf
    refine ⟨(), trivial, ?_⟩
    refine viewI [] rfl rfl ?_ rfl ?_ rfl ?_
    repeat' (first | exact trivial | rfl | exact .inl rfl | exact .inr rfl | exact id | exact (fun h => Bool.noConfusion h) | refine And.intro ?_ ?_)
    exact Nat.le_refl 2
  repeat ((conv => whnf); first | refine Cd.seq ?_ | refine Cd.cut ?_ | refine Cd.reg ?_ | refine Cd.block ?_ | refine Cd.cond ?_ | refine Cd.dreg ?_ | refine Cd.skip ?_ | refine Cd.ret ?_ | refine Cd.exit ?_ | refine Cd.loop ?_ | refine ⟨rfl, ?_⟩ | refine ⟨Nat.le_of_ble_eq_true rfl, ?_⟩ | refine ⟨.inl rfl, ?_⟩ | refine ⟨fun h => Bool.noConfusion h, ?_⟩ | refine .inl ⟨_, fun _ => ⟨purA rfl, (by first | exact ok32 [8, 8] false (by decide) | exact ok18 z10 false 1 false z10_small | exact ok20 m10 false f10 m10_small | exact ok20 n10 false f10 n10_small | exact ok25 m10 false m10_small | exact ok22 n10 false n10_small | exact ok22n | exact ok27 n10 false n10_small | exact ok29 n10 false n10_small)⟩, .inl rfl, ?_⟩)
  conv => whnf
  refine ⟨[], ?_, rfl, trivial, rfl, ?_⟩
  · exact trivial
  try subst hk
  repeat' (first | exact trivial | rfl | exact .inl rfl | exact .inr rfl | exact id | exact (fun h => Bool.noConfusion h) | refine And.intro ?_ ?_)
end Go.Proofs.Ytcifhjkodbaghaa
