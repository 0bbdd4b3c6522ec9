/- Zone: the law ZoneOnce, as a contract. -/
import Derived.Test.YtcifhjkodbaghaaB21
set_option linter.unusedSimpArgs false
set_option linter.unusedVariables false
namespace Go.Proofs.Ytcifhjkodbaghaa
open Go Go.Sk Go.RowKit

/- pagecache/pagecachelaw10.ZoneOnce -/
def rc5 : RC :=
  (.seq
  (.reg [⟨(some 2), none, (.mv (.c (.bool false)))⟩] [])
  (.seq
  (.reg [⟨(some 16), none, (.mv (.t 0))⟩,
    ⟨(some 17), none, (.build [(.lst 0 true []), (.int .i64 0)] [(0, (1, (.t 16)))])⟩,
    ⟨(some 18), none, (.box (.t 17))⟩,
    ⟨(some 3), none, (.mv (.t 18))⟩] [16, 17, 18])
  (.seq
  (.regc [⟨(some 20), none, (.mv (.t 3))⟩,
    ⟨(some 21), none, (.call 16 [(.t 20), (.c (.int .i64 6))])⟩,
    ⟨(some 22), none, (.bin .add (.c (.int .i64 1)) (.t 21))⟩,
    ⟨(some 23), none, (.mv (.t 3))⟩,
    ⟨(some 24), none, (.call 16 [(.t 23), (.c (.int .i64 6))])⟩,
    ⟨(some 25), none, (.bin .add (.c (.int .i64 1)) (.t 24))⟩,
    ⟨(some 26), none, (.bslice 1 [(.int .i64 0)] 2 [(0, (.t 22)), (1, (.t 25))])⟩] [⟨(some 27), none, (.call 32 [(.t 26)])⟩,
    ⟨(some 19), none, (.mv (.t 27))⟩,
    ⟨(some 28), none, (.extr 0 (.t 19))⟩,
    ⟨(some 29), none, (.extr 1 (.t 19))⟩,
    ⟨(some 4), none, (.mv (.t 28))⟩,
    ⟨(some 5), none, (.mv (.t 29))⟩] [20, 21, 22, 23, 24, 25, 26, 27, 19, 28, 29])
  (.seq
  (.seq
  (.reg [⟨(some 30), none, (.mv (.t 5))⟩,
    ⟨(some 31), none, (.bin .neq (.t 30) (.c (.int .i64 0)))⟩,
    ⟨(some 32), none, (.mv (.t 31))⟩,
    ⟨(some 33), (some (32, false)), (.mv (.t 4))⟩,
    ⟨(some 34), (some (32, false)), (.len (.t 33))⟩,
    ⟨(some 35), (some (32, false)), (.bin .neq (.t 34) (.c (.int .i64 2)))⟩,
    ⟨(some 36), none, (.pick (.t 32) (.c (.bool true)) (.t 35))⟩] [30, 31, 32, 33, 34, 35])
  (.cond (.t 36)
   (.seq
   (.reg [⟨(some 2), none, (.mv (.c (.bool false)))⟩] [])
   .ret)
   .skip))
  (.seq
  (.dreg 6144 6304 [⟨(some 37), none, (.mv (.t 4))⟩,
    ⟨(some 38), none, (.iaddr 6 (.t 37) (.c (.int .i64 0)))⟩,
    ⟨(some 39), none, (.faddr 1 (.t 38))⟩,
    ⟨(some 40), none, (.ld false 1 (.t 39))⟩,
    ⟨(some 41), none, (.mv (.t 4))⟩,
    ⟨(some 42), none, (.iaddr 6 (.t 41) (.c (.int .i64 1)))⟩,
    ⟨(some 43), none, (.faddr 1 (.t 42))⟩,
    ⟨(some 44), none, (.ld false 1 (.t 43))⟩,
    ⟨(some 45), none, (.bin .add (.t 40) (.t 44))⟩,
    ⟨(some 6), none, (.mv (.t 45))⟩] [37, 38, 39, 40, 41, 42, 43, 44, 45] [[], [0], [1, 0], [2, 0, 1], [], [4], [5, 4], [6, 4, 5], [3, 1, 0, 2, 7, 5, 4, 6], [8, 6, 4, 5, 7, 2, 0, 1, 3]] [6144, 6160, 6176, 6192, 6208, 6224, 6240, 6256, 6272, 6288])
  (.seq
  (.reg [⟨(some 7), none, (.mv (.c (.lst 0 true [])))⟩] [])
  (.seq
  (.seq
  (.reg [⟨(some 8), none, (.mv (.c (.int .i64 0)))⟩] [])
  (.block 0
   (.loop
    (.seq
    (.seq
    (.reg [⟨(some 46), none, (.mv (.t 8))⟩,
      ⟨(some 47), none, (.bin .lss (.t 46) (.c (.int .i64 30)))⟩] [46])
    (.cond (.t 47)
     .skip
     (.exit 0)))
    (.seq
    (.block 1
     (.cut
     (.seq
     (.reg [⟨(some 50), none, (.mv (.t 7))⟩,
       ⟨(some 51), none, (.len (.t 50))⟩,
       ⟨(some 52), none, (.bin .gtr (.t 51) (.c (.int .i64 0)))⟩,
       ⟨(some 53), none, (.mv (.t 52))⟩,
       ⟨(some 54), (some (53, true)), (.mv (.t 3))⟩,
       ⟨(some 55), (some (53, true)), (.call 16 [(.t 54), (.c (.int .i64 3))])⟩,
       ⟨(some 56), (some (53, true)), (.bin .eql (.t 55) (.c (.int .i64 0)))⟩,
       ⟨(some 57), none, (.pick (.t 53) (.t 56) (.c (.bool false)))⟩] [50, 51, 52, 53, 54, 55, 56])
     (.cond (.t 57)
      (.seq
      (.reg [⟨(some 58), none, (.mv (.t 3))⟩,
        ⟨(some 59), none, (.mv (.t 7))⟩,
        ⟨(some 60), none, (.len (.t 59))⟩,
        ⟨(some 61), none, (.call 16 [(.t 58), (.t 60)])⟩,
        ⟨(some 9), none, (.mv (.t 61))⟩] [58, 59, 60, 61])
      (.seq
      (.reg [⟨(some 63), none, (.mv (.t 4))⟩,
        ⟨(some 64), none, (.mv (.t 7))⟩,
        ⟨(some 65), none, (.mv (.t 9))⟩,
        ⟨(some 66), none, (.iaddr 1 (.t 64) (.t 65))⟩,
        ⟨(some 67), none, (.ld false 1 (.t 66))⟩,
        ⟨(some 68), none, (.call 20 [(.t 63), (.t 67)])⟩,
        ⟨(some 62), none, (.mv (.t 68))⟩,
        ⟨(some 69), none, (.extr 0 (.t 62))⟩,
        ⟨(some 70), none, (.extr 1 (.t 62))⟩,
        ⟨(some 10), none, (.mv (.t 69))⟩,
        ⟨(some 11), none, (.mv (.t 70))⟩] [63, 64, 65, 66, 67, 68, 62, 69, 70])
      (.seq
      (.seq
      (.reg [⟨(some 71), none, (.mv (.t 11))⟩,
        ⟨(some 72), none, (.bin .neq (.t 71) (.c (.int .i64 0)))⟩] [71])
      (.cond (.t 72)
       (.seq
       (.reg [⟨(some 2), none, (.mv (.c (.bool false)))⟩] [])
       .ret)
       .skip))
      (.seq
      (.reg [⟨(some 73), none, (.mv (.t 10))⟩,
        ⟨(some 4), none, (.mv (.t 73))⟩] [73])
      (.seq
      (.dreg 17408 17568 [⟨(some 74), none, (.mv (.t 7))⟩,
        ⟨(some 75), none, (.mv (.t 9))⟩,
        ⟨(some 76), none, (.mv (.t 9))⟩,
        ⟨(some 77), none, (.slc3 1 (.t 74) none (.t 75) (.t 76))⟩,
        ⟨(some 78), none, (.mv (.t 7))⟩,
        ⟨(some 79), none, (.mv (.t 9))⟩,
        ⟨(some 80), none, (.bin .add (.t 79) (.c (.int .i64 1)))⟩,
        ⟨(some 81), none, (.slc 1 (.t 78) (some (.t 80)) none)⟩,
        ⟨(some 82), none, (.app 1 8 (.t 77) (.t 81))⟩,
        ⟨(some 7), none, (.mv (.t 82))⟩] [74, 75, 76, 77, 78, 79, 80, 81, 82] [[], [], [], [0, 1, 2], [], [], [5], [4, 6, 5], [3, 2, 1, 0, 7, 5, 6, 4], [8, 4, 6, 5, 7, 0, 1, 2, 3]] [17408, 17424, 17440, 17456, 17472, 17488, 17504, 17520, 17536, 17552])
      (.exit 1))))))
      .skip))
     (.seq
     (.reg [⟨(some 84), none, (.mv (.t 4))⟩,
       ⟨(some 85), none, (.call 18 [(.t 84), (.c (.int .i64 1)), (.c (.bool true))])⟩,
       ⟨(some 83), none, (.mv (.t 85))⟩,
       ⟨(some 86), none, (.extr 0 (.t 83))⟩,
       ⟨(some 87), none, (.extr 1 (.t 83))⟩,
       ⟨(some 88), none, (.extr 2 (.t 83))⟩,
       ⟨(some 12), none, (.mv (.t 86))⟩,
       ⟨(some 13), none, (.mv (.t 87))⟩,
       ⟨(some 14), none, (.mv (.t 88))⟩] [84, 85, 83, 86, 87, 88])
     (.seq
     (.seq
     (.reg [⟨(some 89), none, (.mv (.t 14))⟩,
       ⟨(some 90), none, (.bin .eql (.t 89) (.c (.int .i64 0)))⟩,
       ⟨(some 91), none, (.mv (.t 7))⟩,
       ⟨(some 92), none, (.len (.t 91))⟩,
       ⟨(some 93), none, (.mv (.t 6))⟩,
       ⟨(some 94), none, (.bin .lss (.t 92) (.t 93))⟩,
       ⟨(some 95), none, (.eqb true (.t 90) (.t 94))⟩] [89, 90, 91, 92, 93, 94])
     (.cond (.t 95)
      (.seq
      (.reg [⟨(some 2), none, (.mv (.c (.bool false)))⟩] [])
      .ret)
      .skip))
     (.seq
     (.seq
     (.reg [⟨(some 96), none, (.mv (.t 14))⟩,
       ⟨(some 97), none, (.bin .neq (.t 96) (.c (.int .i64 0)))⟩] [96])
     (.cond (.t 97)
      (.exit 1)
      .skip))
     (.seq
     (.seq
     (.reg [⟨(some 15), none, (.mv (.c (.int .i64 0)))⟩] [])
     (.block 2
      (.loop
       (.seq
       (.seq
       (.reg [⟨(some 98), none, (.mv (.t 15))⟩,
         ⟨(some 99), none, (.mv (.t 7))⟩,
         ⟨(some 100), none, (.len (.t 99))⟩,
         ⟨(some 101), none, (.bin .lss (.t 98) (.t 100))⟩] [98, 99, 100])
       (.cond (.t 101)
        .skip
        (.exit 2)))
       (.seq
       (.block 3
        (.seq
        (.reg [⟨(some 104), none, (.mv (.t 7))⟩,
          ⟨(some 105), none, (.mv (.t 15))⟩,
          ⟨(some 106), none, (.iaddr 1 (.t 104) (.t 105))⟩,
          ⟨(some 107), none, (.ld false 1 (.t 106))⟩,
          ⟨(some 108), none, (.mv (.t 13))⟩,
          ⟨(some 109), none, (.bin .eql (.t 107) (.t 108))⟩] [104, 105, 106, 107, 108])
        (.cond (.t 109)
         (.seq
         (.reg [⟨(some 2), none, (.mv (.c (.bool false)))⟩] [])
         .ret)
         .skip)))
       (.reg [⟨(some 102), none, (.mv (.t 15))⟩,
         ⟨(some 103), none, (.bin .add (.t 102) (.c (.int .i64 1)))⟩,
         ⟨(some 15), none, (.mv (.t 103))⟩] [102, 103]))))))
     (.seq
     (.reg [⟨(some 110), none, (.mv (.t 12))⟩,
       ⟨(some 111), none, (.mv (.t 7))⟩,
       ⟨(some 112), none, (.mv (.t 13))⟩,
       ⟨(some 113), none, (.bslice 1 [(.int .i64 0)] 1 [(0, (.t 112))])⟩,
       ⟨(some 114), none, (.app 1 8 (.t 111) (.t 113))⟩,
       ⟨(some 4), none, (.mv (.t 110))⟩,
       ⟨(some 7), none, (.mv (.t 114))⟩] [110, 111, 112, 113, 114])
     (.seq
     (.reg [⟨(some 115), none, (.mv (.t 4))⟩,
       ⟨(some 116), none, (.call 25 [(.t 115)])⟩,
       ⟨(some 117), none, (.mv (.t 7))⟩,
       ⟨(some 118), none, (.len (.t 117))⟩,
       ⟨(some 119), none, (.bin .add (.t 116) (.t 118))⟩,
       ⟨(some 120), none, (.mv (.t 6))⟩,
       ⟨(some 121), none, (.bin .neq (.t 119) (.t 120))⟩,
       ⟨(some 122), none, (.mv (.t 121))⟩,
       ⟨(some 123), (some (122, false)), (.mv (.t 4))⟩,
       ⟨(some 124), (some (122, false)), (.call 22 [(.t 123)])⟩,
       ⟨(some 125), (some (122, false)), (.un .not (.t 124))⟩,
       ⟨(some 126), none, (.pick (.t 122) (.c (.bool true)) (.t 125))⟩] [115, 116, 117, 118, 119, 120, 121, 122, 123, 124, 125])
     (.cond (.t 126)
      (.seq
      (.reg [⟨(some 2), none, (.mv (.c (.bool false)))⟩] [])
      .ret)
      .skip)))))))))
    (.reg [⟨(some 48), none, (.mv (.t 8))⟩,
      ⟨(some 49), none, (.bin .add (.t 48) (.c (.int .i64 1)))⟩,
      ⟨(some 8), none, (.mv (.t 49))⟩] [48, 49]))))))
  (.seq
  (.reg [⟨(some 127), none, (.call 31 [])⟩,
    ⟨(some 2), none, (.mv (.t 127))⟩] [127])
  .ret))))))))
theorem rcq5 : resC Go.Proofs.Try.prog Go.Proofs.Try.f5.ntmps ((Go.Proofs.Try.f5.body).getD .skip) = some (strip rc5) := by kernel_rfl
def rv5 : List RV := [(.tmp 2)]
theorem rvq5 : Go.Proofs.Try.f5.results.toList.mapM (resRV Go.Proofs.Try.prog) = some rv5 := by kernel_rfl

set_option maxRecDepth 20000 in
set_option maxHeartbeats 1000000 in
theorem ok5 (L : List Int) (hL : (L.length : Int) < 2 ^ 62) : FnC Try.prog 5 [] [.lst 1 false (rowsI L)] (.bool true) [] := by
  refine fn_okC (ob0 := []) (rc := rc5) (rvs := rv5) Try.func5 rfl rcq5 rvq5 (show 1 ≤ _ by decide) ?_
  have a1 := nxV_in L 0 6 (by decide) (by decide)
  have a2 := nxV_in L (nxI L 0) 6 (by decide) (by decide)
  have hJ1 := nxI_in L 0 (by omega)
  have hJ2 := nxI_in L _ hJ1
  repeat ((conv => whnf); first | refine Cd.seq ?_ | refine Cd.cut ?_ | refine Cd.reg ?_ | refine Cd.block ?_ | refine Cd.cond ?_ | refine Cd.dreg ?_ | refine Cd.skip ?_ | refine Cd.ret ?_ | refine Cd.exit ?_ | refine Cd.loop ?_ | refine ⟨rfl, ?_⟩ | refine ⟨Nat.le_of_ble_eq_true rfl, ?_⟩ | refine ⟨.inl rfl, ?_⟩ | refine ⟨fun h => Bool.noConfusion h, ?_⟩ | refine .inr ⟨fun _ => ⟨[0], _, _, _, ok16n L _ _ hL (by omega) (by omega) (by omega), ⟨rfl, rfl, trivial⟩, rfl, rfl, rfl, rfl, ?_⟩, (by intro h; cases h)⟩)
  conv => whnf
  refine ⟨Unit, fun _ => True, fun _ => ⟨[(3, ⟨[], true, .ptr 0 0 0⟩), (26, ⟨[], true, .lst 1 false (rowsI [1 + nxV L 0 6, 1 + nxV L (nxI L 0) 6])⟩)], [(0, tpO L (nxI L (nxI L 0)))], 1⟩, ?_, fun _ _ => ?_⟩
  · repeat ((conv => whnf); first | refine Cd.seq ?_ | refine Cd.cut ?_ | refine Cd.reg ?_ | refine Cd.block ?_ | refine Cd.cond ?_ | refine Cd.dreg ?_ | refine Cd.skip ?_ | refine Cd.ret ?_ | refine Cd.exit ?_ | refine Cd.loop ?_ | refine ⟨rfl, ?_⟩ | refine ⟨Nat.le_of_ble_eq_true rfl, ?_⟩ | refine ⟨.inl rfl, ?_⟩ | refine ⟨fun h => Bool.noConfusion h, ?_⟩ | refine .inr ⟨fun _ => ⟨[0], _, _, _, ok16n L _ _ hL (by omega) (by omega) (by omega), ⟨rfl, rfl, trivial⟩, rfl, rfl, rfl, rfl, ?_⟩, (by intro h; cases h)⟩)
    conv => whnf
    refine .inr ⟨fun _ => ⟨[0], _, _, _, ok16n L 0 6 hL (by omega) (by decide) (by decide), ⟨rfl, rfl, trivial⟩, rfl, rfl, rfl, rfl, ?_⟩, (by intro h; cases h)⟩
    repeat ((conv => whnf); first | refine Cd.seq ?_ | refine Cd.cut ?_ | refine Cd.reg ?_ | refine Cd.block ?_ | refine Cd.cond ?_ | refine Cd.dreg ?_ | refine Cd.skip ?_ | refine Cd.ret ?_ | refine Cd.exit ?_ | refine Cd.loop ?_ | refine ⟨rfl, ?_⟩ | refine ⟨Nat.le_of_ble_eq_true rfl, ?_⟩ | refine ⟨.inl rfl, ?_⟩ | refine ⟨fun h => Bool.noConfusion h, ?_⟩ | refine .inr ⟨fun _ => ⟨[0], _, _, _, ok16n L _ _ hL (by omega) (by omega) (by omega), ⟨rfl, rfl, trivial⟩, rfl, rfl, rfl, rfl, ?_⟩, (by intro h; cases h)⟩)
    conv => whnf
    rw [wrapI (n := 1 + nxV L 0 6) (by omega) (by omega), wrapI (n := 1 + nxV L (nxI L 0) 6) (by omega) (by omega)]
    refine ⟨(), trivial, ?_⟩
    refine viewI [some 0] rfl rfl ?_ rfl ?_ rfl ?_
    repeat' (first | exact trivial | rfl | exact .inl rfl | exact .inr rfl | exact id | exact (fun h => Bool.noConfusion h) | refine And.intro ?_ ?_)
    exact Nat.le_refl 2
  generalize nxI L (nxI L 0) = J at hJ2 ⊢
  obtain ⟨h0, hI⟩ := OnceI.new (a := 1 + nxV L 0 6) (b := 1 + nxV L (nxI L 0) 6) (by omega) (by omega)
  generalize hall : (1 + nxV L 0 6) + (1 + nxV L (nxI L 0) 6) = all at hI
  have hall0 : 2 ≤ all ∧ all ≤ 12 := by omega
  repeat ((conv => whnf); first | refine Cd.seq ?_ | refine Cd.cut ?_ | refine Cd.reg ?_ | refine Cd.block ?_ | refine Cd.cond ?_ | refine Cd.dreg ?_ | refine Cd.skip ?_ | refine Cd.ret ?_ | refine Cd.exit ?_ | refine Cd.loop ?_ | refine ⟨rfl, ?_⟩ | refine ⟨Nat.le_of_ble_eq_true rfl, ?_⟩ | refine ⟨.inl rfl, ?_⟩ | refine ⟨fun h => Bool.noConfusion h, ?_⟩ | refine .inl ⟨_, fun _ => ⟨purA rfl, (by first | exact ok32 [1 + nxV L 0 6, 1 + nxV L (nxI L 0) 6] false (by simp))⟩, .inl rfl, ?_⟩ | refine .inr ⟨fun _ => ⟨[0], _, _, _, ok16n L _ _ hL (by omega) (by omega) (by omega), ⟨rfl, rfl, trivial⟩, rfl, rfl, rfl, rfl, ?_⟩, (by intro h; cases h)⟩)
  conv => whnf
  rw [h0]
  generalize (newF [1 + nxV L 0 6, 1 + nxV L (nxI L 0) 6]).1 = x at hI ⊢
  obtain ⟨z0, z1, rfl⟩ : ∃ z0 z1, x = [z0, z1] := by
    have := hI.len
    match x, this with
    | [z0, z1], _ => exact ⟨z0, z1, rfl⟩
  have hs2 : z0.size + z1.size = all := by have := hI.size; simp only [sizeZ, sumZ] at this; omega
  repeat ((conv => whnf); first | refine Cd.seq ?_ | refine Cd.cut ?_ | refine Cd.reg ?_ | refine Cd.block ?_ | refine Cd.cond ?_ | refine Cd.dreg ?_ | refine Cd.skip ?_ | refine Cd.ret ?_ | refine Cd.exit ?_ | refine Cd.loop ?_ | refine ⟨rfl, ?_⟩ | refine ⟨Nat.le_of_ble_eq_true rfl, ?_⟩ | refine ⟨.inl rfl, ?_⟩ | refine ⟨fun h => Bool.noConfusion h, ?_⟩ | refine ⟨?_, fun h => Bool.noConfusion h⟩ | refine fun (_ : false = false) => ?_ | refine fun (_ : true = true) => ?_ | refine .inr ⟨fun _ => ⟨[0], _, _, _, ok16n L _ _ hL (by omega) (by omega) (by omega), ⟨rfl, rfl, trivial⟩, rfl, rfl, rfl, rfl, ?_⟩, (by intro h; cases h)⟩)
  conv => whnf
  refine ⟨fun _ => ⟨rfl, Int.le_refl 0, by show (0 : Int) < 2; decide⟩, ?_⟩
  repeat ((conv => whnf); first | refine Cd.seq ?_ | refine Cd.cut ?_ | refine Cd.reg ?_ | refine Cd.block ?_ | refine Cd.cond ?_ | refine Cd.dreg ?_ | refine Cd.skip ?_ | refine Cd.ret ?_ | refine Cd.exit ?_ | refine Cd.loop ?_ | refine ⟨rfl, ?_⟩ | refine ⟨Nat.le_of_ble_eq_true rfl, ?_⟩ | refine ⟨.inl rfl, ?_⟩ | refine ⟨fun h => Bool.noConfusion h, ?_⟩ | refine ⟨?_, fun h => Bool.noConfusion h⟩ | refine fun (_ : false = false) => ?_ | refine fun (_ : true = true) => ?_ | refine .inr ⟨fun _ => ⟨[0], _, _, _, ok16n L _ _ hL (by omega) (by omega) (by omega), ⟨rfl, rfl, trivial⟩, rfl, rfl, rfl, rfl, ?_⟩, (by intro h; cases h)⟩)
  conv => whnf
  refine ⟨fun _ => ⟨rfl, by decide, by show (1 : Int) < 2; decide⟩, ?_⟩
  repeat ((conv => whnf); first | refine Cd.seq ?_ | refine Cd.cut ?_ | refine Cd.reg ?_ | refine Cd.block ?_ | refine Cd.cond ?_ | refine Cd.dreg ?_ | refine Cd.skip ?_ | refine Cd.ret ?_ | refine Cd.exit ?_ | refine Cd.loop ?_ | refine ⟨rfl, ?_⟩ | refine ⟨Nat.le_of_ble_eq_true rfl, ?_⟩ | refine ⟨.inl rfl, ?_⟩ | refine ⟨fun h => Bool.noConfusion h, ?_⟩ | refine ⟨?_, fun h => Bool.noConfusion h⟩ | refine fun (_ : false = false) => ?_ | refine fun (_ : true = true) => ?_ | refine .inr ⟨fun _ => ⟨[0], _, _, _, ok16n L _ _ hL (by omega) (by omega) (by omega), ⟨rfl, rfl, trivial⟩, rfl, rfl, rfl, rfl, ?_⟩, (by intro h; cases h)⟩)
  conv => whnf
  rw [hs2, wrapI (n := all) (by omega) (by omega)]
  repeat ((conv => whnf); first | refine Cd.seq ?_ | refine Cd.cut ?_ | refine Cd.reg ?_ | refine Cd.block ?_ | refine Cd.cond ?_ | refine Cd.dreg ?_ | refine Cd.skip ?_ | refine Cd.ret ?_ | refine Cd.exit ?_ | refine Cd.loop ?_ | refine ⟨rfl, ?_⟩ | refine ⟨Nat.le_of_ble_eq_true rfl, ?_⟩ | refine ⟨.inl rfl, ?_⟩ | refine ⟨fun h => Bool.noConfusion h, ?_⟩ | refine .inr ⟨fun _ => ⟨[0], _, _, _, ok16n L _ _ hL (by omega) (by omega) (by omega), ⟨rfl, rfl, trivial⟩, rfl, rfl, rfl, rfl, ?_⟩, (by intro h; cases h)⟩)
  conv => whnf
  refine ⟨Nat × List Zn × List Int × Nat, fun p => (p.1 ≤ 30 ∧ p.2.2.2 ≤ L.length) ∧ OnceI all p.2.1 p.2.2.1, fun p => ⟨[(3, ⟨[], true, .ptr 0 0 0⟩), (4, ⟨[], true, .lst 6 false (rowsZ p.2.1)⟩), (6, ⟨[], true, .int .i64 all⟩), (7, ⟨[], true, .sl 1 0 p.2.2.1.length⟩), (8, ⟨[], true, .int .i64 (p.1 : Int)⟩)],
    [(0, tpO L p.2.2.2), (1, .row 1 (rowsI p.2.2.1))], 2⟩, fun p => 30 - p.1, ⟨(0, [z0, z1], [], J), ⟨⟨by simp, hJ2⟩, hI⟩, ?_⟩, fun p hp => ?_⟩
  · refine viewI [some 0, none] rfl rfl ?_ rfl ?_ rfl ?_
    repeat' (first | exact trivial | rfl | exact .inl rfl | exact .inr rfl | exact id | exact (fun h => Bool.noConfusion h) | refine And.intro ?_ ?_)
  clear hI hs2 h0
  obtain ⟨n, x, tk, J⟩ := p
  obtain ⟨⟨hp1, hp2⟩, hI⟩ := hp
  dsimp only at hp1 hp2 hI ⊢
  have hJ3 := nxI_in L J hp2
  have hJ4 := nxI_in L _ hJ3
  have hsm := check_small hI.chk
  have hln := hI.small (by omega)
  repeat ((conv => whnf); first | refine Cd.seq ?_ | refine Cd.cut ?_ | refine Cd.reg ?_ | refine Cd.block ?_ | refine Cd.cond ?_ | refine Cd.dreg ?_ | refine Cd.skip ?_ | refine Cd.ret ?_ | refine Cd.exit ?_ | refine Cd.loop ?_ | refine ⟨rfl, ?_⟩ | refine ⟨Nat.le_of_ble_eq_true rfl, ?_⟩ | refine ⟨.inl rfl, ?_⟩ | refine ⟨fun h => Bool.noConfusion h, ?_⟩ | refine .inr ⟨fun _ => ⟨[0], _, _, _, ok16n L _ _ hL (by omega) (by omega) (by omega), ⟨rfl, rfl, trivial⟩, rfl, rfl, rfl, rfl, ?_⟩, (by intro h; cases h)⟩)
  conv => whnf
  refine ⟨fun h1 => ?_, fun h1 => ?_⟩ <;> try simp only [Bool.cond_true_left, Bool.cond_false_right, Bool.not_eq_true', Bool.not_eq_false', Bool.not_not] at h1
  · have h1 : n < 30 := by simp at h1; omega
    repeat ((conv => whnf); first | refine Cd.seq ?_ | refine Cd.cut ?_ | refine Cd.reg ?_ | refine Cd.block ?_ | refine Cd.cond ?_ | refine Cd.dreg ?_ | refine Cd.skip ?_ | refine Cd.ret ?_ | refine Cd.exit ?_ | refine Cd.loop ?_ | refine ⟨rfl, ?_⟩ | refine ⟨Nat.le_of_ble_eq_true rfl, ?_⟩ | refine ⟨.inl rfl, ?_⟩ | refine ⟨fun h => Bool.noConfusion h, ?_⟩ | refine .inr ⟨fun _ => ⟨[0], _, _, _, ok16n L _ _ hL (by omega) (by omega) (by omega), ⟨rfl, rfl, trivial⟩, rfl, rfl, rfl, rfl, ?_⟩, (by intro h; cases h)⟩)
    conv => whnf
    have hw8 : IntKind.i64.wrap ((n : Int) + 1) = ((n + 1 : Nat) : Int) := by rw [wrapI (by omega) (by omega)]; omega
    refine ⟨Nat, fun J' => J' ≤ L.length, fun J' => ⟨[(3, ⟨[], true, .ptr 0 0 0⟩), (4, ⟨[], true, .lst 6 false (rowsZ x)⟩), (6, ⟨[], true, .int .i64 all⟩), (7, ⟨[], true, .sl 1 0 tk.length⟩), (8, ⟨[], true, .int .i64 (n : Int)⟩)],
      [(0, tpO L J'), (1, .row 1 (rowsI tk))], 2⟩, ?_, fun J' hJ' => ?_⟩
    · repeat ((conv => whnf); first | refine Cd.seq ?_ | refine Cd.cut ?_ | refine Cd.reg ?_ | refine Cd.block ?_ | refine Cd.cond ?_ | refine Cd.dreg ?_ | refine Cd.skip ?_ | refine Cd.ret ?_ | refine Cd.exit ?_ | refine Cd.loop ?_ | refine ⟨rfl, ?_⟩ | refine ⟨Nat.le_of_ble_eq_true rfl, ?_⟩ | refine ⟨.inl rfl, ?_⟩ | refine ⟨fun h => Bool.noConfusion h, ?_⟩ | refine .inr ⟨fun _ => ⟨[0], _, _, _, ok16n L _ _ hL (by omega) (by omega) (by omega), ⟨rfl, rfl, trivial⟩, rfl, rfl, rfl, rfl, ?_⟩, (by intro h; cases h)⟩)
      conv => whnf
      by_cases hb : tk = []
      · have hb : decide (0 < (tk.length : Int)) = false := by simp [hb]
        rw [hb]
        refine .inr ⟨fun h => (by cases h), fun _ => ?_⟩
        repeat ((conv => whnf); first | refine Cd.seq ?_ | refine Cd.cut ?_ | refine Cd.reg ?_ | refine Cd.block ?_ | refine Cd.cond ?_ | refine Cd.dreg ?_ | refine Cd.skip ?_ | refine Cd.ret ?_ | refine Cd.exit ?_ | refine Cd.loop ?_ | refine ⟨rfl, ?_⟩ | refine ⟨Nat.le_of_ble_eq_true rfl, ?_⟩ | refine ⟨.inl rfl, ?_⟩ | refine ⟨fun h => Bool.noConfusion h, ?_⟩ | refine ⟨?_, fun h => Bool.noConfusion h⟩ | refine fun (_ : false = false) => ?_ | refine fun (_ : true = true) => ?_ | refine .inr ⟨fun _ => ⟨[0], _, _, _, ok16n L _ _ hL (by omega) (by omega) (by omega), ⟨rfl, rfl, trivial⟩, rfl, rfl, rfl, rfl, ?_⟩, (by intro h; cases h)⟩)
        conv => whnf
        refine ⟨J, hp2, ?_⟩
        refine viewI [some 0, some 1] rfl rfl ?_ rfl ?_ rfl ?_
        repeat' (first | exact trivial | rfl | exact .inl rfl | exact .inr rfl | exact id | exact (fun h => Bool.noConfusion h) | refine And.intro ?_ ?_)
      have hpos := List.length_pos_iff.2 hb
      have hb : decide (0 < (tk.length : Int)) = true := by simp; omega
      rw [hb]
      repeat ((conv => whnf); first | refine Cd.seq ?_ | refine Cd.cut ?_ | refine Cd.reg ?_ | refine Cd.block ?_ | refine Cd.cond ?_ | refine Cd.dreg ?_ | refine Cd.skip ?_ | refine Cd.ret ?_ | refine Cd.exit ?_ | refine Cd.loop ?_ | refine ⟨rfl, ?_⟩ | refine ⟨Nat.le_of_ble_eq_true rfl, ?_⟩ | refine ⟨.inl rfl, ?_⟩ | refine ⟨fun h => Bool.noConfusion h, ?_⟩ | refine .inr ⟨fun _ => ⟨[0], _, _, _, ok16n L _ _ hL (by omega) (by omega) (by omega), ⟨rfl, rfl, trivial⟩, rfl, rfl, rfl, rfl, ?_⟩, (by intro h; cases h)⟩)
      conv => whnf
      refine ⟨fun h2 => ?_, fun h2 => ?_⟩ <;> try simp only [Bool.cond_true_left, Bool.cond_false_right, Bool.not_eq_true', Bool.not_eq_false', Bool.not_not] at h2
      · repeat ((conv => whnf); first | refine Cd.seq ?_ | refine Cd.cut ?_ | refine Cd.reg ?_ | refine Cd.block ?_ | refine Cd.cond ?_ | refine Cd.dreg ?_ | refine Cd.skip ?_ | refine Cd.ret ?_ | refine Cd.exit ?_ | refine Cd.loop ?_ | refine ⟨rfl, ?_⟩ | refine ⟨Nat.le_of_ble_eq_true rfl, ?_⟩ | refine ⟨.inl rfl, ?_⟩ | refine ⟨fun h => Bool.noConfusion h, ?_⟩ | refine .inr ⟨fun _ => ⟨[0], _, _, _, ok16n L _ _ hL (by omega) (by omega) (by omega), ⟨rfl, rfl, trivial⟩, rfl, rfl, rfl, rfl, ?_⟩, (by intro h; cases h)⟩)
        conv => whnf
        have hi := nxV_in L (nxI L J) tk.length (by omega) (by omega)
        generalize nxV L (nxI L J) tk.length = i0 at hi ⊢
        obtain ⟨i, rfl⟩ : ∃ i : Nat, i0 = i := ⟨i0.toNat, by omega⟩
        have hi' : i < tk.length := by omega
        refine ⟨fun _ => ⟨by omega, by omega⟩, ?_⟩
        repeat ((conv => whnf); first | refine Cd.seq ?_ | refine Cd.cut ?_ | refine Cd.reg ?_ | refine Cd.block ?_ | refine Cd.cond ?_ | refine Cd.dreg ?_ | refine Cd.skip ?_ | refine Cd.ret ?_ | refine Cd.exit ?_ | refine Cd.loop ?_ | refine ⟨rfl, ?_⟩ | refine ⟨Nat.le_of_ble_eq_true rfl, ?_⟩ | refine ⟨.inl rfl, ?_⟩ | refine ⟨fun h => Bool.noConfusion h, ?_⟩ | refine .inr ⟨fun _ => ⟨[0], _, _, _, ok16n L _ _ hL (by omega) (by omega) (by omega), ⟨rfl, rfl, trivial⟩, rfl, rfl, rfl, rfl, ?_⟩, (by intro h; cases h)⟩)
        conv => whnf
        refine ⟨fun _ => by rw [rowsI_len, Int.toNat_natCast]; omega, ?_⟩
        repeat ((conv => whnf); first | refine Cd.seq ?_ | refine Cd.cut ?_ | refine Cd.reg ?_ | refine Cd.block ?_ | refine Cd.cond ?_ | refine Cd.dreg ?_ | refine Cd.skip ?_ | refine Cd.ret ?_ | refine Cd.exit ?_ | refine Cd.loop ?_ | refine ⟨rfl, ?_⟩ | refine ⟨Nat.le_of_ble_eq_true rfl, ?_⟩ | refine ⟨.inl rfl, ?_⟩ | refine ⟨fun h => Bool.noConfusion h, ?_⟩ | refine .inr ⟨fun _ => ⟨[0], _, _, _, ok16n L _ _ hL (by omega) (by omega) (by omega), ⟨rfl, rfl, trivial⟩, rfl, rfl, rfl, rfl, ?_⟩, (by intro h; cases h)⟩)
        conv => whnf
        rw [Nat.zero_add, Int.toNat_natCast, rowsI_get tk i hi']
        obtain ⟨q1, q2⟩ := hI.give (by omega) i hi'
        repeat ((conv => whnf); first | refine Cd.seq ?_ | refine Cd.cut ?_ | refine Cd.reg ?_ | refine Cd.block ?_ | refine Cd.cond ?_ | refine Cd.dreg ?_ | refine Cd.skip ?_ | refine Cd.ret ?_ | refine Cd.exit ?_ | refine Cd.loop ?_ | refine ⟨rfl, ?_⟩ | refine ⟨Nat.le_of_ble_eq_true rfl, ?_⟩ | refine ⟨.inl rfl, ?_⟩ | refine ⟨fun h => Bool.noConfusion h, ?_⟩ | refine .inl ⟨_, fun _ => ⟨purA rfl, (by first | exact ok20 x false tk[i] hsm)⟩, .inl rfl, ?_⟩ | refine .inr ⟨fun _ => ⟨[0], _, _, _, ok16n L _ _ hL (by omega) (by omega) (by omega), ⟨rfl, rfl, trivial⟩, rfl, rfl, rfl, rfl, ?_⟩, (by intro h; cases h)⟩)
        conv => whnf
        rw [q1]
        generalize (giveG (x.map exZ) x tk[i]).1 = y at q2 ⊢
        clear q1
        repeat ((conv => whnf); first | refine Cd.seq ?_ | refine Cd.cut ?_ | refine Cd.reg ?_ | refine Cd.block ?_ | refine Cd.cond ?_ | refine Cd.dreg ?_ | refine Cd.skip ?_ | refine Cd.ret ?_ | refine Cd.exit ?_ | refine Cd.loop ?_ | refine ⟨rfl, ?_⟩ | refine ⟨Nat.le_of_ble_eq_true rfl, ?_⟩ | refine ⟨.inl rfl, ?_⟩ | refine ⟨fun h => Bool.noConfusion h, ?_⟩ | refine ⟨?_, fun h => Bool.noConfusion h⟩ | refine fun (_ : false = false) => ?_ | refine fun (_ : true = true) => ?_ | refine .inr ⟨fun _ => ⟨[0], _, _, _, ok16n L _ _ hL (by omega) (by omega) (by omega), ⟨rfl, rfl, trivial⟩, rfl, rfl, rfl, rfl, ?_⟩, (by intro h; cases h)⟩)
        conv => whnf
        refine ⟨fun _ => ⟨by decide, by omega, rfl, by omega⟩, ?_⟩
        repeat ((conv => whnf); first | refine Cd.seq ?_ | refine Cd.cut ?_ | refine Cd.reg ?_ | refine Cd.block ?_ | refine Cd.cond ?_ | refine Cd.dreg ?_ | refine Cd.skip ?_ | refine Cd.ret ?_ | refine Cd.exit ?_ | refine Cd.loop ?_ | refine ⟨rfl, ?_⟩ | refine ⟨Nat.le_of_ble_eq_true rfl, ?_⟩ | refine ⟨.inl rfl, ?_⟩ | refine ⟨fun h => Bool.noConfusion h, ?_⟩ | refine ⟨?_, fun h => Bool.noConfusion h⟩ | refine fun (_ : false = false) => ?_ | refine fun (_ : true = true) => ?_ | refine .inr ⟨fun _ => ⟨[0], _, _, _, ok16n L _ _ hL (by omega) (by omega) (by omega), ⟨rfl, rfl, trivial⟩, rfl, rfl, rfl, rfl, ?_⟩, (by intro h; cases h)⟩)
        conv => whnf
        rw [wrapI (n := (i : Int) + 1) (by omega) (by omega)]
        refine ⟨fun _ => ⟨by omega, by omega, by omega⟩, ?_⟩
        repeat ((conv => whnf); first | refine Cd.seq ?_ | refine Cd.cut ?_ | refine Cd.reg ?_ | refine Cd.block ?_ | refine Cd.cond ?_ | refine Cd.dreg ?_ | refine Cd.skip ?_ | refine Cd.ret ?_ | refine Cd.exit ?_ | refine Cd.loop ?_ | refine ⟨rfl, ?_⟩ | refine ⟨Nat.le_of_ble_eq_true rfl, ?_⟩ | refine ⟨.inl rfl, ?_⟩ | refine ⟨fun h => Bool.noConfusion h, ?_⟩ | refine ⟨?_, fun h => Bool.noConfusion h⟩ | refine fun (_ : false = false) => ?_ | refine fun (_ : true = true) => ?_ | refine .inr ⟨fun _ => ⟨[0], _, _, _, ok16n L _ _ hL (by omega) (by omega) (by omega), ⟨rfl, rfl, trivial⟩, rfl, rfl, rfl, rfl, ?_⟩, (by intro h; cases h)⟩)
        conv => whnf
        have ed : List.take ((tk.length : Int).toNat - ((i : Int) + 1).toNat) (List.drop (0 + ((i : Int) + 1).toNat) (rowsI tk)) = rowsI (tk.drop (i + 1)) := by
          rw [show ((i : Int) + 1).toNat = i + 1 by omega, Int.toNat_natCast, Nat.zero_add, rowsI, rowsI, List.map_drop]
          exact List.take_of_length_le (by simp)
        rw [ed]
        refine ⟨by rw [rowsI_len, List.length_drop]; omega, ?_⟩
        repeat ((conv => whnf); first | refine Cd.seq ?_ | refine Cd.cut ?_ | refine Cd.reg ?_ | refine Cd.block ?_ | refine Cd.cond ?_ | refine Cd.dreg ?_ | refine Cd.skip ?_ | refine Cd.ret ?_ | refine Cd.exit ?_ | refine Cd.loop ?_ | refine ⟨rfl, ?_⟩ | refine ⟨Nat.le_of_ble_eq_true rfl, ?_⟩ | refine ⟨.inl rfl, ?_⟩ | refine ⟨fun h => Bool.noConfusion h, ?_⟩ | refine ⟨?_, fun h => Bool.noConfusion h⟩ | refine fun (_ : false = false) => ?_ | refine fun (_ : true = true) => ?_ | refine .inr ⟨fun _ => ⟨[0], _, _, _, ok16n L _ _ hL (by omega) (by omega) (by omega), ⟨rfl, rfl, trivial⟩, rfl, rfl, rfl, rfl, ?_⟩, (by intro h; cases h)⟩)
        conv => whnf
        rw [Int.toNat_natCast, show i - Int.toNat 0 = i from rfl]
        refine ⟨by rw [rowsI_len]; omega, by rw [rowsI_len, List.length_drop]; omega, by rw [rowsI_len, List.length_drop]; omega, ?_⟩
        repeat ((conv => whnf); first | refine Cd.seq ?_ | refine Cd.cut ?_ | refine Cd.reg ?_ | refine Cd.block ?_ | refine Cd.cond ?_ | refine Cd.dreg ?_ | refine Cd.skip ?_ | refine Cd.ret ?_ | refine Cd.exit ?_ | refine Cd.loop ?_ | refine ⟨rfl, ?_⟩ | refine ⟨Nat.le_of_ble_eq_true rfl, ?_⟩ | refine ⟨.inl rfl, ?_⟩ | refine ⟨fun h => Bool.noConfusion h, ?_⟩ | refine ⟨?_, fun h => Bool.noConfusion h⟩ | refine fun (_ : false = false) => ?_ | refine fun (_ : true = true) => ?_ | refine .inr ⟨fun _ => ⟨[0], _, _, _, ok16n L _ _ hL (by omega) (by omega) (by omega), ⟨rfl, rfl, trivial⟩, rfl, rfl, rfl, rfl, ?_⟩, (by intro h; cases h)⟩)
        conv => whnf
        rw [hw8]
        refine ⟨(n + 1, y, tk.take i ++ tk.drop (i + 1), nxI L (nxI L J)), ⟨⟨by show n + 1 ≤ 30; omega, hJ4⟩, q2⟩, ?_, by show 30 - (n + 1) < 30 - n; omega⟩
        refine viewI [some 0, some 17536] rfl rfl ?_ rfl ?_ rfl ?_
        repeat' (first | exact trivial | rfl | exact .inl rfl | exact .inr rfl | exact id | exact (fun h => Bool.noConfusion h) | refine And.intro ?_ ?_)
        · show (rowsI tk).take i ++ rowsI (tk.drop (i + 1)) = rowsI (tk.take i ++ tk.drop (i + 1))
          rw [rowsI, rowsI, rowsI, List.map_append, List.map_take]
        · show i + (rowsI (tk.drop (i + 1))).length = _
          rw [rowsI_len, List.length_append, List.length_take]; omega
      repeat ((conv => whnf); first | refine Cd.seq ?_ | refine Cd.cut ?_ | refine Cd.reg ?_ | refine Cd.block ?_ | refine Cd.cond ?_ | refine Cd.dreg ?_ | refine Cd.skip ?_ | refine Cd.ret ?_ | refine Cd.exit ?_ | refine Cd.loop ?_ | refine ⟨rfl, ?_⟩ | refine ⟨Nat.le_of_ble_eq_true rfl, ?_⟩ | refine ⟨.inl rfl, ?_⟩ | refine ⟨fun h => Bool.noConfusion h, ?_⟩ | refine .inr ⟨fun _ => ⟨[0], _, _, _, ok16n L _ _ hL (by omega) (by omega) (by omega), ⟨rfl, rfl, trivial⟩, rfl, rfl, rfl, rfl, ?_⟩, (by intro h; cases h)⟩)
      conv => whnf
      refine ⟨nxI L J, hJ3, ?_⟩
      refine viewI [some 0, some 1] rfl rfl ?_ rfl ?_ rfl ?_
      repeat' (first | exact trivial | rfl | exact .inl rfl | exact .inr rfl | exact id | exact (fun h => Bool.noConfusion h) | refine And.intro ?_ ?_)
    obtain ⟨e1, e2⟩ := hI.take (by omega)
    repeat ((conv => whnf); first | refine Cd.seq ?_ | refine Cd.cut ?_ | refine Cd.reg ?_ | refine Cd.block ?_ | refine Cd.cond ?_ | refine Cd.dreg ?_ | refine Cd.skip ?_ | refine Cd.ret ?_ | refine Cd.exit ?_ | refine Cd.loop ?_ | refine ⟨rfl, ?_⟩ | refine ⟨Nat.le_of_ble_eq_true rfl, ?_⟩ | refine ⟨.inl rfl, ?_⟩ | refine ⟨fun h => Bool.noConfusion h, ?_⟩ | refine .inl ⟨_, fun _ => ⟨purA rfl, (by first | exact ok18 x false 1 true hsm)⟩, .inl rfl, ?_⟩ | refine .inr ⟨fun _ => ⟨[0], _, _, _, ok16n L _ _ hL (by omega) (by omega) (by omega), ⟨rfl, rfl, trivial⟩, rfl, rfl, rfl, rfl, ?_⟩, (by intro h; cases h)⟩)
    conv => whnf
    generalize takeG (x.map exZ) x 1 true = q at e1 e2 ⊢
    obtain ⟨y, f, g⟩ := q
    dsimp only at e1 e2 ⊢
    refine ⟨fun h2 => ?_, fun h2 => ?_⟩ <;> try simp only [Bool.cond_true_left, Bool.cond_false_right, Bool.not_eq_true', Bool.not_eq_false', Bool.not_not] at h2
    · rw [e1] at h2; simp at h2
    repeat ((conv => whnf); first | refine Cd.seq ?_ | refine Cd.cut ?_ | refine Cd.reg ?_ | refine Cd.block ?_ | refine Cd.cond ?_ | refine Cd.dreg ?_ | refine Cd.skip ?_ | refine Cd.ret ?_ | refine Cd.exit ?_ | refine Cd.loop ?_ | refine ⟨rfl, ?_⟩ | refine ⟨Nat.le_of_ble_eq_true rfl, ?_⟩ | refine ⟨.inl rfl, ?_⟩ | refine ⟨fun h => Bool.noConfusion h, ?_⟩ | refine .inr ⟨fun _ => ⟨[0], _, _, _, ok16n L _ _ hL (by omega) (by omega) (by omega), ⟨rfl, rfl, trivial⟩, rfl, rfl, rfl, rfl, ?_⟩, (by intro h; cases h)⟩)
    conv => whnf
    refine ⟨fun h3 => ?_, fun h3 => ?_⟩ <;> try simp only [Bool.cond_true_left, Bool.cond_false_right, Bool.not_eq_true', Bool.not_eq_false', Bool.not_not] at h3
    · repeat ((conv => whnf); first | refine Cd.seq ?_ | refine Cd.cut ?_ | refine Cd.reg ?_ | refine Cd.block ?_ | refine Cd.cond ?_ | refine Cd.dreg ?_ | refine Cd.skip ?_ | refine Cd.ret ?_ | refine Cd.exit ?_ | refine Cd.loop ?_ | refine ⟨rfl, ?_⟩ | refine ⟨Nat.le_of_ble_eq_true rfl, ?_⟩ | refine ⟨.inl rfl, ?_⟩ | refine ⟨fun h => Bool.noConfusion h, ?_⟩ | refine .inr ⟨fun _ => ⟨[0], _, _, _, ok16n L _ _ hL (by omega) (by omega) (by omega), ⟨rfl, rfl, trivial⟩, rfl, rfl, rfl, rfl, ?_⟩, (by intro h; cases h)⟩)
      conv => whnf
      rw [hw8]
      refine ⟨(n + 1, x, tk, J'), ⟨⟨by show n + 1 ≤ 30; omega, hJ'⟩, hI⟩, ?_, by show 30 - (n + 1) < 30 - n; omega⟩
      refine viewI [some 0, some 1] rfl rfl ?_ rfl ?_ rfl ?_
      repeat' (first | exact trivial | rfl | exact .inl rfl | exact .inr rfl | exact id | exact (fun h => Bool.noConfusion h) | refine And.intro ?_ ?_)
    have h3 : g = 0 := by simpa using h3
    obtain ⟨e3, e4⟩ := e2 h3
    clear e1 e2 h2
    repeat ((conv => whnf); first | refine Cd.seq ?_ | refine Cd.cut ?_ | refine Cd.reg ?_ | refine Cd.block ?_ | refine Cd.cond ?_ | refine Cd.dreg ?_ | refine Cd.skip ?_ | refine Cd.ret ?_ | refine Cd.exit ?_ | refine Cd.loop ?_ | refine ⟨rfl, ?_⟩ | refine ⟨Nat.le_of_ble_eq_true rfl, ?_⟩ | refine ⟨.inl rfl, ?_⟩ | refine ⟨fun h => Bool.noConfusion h, ?_⟩ | refine .inr ⟨fun _ => ⟨[0], _, _, _, ok16n L _ _ hL (by omega) (by omega) (by omega), ⟨rfl, rfl, trivial⟩, rfl, rfl, rfl, rfl, ?_⟩, (by intro h; cases h)⟩)
    conv => whnf
    refine ⟨Nat, fun i => i ≤ tk.length, fun i => ⟨[(3, ⟨[], true, .ptr 0 0 0⟩), (6, ⟨[], true, .int .i64 all⟩), (7, ⟨[], true, .sl 1 0 tk.length⟩), (8, ⟨[], true, .int .i64 (n : Int)⟩), (12, ⟨[], true, .lst 6 false (rowsZ y)⟩), (13, ⟨[], true, .int .i64 f⟩), (15, ⟨[], true, .int .i64 (i : Int)⟩)],
      [(0, tpO L J'), (1, .row 1 (rowsI tk))], 2⟩, fun i => tk.length - i, ⟨0, by omega, ?_⟩, fun i hi => ?_⟩
    · refine viewI [some 0, some 1] rfl rfl ?_ rfl ?_ rfl ?_
      repeat' (first | exact trivial | rfl | exact .inl rfl | exact .inr rfl | exact id | exact (fun h => Bool.noConfusion h) | refine And.intro ?_ ?_)
    have hi : i ≤ tk.length := hi
    repeat ((conv => whnf); first | refine Cd.seq ?_ | refine Cd.cut ?_ | refine Cd.reg ?_ | refine Cd.block ?_ | refine Cd.cond ?_ | refine Cd.dreg ?_ | refine Cd.skip ?_ | refine Cd.ret ?_ | refine Cd.exit ?_ | refine Cd.loop ?_ | refine ⟨rfl, ?_⟩ | refine ⟨Nat.le_of_ble_eq_true rfl, ?_⟩ | refine ⟨.inl rfl, ?_⟩ | refine ⟨fun h => Bool.noConfusion h, ?_⟩ | refine .inr ⟨fun _ => ⟨[0], _, _, _, ok16n L _ _ hL (by omega) (by omega) (by omega), ⟨rfl, rfl, trivial⟩, rfl, rfl, rfl, rfl, ?_⟩, (by intro h; cases h)⟩)
    conv => whnf
    refine ⟨fun h4 => ?_, fun h4 => ?_⟩ <;> try simp only [Bool.cond_true_left, Bool.cond_false_right, Bool.not_eq_true', Bool.not_eq_false', Bool.not_not] at h4
    · have h4 : i < tk.length := by simp at h4; omega
      repeat ((conv => whnf); first | refine Cd.seq ?_ | refine Cd.cut ?_ | refine Cd.reg ?_ | refine Cd.block ?_ | refine Cd.cond ?_ | refine Cd.dreg ?_ | refine Cd.skip ?_ | refine Cd.ret ?_ | refine Cd.exit ?_ | refine Cd.loop ?_ | refine ⟨rfl, ?_⟩ | refine ⟨Nat.le_of_ble_eq_true rfl, ?_⟩ | refine ⟨.inl rfl, ?_⟩ | refine ⟨fun h => Bool.noConfusion h, ?_⟩ | refine .inr ⟨fun _ => ⟨[0], _, _, _, ok16n L _ _ hL (by omega) (by omega) (by omega), ⟨rfl, rfl, trivial⟩, rfl, rfl, rfl, rfl, ?_⟩, (by intro h; cases h)⟩)
      conv => whnf
      refine ⟨fun _ => ⟨by omega, by omega⟩, ?_⟩
      repeat ((conv => whnf); first | refine Cd.seq ?_ | refine Cd.cut ?_ | refine Cd.reg ?_ | refine Cd.block ?_ | refine Cd.cond ?_ | refine Cd.dreg ?_ | refine Cd.skip ?_ | refine Cd.ret ?_ | refine Cd.exit ?_ | refine Cd.loop ?_ | refine ⟨rfl, ?_⟩ | refine ⟨Nat.le_of_ble_eq_true rfl, ?_⟩ | refine ⟨.inl rfl, ?_⟩ | refine ⟨fun h => Bool.noConfusion h, ?_⟩ | refine .inr ⟨fun _ => ⟨[0], _, _, _, ok16n L _ _ hL (by omega) (by omega) (by omega), ⟨rfl, rfl, trivial⟩, rfl, rfl, rfl, rfl, ?_⟩, (by intro h; cases h)⟩)
      conv => whnf
      refine ⟨fun _ => by rw [rowsI_len, Int.toNat_natCast]; omega, ?_⟩
      repeat ((conv => whnf); first | refine Cd.seq ?_ | refine Cd.cut ?_ | refine Cd.reg ?_ | refine Cd.block ?_ | refine Cd.cond ?_ | refine Cd.dreg ?_ | refine Cd.skip ?_ | refine Cd.ret ?_ | refine Cd.exit ?_ | refine Cd.loop ?_ | refine ⟨rfl, ?_⟩ | refine ⟨Nat.le_of_ble_eq_true rfl, ?_⟩ | refine ⟨.inl rfl, ?_⟩ | refine ⟨fun h => Bool.noConfusion h, ?_⟩ | refine .inr ⟨fun _ => ⟨[0], _, _, _, ok16n L _ _ hL (by omega) (by omega) (by omega), ⟨rfl, rfl, trivial⟩, rfl, rfl, rfl, rfl, ?_⟩, (by intro h; cases h)⟩)
      conv => whnf
      rw [Nat.zero_add, Int.toNat_natCast, rowsI_get tk i h4]
      repeat ((conv => whnf); first | refine Cd.seq ?_ | refine Cd.cut ?_ | refine Cd.reg ?_ | refine Cd.block ?_ | refine Cd.cond ?_ | refine Cd.dreg ?_ | refine Cd.skip ?_ | refine Cd.ret ?_ | refine Cd.exit ?_ | refine Cd.loop ?_ | refine ⟨rfl, ?_⟩ | refine ⟨Nat.le_of_ble_eq_true rfl, ?_⟩ | refine ⟨.inl rfl, ?_⟩ | refine ⟨fun h => Bool.noConfusion h, ?_⟩ | refine .inr ⟨fun _ => ⟨[0], _, _, _, ok16n L _ _ hL (by omega) (by omega) (by omega), ⟨rfl, rfl, trivial⟩, rfl, rfl, rfl, rfl, ?_⟩, (by intro h; cases h)⟩)
      conv => whnf
      refine ⟨fun h5 => ?_, fun h5 => ?_⟩ <;> try simp only [Bool.cond_true_left, Bool.cond_false_right, Bool.not_eq_true', Bool.not_eq_false', Bool.not_not] at h5
      · exact absurd (by simpa using h5) (e3 _ (List.getElem_mem h4))
      repeat ((conv => whnf); first | refine Cd.seq ?_ | refine Cd.cut ?_ | refine Cd.reg ?_ | refine Cd.block ?_ | refine Cd.cond ?_ | refine Cd.dreg ?_ | refine Cd.skip ?_ | refine Cd.ret ?_ | refine Cd.exit ?_ | refine Cd.loop ?_ | refine ⟨rfl, ?_⟩ | refine ⟨Nat.le_of_ble_eq_true rfl, ?_⟩ | refine ⟨.inl rfl, ?_⟩ | refine ⟨fun h => Bool.noConfusion h, ?_⟩ | refine .inr ⟨fun _ => ⟨[0], _, _, _, ok16n L _ _ hL (by omega) (by omega) (by omega), ⟨rfl, rfl, trivial⟩, rfl, rfl, rfl, rfl, ?_⟩, (by intro h; cases h)⟩)
      conv => whnf
      rw [wrapI (n := (i : Int) + 1) (by omega) (by omega), show ((i : Int) + 1) = ((i + 1 : Nat) : Int) by omega]
      refine ⟨i + 1, by show i + 1 ≤ _; omega, ?_, by show tk.length - (i + 1) < tk.length - i; omega⟩
      refine viewI [some 0, some 1] rfl rfl ?_ rfl ?_ rfl ?_
      repeat' (first | exact trivial | rfl | exact .inl rfl | exact .inr rfl | exact id | exact (fun h => Bool.noConfusion h) | refine And.intro ?_ ?_)
    have hl2 := e4.small (by omega)
    have hfr := e4.free (by omega)
    rw [List.length_append, List.length_singleton] at hl2 hfr
    repeat ((conv => whnf); first | refine Cd.seq ?_ | refine Cd.cut ?_ | refine Cd.reg ?_ | refine Cd.block ?_ | refine Cd.cond ?_ | refine Cd.dreg ?_ | refine Cd.skip ?_ | refine Cd.ret ?_ | refine Cd.exit ?_ | refine Cd.loop ?_ | refine ⟨rfl, ?_⟩ | refine ⟨Nat.le_of_ble_eq_true rfl, ?_⟩ | refine ⟨.inl rfl, ?_⟩ | refine ⟨fun h => Bool.noConfusion h, ?_⟩ | refine .inr ⟨fun _ => ⟨[0], _, _, _, ok16n L _ _ hL (by omega) (by omega) (by omega), ⟨rfl, rfl, trivial⟩, rfl, rfl, rfl, rfl, ?_⟩, (by intro h; cases h)⟩)
    conv => whnf
    refine ⟨(rowsI_len tk).symm, by show (((rowsI tk).length + 1 : Nat) : Int) ≤ _; rw [rowsI_len]; omega, by show ((rowsI tk).length + 1) * 8 ≤ _; rw [rowsI_len]; omega, ?_⟩
    repeat ((conv => whnf); first | refine Cd.seq ?_ | refine Cd.cut ?_ | refine Cd.reg ?_ | refine Cd.block ?_ | refine Cd.cond ?_ | refine Cd.dreg ?_ | refine Cd.skip ?_ | refine Cd.ret ?_ | refine Cd.exit ?_ | refine Cd.loop ?_ | refine ⟨rfl, ?_⟩ | refine ⟨Nat.le_of_ble_eq_true rfl, ?_⟩ | refine ⟨.inl rfl, ?_⟩ | refine ⟨fun h => Bool.noConfusion h, ?_⟩ | refine .inl ⟨_, fun _ => ⟨purA rfl, (by first | exact ok25 y false (check_small e4.chk) | exact ok22 y false (check_small e4.chk))⟩, .inl rfl, ?_⟩ | refine .inr ⟨fun _ => ⟨[0], _, _, _, ok16n L _ _ hL (by omega) (by omega) (by omega), ⟨rfl, rfl, trivial⟩, rfl, rfl, rfl, rfl, ?_⟩, (by intro h; cases h)⟩)
    conv => whnf
    refine ⟨fun h6 => ?_, fun h6 => ?_⟩ <;> try simp only [Bool.cond_true_left, Bool.cond_false_right, Bool.not_eq_true', Bool.not_eq_false', Bool.not_not] at h6
    · exfalso
      have h6 : (bif IntKind.i64.wrap (freeF y + (((rowsI tk).length + 1 : Nat) : Int)) != all then true else !checkZ y) = true := h6
      rw [rowsI_len, hfr, wrapI (by omega) (by omega), e4.chk] at h6
      simp at h6
    repeat ((conv => whnf); first | refine Cd.seq ?_ | refine Cd.cut ?_ | refine Cd.reg ?_ | refine Cd.block ?_ | refine Cd.cond ?_ | refine Cd.dreg ?_ | refine Cd.skip ?_ | refine Cd.ret ?_ | refine Cd.exit ?_ | refine Cd.loop ?_ | refine ⟨rfl, ?_⟩ | refine ⟨Nat.le_of_ble_eq_true rfl, ?_⟩ | refine ⟨.inl rfl, ?_⟩ | refine ⟨fun h => Bool.noConfusion h, ?_⟩ | refine .inr ⟨fun _ => ⟨[0], _, _, _, ok16n L _ _ hL (by omega) (by omega) (by omega), ⟨rfl, rfl, trivial⟩, rfl, rfl, rfl, rfl, ?_⟩, (by intro h; cases h)⟩)
    conv => whnf
    rw [hw8]
    refine ⟨(n + 1, y, tk ++ [f], J'), ⟨⟨by show n + 1 ≤ 30; omega, hJ'⟩, e4⟩, ?_, by show 30 - (n + 1) < 30 - n; omega⟩
    refine viewI [some 0, some ?k208_1] rfl rfl ?h3_208 ?h4_208 ?h5_208 ?h6_208 ?h7_208
    case' h7_208 => repeat' (first | exact trivial | rfl | exact .inl rfl | exact .inr rfl | exact id | exact (fun h => Bool.noConfusion h) | refine And.intro ?_ ?_)
    case' h4_208 => rfl
    case' h6_208 => rfl
    case' h3_208 => repeat' (first | exact trivial | rfl | exact .inl rfl | exact .inr rfl | exact id | exact (fun h => Bool.noConfusion h) | refine And.intro ?_ ?_)
    case' h5_208 => repeat' (first | exact trivial | rfl | exact .inl rfl | exact .inr rfl | exact id | exact (fun h => Bool.noConfusion h) | refine And.intro ?_ ?_)
    · exact rowsI_snoc tk f
    · show (rowsI tk).length + 1 = _
      rw [rowsI_len, List.length_append]; rfl
  repeat ((conv => whnf); first | refine Cd.seq ?_ | refine Cd.cut ?_ | refine Cd.reg ?_ | refine Cd.block ?_ | refine Cd.cond ?_ | refine Cd.dreg ?_ | refine Cd.skip ?_ | refine Cd.ret ?_ | refine Cd.exit ?_ | refine Cd.loop ?_ | refine ⟨rfl, ?_⟩ | refine ⟨Nat.le_of_ble_eq_true rfl, ?_⟩ | refine ⟨.inl rfl, ?_⟩ | refine ⟨fun h => Bool.noConfusion h, ?_⟩ | refine .inl ⟨_, fun _ => ⟨purA rfl, (by first | exact ok31)⟩, .inl rfl, ?_⟩ | refine .inr ⟨fun _ => ⟨[0], _, _, _, ok16n L _ _ hL (by omega) (by omega) (by omega), ⟨rfl, rfl, trivial⟩, rfl, rfl, rfl, rfl, ?_⟩, (by intro h; cases h)⟩)
  conv => whnf
  refine ⟨[], ?_, rfl, trivial, rfl, ?_⟩
  · exact trivial
  try subst hk
  repeat' (first | exact trivial | rfl | exact .inl rfl | exact .inr rfl | exact id | exact (fun h => Bool.noConfusion h) | refine And.intro ?_ ?_)
end Go.Proofs.Ytcifhjkodbaghaa
