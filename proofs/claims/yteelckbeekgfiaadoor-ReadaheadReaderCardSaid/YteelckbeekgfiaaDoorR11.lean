/- Readahead: the law ReadaheadReader, as a contract. -/
import Derived.Test.YteelckbeekgfiaaDoorR10
set_option linter.unusedSimpArgs false
set_option linter.unusedVariables false
namespace Go.Proofs.YteelckbeekgfiaaDoor
open Go Go.Sk Go.RowKit

/- pagecache/pagecachelaw07.ReadaheadReader -/
def rc5 : RC :=
  (.seq
  (.reg [⟨(some 2), none, (.mv (.c (.bool false)))⟩] [])
  (.seq
  (.reg [⟨(some 20), none, (.mv (.t 0))⟩,
    ⟨(some 21), none, (.build [(.lst 0 true []), (.int .i64 0)] [(0, (1, (.t 20)))])⟩,
    ⟨(some 22), none, (.box (.t 21))⟩,
    ⟨(some 3), none, (.mv (.t 22))⟩] [20, 21, 22])
  (.seq
  (.reg [⟨(some 23), none, (.mv (.t 3))⟩,
    ⟨(some 24), none, (.call 7 [(.t 23), (.c (.int .i64 60))])⟩,
    ⟨(some 25), none, (.bin .add (.c (.int .i64 4)) (.t 24))⟩,
    ⟨(some 4), none, (.mv (.t 25))⟩] [23, 24, 25])
  (.seq
  (.reg [⟨(some 26), none, (.mv (.t 3))⟩,
    ⟨(some 27), none, (.call 7 [(.t 26), (.c (.int .i64 3))])⟩,
    ⟨(some 28), none, (.mv (.t 3))⟩,
    ⟨(some 29), none, (.call 7 [(.t 28), (.c (.int .i64 3))])⟩,
    ⟨(some 30), none, (.bin .add (.c (.int .i64 1)) (.t 29))⟩,
    ⟨(some 5), none, (.mv (.t 27))⟩,
    ⟨(some 6), none, (.mv (.t 30))⟩] [26, 27, 28, 29, 30])
  (.seq
  (.reg [⟨(some 7), none, (.mv (.c (.lst 0 true [])))⟩] [])
  (.seq
  (.reg [⟨(some 8), none, (.alloc [(.int .i64 0), (.int .i64 0), (.int .i64 0)])⟩] [])
  (.seq
  (.reg [⟨(some 31), none, .mkmap⟩,
    ⟨(some 9), none, (.mv (.t 31))⟩] [31])
  (.seq
  (.reg [⟨(some 10), none, (.mv (.c (.bool false)))⟩] [])
  (.seq
  (.block 0
   (.loop
    (.seq
    (.seq
    (.reg [⟨(some 32), none, (.mv (.t 5))⟩,
      ⟨(some 33), none, (.mv (.t 4))⟩,
      ⟨(some 34), none, (.bin .lss (.t 32) (.t 33))⟩] [32, 33])
    (.cond (.t 34)
     .skip
     (.exit 0)))
    (.block 1
     (.seq
     (.reg [⟨(some 35), none, (.mv (.t 5))⟩,
       ⟨(some 36), none, (.mv (.t 6))⟩,
       ⟨(some 37), none, (.bin .add (.t 35) (.t 36))⟩,
       ⟨(some 38), none, (.mv (.t 4))⟩,
       ⟨(some 39), none, (.mn (.t 37) (.t 38))⟩,
       ⟨(some 11), none, (.mv (.t 39))⟩] [35, 36, 37, 38, 39])
     (.seq
     (.reg [⟨(some 41), none, (.mv (.t 7))⟩,
       ⟨(some 42), none, (.mv (.t 5))⟩,
       ⟨(some 43), none, (.mv (.t 11))⟩,
       ⟨(some 44), none, (.call 23 [(.t 41), (.t 42), (.t 43)])⟩,
       ⟨(some 40), none, (.mv (.t 44))⟩,
       ⟨(some 45), none, (.extr 0 (.t 40))⟩,
       ⟨(some 46), none, (.extr 1 (.t 40))⟩,
       ⟨(some 47), none, (.extr 2 (.t 40))⟩,
       ⟨(some 12), none, (.mv (.t 45))⟩,
       ⟨(some 13), none, (.mv (.t 46))⟩,
       ⟨(some 14), none, (.mv (.t 47))⟩] [41, 42, 43, 44, 40, 45, 46, 47])
     (.seq
     (.seq
     (.reg [⟨(some 48), none, (.mv (.t 14))⟩,
       ⟨(some 49), none, (.bin .neq (.t 48) (.c (.int .i64 0)))⟩,
       ⟨(some 50), none, (.mv (.t 49))⟩,
       ⟨(some 51), (some (50, false)), (.mv (.t 13))⟩,
       ⟨(some 52), (some (50, false)), (.bin .lss (.t 51) (.c (.int .i64 0)))⟩,
       ⟨(some 53), none, (.pick (.t 50) (.c (.bool true)) (.t 52))⟩,
       ⟨(some 54), none, (.mv (.t 53))⟩,
       ⟨(some 55), (some (54, false)), (.mv (.t 13))⟩,
       ⟨(some 56), (some (54, false)), (.mv (.t 12))⟩,
       ⟨(some 57), (some (54, false)), (.len (.t 56))⟩,
       ⟨(some 58), (some (54, false)), (.bin .geq (.t 55) (.t 57))⟩,
       ⟨(some 59), none, (.pick (.t 54) (.c (.bool true)) (.t 58))⟩] [48, 49, 50, 51, 52, 53, 54, 55, 56, 57, 58])
     (.cond (.t 59)
      (.seq
      (.reg [⟨(some 2), none, (.mv (.c (.bool false)))⟩] [])
      .ret)
      .skip))
     (.seq
     (.seq
     (.reg [⟨(some 60), none, (.mv (.t 5))⟩,
       ⟨(some 15), none, (.mv (.t 60))⟩] [60])
     (.block 2
      (.loop
       (.seq
       (.seq
       (.reg [⟨(some 61), none, (.mv (.t 15))⟩,
         ⟨(some 62), none, (.mv (.t 11))⟩,
         ⟨(some 63), none, (.bin .lss (.t 61) (.t 62))⟩] [61, 62])
       (.cond (.t 63)
        .skip
        (.exit 2)))
       (.seq
       (.block 3
        (.seq
        (.reg [⟨(some 66), none, (.mv (.t 10))⟩,
          ⟨(some 67), none, (.mv (.t 66))⟩,
          ⟨(some 68), (some (67, true)), (.mv (.t 9))⟩,
          ⟨(some 69), (some (67, true)), (.mv (.t 15))⟩,
          ⟨(some 70), (some (67, true)), (.mget (.bool false) false (.t 68) (.t 69))⟩,
          ⟨(some 71), (some (67, true)), (.un .not (.t 70))⟩,
          ⟨(some 72), none, (.pick (.t 67) (.t 71) (.c (.bool false)))⟩] [66, 67, 68, 69, 70, 71])
        (.cond (.t 72)
         (.seq
         (.reg [⟨(some 2), none, (.mv (.c (.bool false)))⟩] [])
         .ret)
         .skip)))
       (.reg [⟨(some 64), none, (.mv (.t 15))⟩,
         ⟨(some 65), none, (.bin .add (.t 64) (.c (.int .i64 1)))⟩,
         ⟨(some 15), none, (.mv (.t 65))⟩] [64, 65]))))))
     (.seq
     (.dreg 19456 19728 [⟨(some 74), none, (.ld true 3 (.t 8))⟩,
       ⟨(some 75), none, (.mv (.t 12))⟩,
       ⟨(some 76), none, (.mv (.t 13))⟩,
       ⟨(some 77), none, (.iaddr 6 (.t 75) (.t 76))⟩,
       ⟨(some 78), none, (.ld true 6 (.t 77))⟩,
       ⟨(some 79), none, (.mv (.t 5))⟩,
       ⟨(some 80), none, (.mv (.t 11))⟩,
       ⟨(some 81), none, (.mv (.t 4))⟩,
       ⟨(some 82), none, (.call 9 [(.t 74), (.t 78), (.t 79), (.t 80), (.t 81)])⟩,
       ⟨(some 73), none, (.mv (.t 82))⟩,
       ⟨(some 83), none, (.extr 0 (.t 73))⟩,
       ⟨(some 84), none, (.extr 1 (.t 73))⟩,
       ⟨(some 85), none, (.extr 2 (.t 73))⟩,
       ⟨(some 16), none, (.alloc [(.int .i64 0), (.int .i64 0), (.int .i64 0)])⟩,
       ⟨none, none, (.st 3 (.t 16) (.t 83))⟩,
       ⟨(some 17), none, (.mv (.t 84))⟩,
       ⟨(some 18), none, (.mv (.t 85))⟩] [74, 75, 76, 77, 78, 79, 80, 81, 82, 73, 83, 84, 85] [[], [], [], [1, 2], [3, 2, 1], [], [], [], [0, 4, 1, 2, 3, 5, 6, 7], [8, 7, 6, 5, 3, 2, 1, 4, 0], [9, 0, 4, 1, 2, 3, 5, 6, 7, 8], [9, 0, 4, 1, 2, 3, 5, 6, 7, 8], [9, 0, 4, 1, 2, 3, 5, 6, 7, 8], [], [10, 8, 7, 6, 5, 3, 2, 1, 4, 0, 9, 13], [11, 14, 13, 9, 0, 4, 1, 2, 3, 5, 6, 7, 8, 10], [12, 15, 10, 8, 7, 6, 5, 3, 2, 1, 4, 0, 9, 13, 14, 11]] [19456, 19472, 19488, 19504, 19520, 19536, 19552, 19568, 19584, 19600, 19616, 19632, 19648, 19664, 19680, 19696, 19712])
     (.seq
     (.seq
     (.reg [⟨(some 86), none, (.mv (.t 18))⟩,
       ⟨(some 87), none, (.bin .neq (.t 86) (.c (.int .i64 0)))⟩,
       ⟨(some 88), none, (.mv (.t 87))⟩,
       ⟨(some 89), (some (88, false)), (.mv (.t 17))⟩,
       ⟨(some 90), (some (88, false)), (.len (.t 89))⟩,
       ⟨(some 91), (some (88, false)), (.bin .gtr (.t 90) (.c (.int .i64 8)))⟩,
       ⟨(some 92), none, (.pick (.t 88) (.c (.bool true)) (.t 91))⟩] [86, 87, 88, 89, 90, 91])
     (.cond (.t 92)
      (.seq
      (.reg [⟨(some 2), none, (.mv (.c (.bool false)))⟩] [])
      .ret)
      .skip))
     (.seq
     (.seq
     (.reg [⟨(some 19), none, (.mv (.c (.int .i64 0)))⟩] [])
     (.block 4
      (.loop
       (.seq
       (.seq
       (.reg [⟨(some 93), none, (.mv (.t 19))⟩,
         ⟨(some 94), none, (.mv (.t 17))⟩,
         ⟨(some 95), none, (.len (.t 94))⟩,
         ⟨(some 96), none, (.bin .lss (.t 93) (.t 95))⟩] [93, 94, 95])
       (.cond (.t 96)
        .skip
        (.exit 4)))
       (.seq
       (.block 5
        (.seq
        (.seq
        (.reg [⟨(some 99), none, (.mv (.t 9))⟩,
          ⟨(some 100), none, (.mv (.t 17))⟩,
          ⟨(some 101), none, (.mv (.t 19))⟩,
          ⟨(some 102), none, (.iaddr 1 (.t 100) (.t 101))⟩,
          ⟨(some 103), none, (.ld false 1 (.t 102))⟩,
          ⟨(some 104), none, (.mget (.bool false) false (.t 99) (.t 103))⟩,
          ⟨(some 105), none, (.mv (.t 104))⟩,
          ⟨(some 106), (some (105, false)), (.mv (.t 17))⟩,
          ⟨(some 107), (some (105, false)), (.mv (.t 19))⟩,
          ⟨(some 108), (some (105, false)), (.iaddr 1 (.t 106) (.t 107))⟩,
          ⟨(some 109), (some (105, false)), (.ld false 1 (.t 108))⟩,
          ⟨(some 110), (some (105, false)), (.mv (.t 11))⟩,
          ⟨(some 111), (some (105, false)), (.bin .lss (.t 109) (.t 110))⟩,
          ⟨(some 112), none, (.pick (.t 105) (.c (.bool true)) (.t 111))⟩,
          ⟨(some 113), none, (.mv (.t 112))⟩,
          ⟨(some 114), (some (113, false)), (.mv (.t 17))⟩,
          ⟨(some 115), (some (113, false)), (.mv (.t 19))⟩,
          ⟨(some 116), (some (113, false)), (.iaddr 1 (.t 114) (.t 115))⟩,
          ⟨(some 117), (some (113, false)), (.ld false 1 (.t 116))⟩,
          ⟨(some 118), (some (113, false)), (.mv (.t 4))⟩,
          ⟨(some 119), (some (113, false)), (.bin .geq (.t 117) (.t 118))⟩,
          ⟨(some 120), none, (.pick (.t 113) (.c (.bool true)) (.t 119))⟩] [99, 100, 101, 102, 103, 104, 105, 106, 107, 108, 109, 110, 111, 112, 113, 114, 115, 116, 117, 118, 119])
        (.cond (.t 120)
         (.seq
         (.reg [⟨(some 2), none, (.mv (.c (.bool false)))⟩] [])
         .ret)
         .skip))
        (.reg [⟨(some 121), none, (.mv (.t 9))⟩,
          ⟨(some 122), none, (.mv (.t 17))⟩,
          ⟨(some 123), none, (.mv (.t 19))⟩,
          ⟨(some 124), none, (.iaddr 1 (.t 122) (.t 123))⟩,
          ⟨(some 125), none, (.ld false 1 (.t 124))⟩,
          ⟨none, none, (.mput (.t 121) (.t 125) (.c (.bool true)))⟩] [121, 122, 123, 124, 125])))
       (.reg [⟨(some 97), none, (.mv (.t 19))⟩,
         ⟨(some 98), none, (.bin .add (.t 97) (.c (.int .i64 1)))⟩,
         ⟨(some 19), none, (.mv (.t 98))⟩] [97, 98]))))))
     (.seq
     (.dreg 28672 28768 [⟨(some 126), none, (.mv (.t 12))⟩,
       ⟨(some 127), none, (.ld true 3 (.t 16))⟩,
       ⟨(some 128), none, (.mv (.t 11))⟩,
       ⟨(some 7), none, (.mv (.t 126))⟩,
       ⟨none, none, (.st 3 (.t 8) (.t 127))⟩,
       ⟨(some 5), none, (.mv (.t 128))⟩] [126, 127, 128] [[], [], [], [0], [1, 3, 0], [2, 4, 0, 3, 1]] [28672, 28688, 28704, 28720, 28736, 28752])
     (.reg [⟨(some 129), none, (.mv (.t 12))⟩,
       ⟨(some 130), none, (.mv (.t 13))⟩,
       ⟨(some 131), none, (.iaddr 6 (.t 129) (.t 130))⟩,
       ⟨(some 132), none, (.ld true 6 (.t 131))⟩,
       ⟨(some 133), none, (.call 21 [(.t 132)])⟩,
       ⟨(some 10), none, (.mv (.t 133))⟩] [129, 130, 131, 132, 133])))))))))))))
  (.seq
  (.reg [⟨(some 134), none, (.call 20 [])⟩,
    ⟨(some 2), none, (.mv (.t 134))⟩] [134])
  .ret))))))))))
theorem rcq5 : resC Go.Proofs.Tryd.prog Go.Proofs.Tryd.f5.ntmps ((Go.Proofs.Tryd.f5.body).getD .skip) = some (strip rc5) := by kernel_rfl
def rv5 : List RV := [(.tmp 2)]
theorem rvq5 : Go.Proofs.Tryd.f5.results.toList.mapM (resRV Go.Proofs.Tryd.prog) = some rv5 := by kernel_rfl

/-- The streams behind n accesses, the last from p to a. -/
def sqL (n p a : Int) : List Stm := if n = 0 then [] else [sq n p a]
theorem sqL_len (n p a : Int) : (sqL n p a).length ≤ 1 := by unfold sqL; split <;> simp
theorem feed_sq (n p a b : Int) (hn : 0 ≤ n ∧ n ≤ 99) (hp : n = 0 ∨ (0 ≤ p ∧ p < a)) (h : 0 ≤ a ∧ a < b ∧ b ≤ 256) : feedP (sqL n p a) a b = ([sq (n + 1) a b], 0, 0) := by
  rw [feedP_eq, sqL]
  by_cases h0 : n = 0
  · subst h0; rw [if_pos rfl]; exact feed_first a b h
  · rw [if_neg h0]; exact feed_next n p a b (by omega) (by omega) h.2
theorem seqI_get (a b : Int) (i : Nat) (h : a + i < b) : (rowsI (seqI a b)).getD i [] = [.int .i64 (a + i)] := by
  have hl : i < (seqI a b).length := by rw [seqI_len]; omega
  rw [rowsI_get _ _ hl]
  simp [seqI]
abbrev setM (M : List (Int × V)) (A X : Int) : Prop := ∀ p, mgetV M p (.bool false) = .bool (decide (A ≤ p ∧ p < X))
structure St5 where
  n : Int
  p : Int
  a : Int
  w : Win
  A : Int
  X : Int
  M : List (Int × V)
def s5 (c e : Int) (x : St5) : St := ⟨[(2, ⟨[], true, .bool false⟩), (4, ⟨[], true, .int .i64 e⟩), (5, ⟨[], true, .int .i64 x.a⟩), (6, ⟨[], true, .int .i64 c⟩), (7, ⟨[], true, .lst 6 false (rowsS (sqL x.n x.p x.a))⟩), (8, ⟨[], true, .ptr 0 0 0⟩), (9, ⟨[], true, .mp 1⟩), (10, ⟨[], true, .bool (decide (3 ≤ x.n))⟩)],
  [(0, .box x.w.c), (1, .mp x.M)], 2⟩
set_option maxRecDepth 20000 in
set_option maxHeartbeats 1000000 in
theorem okD5 (L : List Int) (hL : (L.length : Int) < 2 ^ 62) : FnC Tryd.prog 5 [] [.lst 1 false (rowsI L)] (.bool true) [] := by
  refine fn_okC (ob0 := []) (rc := rc5) (rvs := rv5) Tryd.func5 rfl rcq5 rvq5 (show 1 ≤ _ by decide) ?_
  have a1 := nxI_in L 0 (by omega)
  have a2 := nxI_in L _ a1
  have v1 := nxV_in L 0 60 (by omega) (by omega)
  have v2 := nxV_in L (nxI L 0) 3 (by omega) (by omega)
  have v3 := nxV_in L (nxI L (nxI L 0)) 3 (by omega) (by omega)
  repeat ((conv => whnf); first | refine Cd.seq ?_ | refine Cd.cut ?_ | refine Cd.reg ?_ | refine Cd.block ?_ | refine Cd.cond ?_ | refine Cd.dreg ?_ | refine Cd.skip ?_ | refine Cd.ret ?_ | refine Cd.exit ?_ | refine Cd.loop ?_ | refine ⟨rfl, ?_⟩ | refine ⟨Nat.le_of_ble_eq_true rfl, ?_⟩ | refine ⟨.inl rfl, ?_⟩ | refine ⟨fun h => Bool.noConfusion h, ?_⟩)
  conv => whnf
  refine .inr ⟨fun _ => ⟨[0], _, _, _, ok7n L 0 _ hL (by omega) (by omega) (by omega), ⟨rfl, rfl, trivial⟩, rfl, rfl, rfl, rfl, ?_⟩, (by intro h; cases h)⟩
  repeat ((conv => whnf); first | refine Cd.seq ?_ | refine Cd.cut ?_ | refine Cd.reg ?_ | refine Cd.block ?_ | refine Cd.cond ?_ | refine Cd.dreg ?_ | refine Cd.skip ?_ | refine Cd.ret ?_ | refine Cd.exit ?_ | refine Cd.loop ?_ | refine ⟨rfl, ?_⟩ | refine ⟨Nat.le_of_ble_eq_true rfl, ?_⟩ | refine ⟨.inl rfl, ?_⟩ | refine ⟨fun h => Bool.noConfusion h, ?_⟩)
  conv => whnf
  refine .inr ⟨fun _ => ⟨[0], _, _, _, ok7n L _ _ hL a1 (by omega) (by omega), ⟨rfl, rfl, trivial⟩, rfl, rfl, rfl, rfl, ?_⟩, (by intro h; cases h)⟩
  repeat ((conv => whnf); first | refine Cd.seq ?_ | refine Cd.cut ?_ | refine Cd.reg ?_ | refine Cd.block ?_ | refine Cd.cond ?_ | refine Cd.dreg ?_ | refine Cd.skip ?_ | refine Cd.ret ?_ | refine Cd.exit ?_ | refine Cd.loop ?_ | refine ⟨rfl, ?_⟩ | refine ⟨Nat.le_of_ble_eq_true rfl, ?_⟩ | refine ⟨.inl rfl, ?_⟩ | refine ⟨fun h => Bool.noConfusion h, ?_⟩)
  conv => whnf
  refine .inr ⟨fun _ => ⟨[0], _, _, _, ok7n L _ _ hL a2 (by omega) (by omega), ⟨rfl, rfl, trivial⟩, rfl, rfl, rfl, rfl, ?_⟩, (by intro h; cases h)⟩
  repeat ((conv => whnf); first | refine Cd.seq ?_ | refine Cd.cut ?_ | refine Cd.reg ?_ | refine Cd.block ?_ | refine Cd.cond ?_ | refine Cd.dreg ?_ | refine Cd.skip ?_ | refine Cd.ret ?_ | refine Cd.exit ?_ | refine Cd.loop ?_ | refine ⟨rfl, ?_⟩ | refine ⟨Nat.le_of_ble_eq_true rfl, ?_⟩ | refine ⟨.inl rfl, ?_⟩ | refine ⟨fun h => Bool.noConfusion h, ?_⟩)
  conv => whnf
  rw [wrapI (n := 4 + nxV L 0 60) (by omega) (by omega), wrapI (n := 1 + nxV L (nxI L (nxI L 0)) 3) (by omega) (by omega)]
  obtain ⟨e, he0⟩ : ∃ e, e = 4 + nxV L 0 60 := ⟨_, rfl⟩
  obtain ⟨c, hc0⟩ : ∃ c, c = 1 + nxV L (nxI L (nxI L 0)) 3 := ⟨_, rfl⟩
  rw [← he0, ← hc0]
  have he : 4 ≤ e ∧ e ≤ 63 := by omega
  have hc : 1 ≤ c ∧ c ≤ 3 := by omega
  generalize nxV L (nxI L 0) 3 = at0 at v2
  clear v1 v3 he0 hc0
  refine ⟨St5, fun x => (0 ≤ x.n ∧ x.n ≤ x.a ∧ x.a ≤ e) ∧ (x.n = 0 ∨ (0 ≤ x.p ∧ x.p < x.a)) ∧ RdI c e x.n x.a x.w x.A x.X ∧ setM x.M x.A x.X, fun x => s5 c e x, fun x => (e - x.a).toNat,
    ⟨⟨0, 0, at0, zeroWin, 0, 0, []⟩, ⟨⟨Int.le_refl _, v2.1, by show at0 ≤ e; omega⟩, .inl rfl, ⟨fun _ => ⟨rfl, rfl⟩, fun h => absurd h (by show ¬ (3 : Int) ≤ 0; decide)⟩, fun p => ?_⟩, ?_⟩, fun x hx => ?_⟩
  · show V.bool false = .bool (decide ((0 : Int) ≤ p ∧ p < 0))
    rw [decide_eq_false (by omega)]
  · refine viewI [some ?k61_0, some ?k61_1] rfl rfl ?h3_61 ?h4_61 ?h5_61 ?h6_61 ?h7_61
    case' h7_61 => repeat' (first | exact trivial | rfl | exact .inl rfl | exact .inr rfl | exact id | exact (fun h => Bool.noConfusion h) | refine And.intro ?_ ?_)
    case' h4_61 => rfl
    case' h6_61 => rfl
    case' h3_61 => repeat' (first | exact trivial | rfl | exact .inl rfl | exact .inr rfl | exact id | exact (fun h => Bool.noConfusion h) | refine And.intro ?_ ?_)
    case' h5_61 => repeat' (first | exact trivial | rfl | exact .inl rfl | exact .inr rfl | exact id | exact (fun h => Bool.noConfusion h) | refine And.intro ?_ ?_)
  obtain ⟨n, p, a, w, A, X, M⟩ := x
  obtain ⟨h1, h2, R, hM⟩ := hx
  simp only at h1 h2 R hM
  repeat ((conv => whnf); first | refine Cd.seq ?_ | refine Cd.cut ?_ | refine Cd.reg ?_ | refine Cd.block ?_ | refine Cd.cond ?_ | refine Cd.dreg ?_ | refine Cd.skip ?_ | refine Cd.ret ?_ | refine Cd.exit ?_ | refine Cd.loop ?_ | refine ⟨rfl, ?_⟩ | refine ⟨Nat.le_of_ble_eq_true rfl, ?_⟩ | refine ⟨.inl rfl, ?_⟩ | refine ⟨fun h => Bool.noConfusion h, ?_⟩)
  conv => whnf
  refine ⟨fun c1 => ?_, fun c1 => ?_⟩ <;> try simp only [Bool.cond_true_left, Bool.cond_false_right, Bool.not_eq_true', Bool.not_eq_false', Bool.not_not] at c1
  · have c1 : a < e := by simpa using c1
    obtain ⟨b, hb⟩ : ∃ b, b = min (a + c) e := ⟨_, rfl⟩
    obtain ⟨v, Y, Z, A', X', S⟩ := rd_step c e n a w A X R hc he (by omega) (by omega)
    rw [← hb] at S
    have hlen := sqL_len n p a
    have c23 := ok23 (sqL n p a) false a b (by omega)
    rw [feed_sq n p a b (by omega) h2 (by omega)] at c23
    repeat ((conv => whnf); first | refine Cd.seq ?_ | refine Cd.cut ?_ | refine Cd.reg ?_ | refine Cd.block ?_ | refine Cd.cond ?_ | refine Cd.dreg ?_ | refine Cd.skip ?_ | refine Cd.ret ?_ | refine Cd.exit ?_ | refine Cd.loop ?_ | refine ⟨rfl, ?_⟩ | refine ⟨Nat.le_of_ble_eq_true rfl, ?_⟩ | refine ⟨.inl rfl, ?_⟩ | refine ⟨fun h => Bool.noConfusion h, ?_⟩)
    conv => whnf
    rw [wrapI (n := a + c) (by omega) (by omega), ← hb]
    repeat ((conv => whnf); first | refine Cd.seq ?_ | refine Cd.cut ?_ | refine Cd.reg ?_ | refine Cd.block ?_ | refine Cd.cond ?_ | refine Cd.dreg ?_ | refine Cd.skip ?_ | refine Cd.ret ?_ | refine Cd.exit ?_ | refine Cd.loop ?_ | refine ⟨rfl, ?_⟩ | refine ⟨Nat.le_of_ble_eq_true rfl, ?_⟩ | refine ⟨.inl rfl, ?_⟩ | refine ⟨fun h => Bool.noConfusion h, ?_⟩ | refine ⟨?_, fun h => Bool.noConfusion h⟩ | refine fun (_ : false = false) => ?_ | refine fun (_ : true = true) => ?_ | refine .inl ⟨_, fun _ => ⟨purA rfl, (by first | exact c23)⟩, .inl rfl, ?_⟩)
    conv => whnf
    refine ⟨Int, fun q => a ≤ q ∧ q ≤ b, fun q => ⟨[(2, ⟨[], true, .bool false⟩), (4, ⟨[], true, .int .i64 e⟩), (5, ⟨[], true, .int .i64 a⟩), (6, ⟨[], true, .int .i64 c⟩), (8, ⟨[], true, .ptr 0 0 0⟩), (9, ⟨[], true, .mp 1⟩), (10, ⟨[], true, .bool (decide (3 ≤ n))⟩),
        (11, ⟨[], true, .int .i64 b⟩), (12, ⟨[], true, .lst 6 false (rowsS [sq (n + 1) a b])⟩), (13, ⟨[], true, .int .i64 0⟩), (15, ⟨[], true, .int .i64 q⟩)], [(0, .box w.c), (1, .mp M)], 2⟩, fun q => (b - q).toNat, ⟨a, ⟨Int.le_refl _, by omega⟩, ?_⟩, fun q hq => ?_⟩
    · refine viewI [some 0, some 1] rfl rfl ?_ rfl ?_ rfl ?_
      repeat' (first | exact trivial | rfl | exact .inl rfl | exact .inr rfl | exact id | exact (fun h => Bool.noConfusion h) | refine And.intro ?_ ?_)
    obtain ⟨hq1, hq2⟩ := hq
    repeat ((conv => whnf); first | refine Cd.seq ?_ | refine Cd.cut ?_ | refine Cd.reg ?_ | refine Cd.block ?_ | refine Cd.cond ?_ | refine Cd.dreg ?_ | refine Cd.skip ?_ | refine Cd.ret ?_ | refine Cd.exit ?_ | refine Cd.loop ?_ | refine ⟨rfl, ?_⟩ | refine ⟨Nat.le_of_ble_eq_true rfl, ?_⟩ | refine ⟨.inl rfl, ?_⟩ | refine ⟨fun h => Bool.noConfusion h, ?_⟩)
    conv => whnf
    refine ⟨fun c2 => ?_, fun c2 => ?_⟩ <;> try simp only [Bool.cond_true_left, Bool.cond_false_right, Bool.not_eq_true', Bool.not_eq_false', Bool.not_not] at c2
    · have c2 : q < b := by simpa using c2
      repeat ((conv => whnf); first | refine Cd.seq ?_ | refine Cd.cut ?_ | refine Cd.reg ?_ | refine Cd.block ?_ | refine Cd.cond ?_ | refine Cd.dreg ?_ | refine Cd.skip ?_ | refine Cd.ret ?_ | refine Cd.exit ?_ | refine Cd.loop ?_ | refine ⟨rfl, ?_⟩ | refine ⟨Nat.le_of_ble_eq_true rfl, ?_⟩ | refine ⟨.inl rfl, ?_⟩ | refine ⟨fun h => Bool.noConfusion h, ?_⟩)
      conv => whnf
      rw [hM]
      repeat ((conv => whnf); first | refine Cd.seq ?_ | refine Cd.cut ?_ | refine Cd.reg ?_ | refine Cd.block ?_ | refine Cd.cond ?_ | refine Cd.dreg ?_ | refine Cd.skip ?_ | refine Cd.ret ?_ | refine Cd.exit ?_ | refine Cd.loop ?_ | refine ⟨rfl, ?_⟩ | refine ⟨Nat.le_of_ble_eq_true rfl, ?_⟩ | refine ⟨.inl rfl, ?_⟩ | refine ⟨fun h => Bool.noConfusion h, ?_⟩)
      conv => whnf
      refine ⟨fun c3 => ?_, fun c3 => ?_⟩ <;> try simp only [Bool.cond_true_left, Bool.cond_false_right, Bool.not_eq_true', Bool.not_eq_false', Bool.not_not] at c3
      · simp only [Bool.and_eq_true, decide_eq_true_eq, Bool.not_eq_true', decide_eq_false_iff_not] at c3
        exact absurd (S.cover c3.1 q hq1 c2) c3.2
      repeat ((conv => whnf); first | refine Cd.seq ?_ | refine Cd.cut ?_ | refine Cd.reg ?_ | refine Cd.block ?_ | refine Cd.cond ?_ | refine Cd.dreg ?_ | refine Cd.skip ?_ | refine Cd.ret ?_ | refine Cd.exit ?_ | refine Cd.loop ?_ | refine ⟨rfl, ?_⟩ | refine ⟨Nat.le_of_ble_eq_true rfl, ?_⟩ | refine ⟨.inl rfl, ?_⟩ | refine ⟨fun h => Bool.noConfusion h, ?_⟩)
      conv => whnf
      rw [wrapI (n := q + 1) (by omega) (by omega)]
      refine ⟨q + 1, ⟨by omega, by omega⟩, ?_, by show (b - (q + 1)).toNat < (b - q).toNat; omega⟩
      refine viewI [some 0, some 1] rfl rfl ?_ rfl ?_ rfl ?_
      repeat' (first | exact trivial | rfl | exact .inl rfl | exact .inr rfl | exact id | exact (fun h => Bool.noConfusion h) | refine And.intro ?_ ?_)
    have hqb : ¬ q < b := by simpa using c2
    have c9 := okD9 w (sq (n + 1) a b) a b e
    rw [S.plan] at c9
    repeat ((conv => whnf); first | refine Cd.seq ?_ | refine Cd.cut ?_ | refine Cd.reg ?_ | refine Cd.block ?_ | refine Cd.cond ?_ | refine Cd.dreg ?_ | refine Cd.skip ?_ | refine Cd.ret ?_ | refine Cd.exit ?_ | refine Cd.loop ?_ | refine ⟨rfl, ?_⟩ | refine ⟨Nat.le_of_ble_eq_true rfl, ?_⟩ | refine ⟨.inl rfl, ?_⟩ | refine ⟨fun h => Bool.noConfusion h, ?_⟩)
    conv => whnf
    refine ⟨fun _ => ⟨rfl, by decide, by show (0 : Int) < ((1 : Nat) : Int); decide⟩, ?_⟩
    rw [show (rowsS [sq (n + 1) a b]).getD (0 : Int).toNat [] = (sq (n + 1) a b).c from rfl]
    repeat ((conv => whnf); first | refine Cd.seq ?_ | refine Cd.cut ?_ | refine Cd.reg ?_ | refine Cd.block ?_ | refine Cd.cond ?_ | refine Cd.dreg ?_ | refine Cd.skip ?_ | refine Cd.ret ?_ | refine Cd.exit ?_ | refine Cd.loop ?_ | refine ⟨rfl, ?_⟩ | refine ⟨Nat.le_of_ble_eq_true rfl, ?_⟩ | refine ⟨.inl rfl, ?_⟩ | refine ⟨fun h => Bool.noConfusion h, ?_⟩ | refine .inl ⟨_, fun _ => ⟨purA rfl, (by first | exact c9)⟩, .inl rfl, ?_⟩)
    conv => whnf
    rw [rowsI_len, seqI_len]
    have hfew := S.few
    repeat ((conv => whnf); first | refine Cd.seq ?_ | refine Cd.cut ?_ | refine Cd.reg ?_ | refine Cd.block ?_ | refine Cd.cond ?_ | refine Cd.dreg ?_ | refine Cd.skip ?_ | refine Cd.ret ?_ | refine Cd.exit ?_ | refine Cd.loop ?_ | refine ⟨rfl, ?_⟩ | refine ⟨Nat.le_of_ble_eq_true rfl, ?_⟩ | refine ⟨.inl rfl, ?_⟩ | refine ⟨fun h => Bool.noConfusion h, ?_⟩)
    conv => whnf
    refine ⟨fun c4 => ?_, fun c4 => ?_⟩ <;> try simp only [Bool.cond_true_left, Bool.cond_false_right, Bool.not_eq_true', Bool.not_eq_false', Bool.not_not] at c4
    · exfalso; simp at c4; omega
    repeat ((conv => whnf); first | refine Cd.seq ?_ | refine Cd.cut ?_ | refine Cd.reg ?_ | refine Cd.block ?_ | refine Cd.cond ?_ | refine Cd.dreg ?_ | refine Cd.skip ?_ | refine Cd.ret ?_ | refine Cd.exit ?_ | refine Cd.loop ?_ | refine ⟨rfl, ?_⟩ | refine ⟨Nat.le_of_ble_eq_true rfl, ?_⟩ | refine ⟨.inl rfl, ?_⟩ | refine ⟨fun h => Bool.noConfusion h, ?_⟩)
    conv => whnf
    refine ⟨Nat × List (Int × V), fun y => (y.1 : Int) ≤ max 0 (Z - Y) ∧ ∀ q, mgetV y.2 q (.bool false) = .bool (decide ((A ≤ q ∧ q < X) ∨ (Y ≤ q ∧ q < Y + (y.1 : Int)))),
      fun y => ⟨[(2, ⟨[], true, .bool false⟩), (4, ⟨[], true, .int .i64 e⟩), (6, ⟨[], true, .int .i64 c⟩), (8, ⟨[], true, .ptr 0 0 0⟩), (9, ⟨[], true, .mp 1⟩),
        (11, ⟨[], true, .int .i64 b⟩), (12, ⟨[], true, .lst 6 false (rowsS [sq (n + 1) a b])⟩), (13, ⟨[], true, .int .i64 0⟩), (16, ⟨[], true, .ptr 2 0 0⟩), (17, ⟨[], true, .lst 1 false (rowsI (seqI Y Z))⟩), (19, ⟨[], true, .int .i64 (y.1 : Int)⟩)], [(0, .box w.c), (1, .mp y.2), (2, .box v.c)], 3⟩,
      fun y => (Z - Y - (y.1 : Int)).toNat, ⟨(0, M), ⟨by show (0 : Int) ≤ _; omega, fun q => ?_⟩, ?_⟩, fun y hy => ?_⟩
    · rw [hM q]
      congr 1
      rw [Bool.eq_iff_iff, decide_eq_true_eq, decide_eq_true_eq]
      show _ ↔ _ ∨ (Y ≤ q ∧ q < Y + ((0 : Nat) : Int))
      omega
    · refine viewI [some 0, some 1, some ?k134_2] rfl rfl ?h3_134 ?h4_134 ?h5_134 ?h6_134 ?h7_134
      case' h7_134 => repeat' (first | exact trivial | rfl | exact .inl rfl | exact .inr rfl | exact id | exact (fun h => Bool.noConfusion h) | refine And.intro ?_ ?_)
      case' h4_134 => rfl
      case' h6_134 => rfl
      case' h3_134 => repeat' (first | exact trivial | rfl | exact .inl rfl | exact .inr rfl | exact id | exact (fun h => Bool.noConfusion h) | refine And.intro ?_ ?_)
      case' h5_134 => repeat' (first | exact trivial | rfl | exact .inl rfl | exact .inr rfl | exact id | exact (fun h => Bool.noConfusion h) | refine And.intro ?_ ?_)
    obtain ⟨i, N⟩ := y
    obtain ⟨hy1, hN⟩ := hy
    simp only at hy1 hN
    repeat ((conv => whnf); first | refine Cd.seq ?_ | refine Cd.cut ?_ | refine Cd.reg ?_ | refine Cd.block ?_ | refine Cd.cond ?_ | refine Cd.dreg ?_ | refine Cd.skip ?_ | refine Cd.ret ?_ | refine Cd.exit ?_ | refine Cd.loop ?_ | refine ⟨rfl, ?_⟩ | refine ⟨Nat.le_of_ble_eq_true rfl, ?_⟩ | refine ⟨.inl rfl, ?_⟩ | refine ⟨fun h => Bool.noConfusion h, ?_⟩)
    conv => whnf
    rw [rowsI_len, seqI_len]
    refine ⟨fun c5 => ?_, fun c5 => ?_⟩ <;> try simp only [Bool.cond_true_left, Bool.cond_false_right, Bool.not_eq_true', Bool.not_eq_false', Bool.not_not] at c5
    · have c5 : Y + (i : Int) < Z := by simp at c5; omega
      have hg := seqI_get Y Z i c5
      have hnew := S.new (Y + i) (by omega) c5
      repeat ((conv => whnf); first | refine Cd.seq ?_ | refine Cd.cut ?_ | refine Cd.reg ?_ | refine Cd.block ?_ | refine Cd.cond ?_ | refine Cd.dreg ?_ | refine Cd.skip ?_ | refine Cd.ret ?_ | refine Cd.exit ?_ | refine Cd.loop ?_ | refine ⟨rfl, ?_⟩ | refine ⟨Nat.le_of_ble_eq_true rfl, ?_⟩ | refine ⟨.inl rfl, ?_⟩ | refine ⟨fun h => Bool.noConfusion h, ?_⟩)
      conv => whnf
      refine ⟨fun _ => ⟨rfl, by omega, by rw [rowsI_len, seqI_len]; omega⟩, ?_⟩
      rw [Int.toNat_natCast, hg]
      repeat ((conv => whnf); first | refine Cd.seq ?_ | refine Cd.cut ?_ | refine Cd.reg ?_ | refine Cd.block ?_ | refine Cd.cond ?_ | refine Cd.dreg ?_ | refine Cd.skip ?_ | refine Cd.ret ?_ | refine Cd.exit ?_ | refine Cd.loop ?_ | refine ⟨rfl, ?_⟩ | refine ⟨Nat.le_of_ble_eq_true rfl, ?_⟩ | refine ⟨.inl rfl, ?_⟩ | refine ⟨fun h => Bool.noConfusion h, ?_⟩)
      conv => whnf
      rw [hN, decide_eq_false (show ¬ ((A ≤ Y + (i : Int) ∧ Y + (i : Int) < X) ∨ (Y ≤ Y + (i : Int) ∧ Y + (i : Int) < Y + (i : Int))) by omega)]
      repeat ((conv => whnf); first | refine Cd.seq ?_ | refine Cd.cut ?_ | refine Cd.reg ?_ | refine Cd.block ?_ | refine Cd.cond ?_ | refine Cd.dreg ?_ | refine Cd.skip ?_ | refine Cd.ret ?_ | refine Cd.exit ?_ | refine Cd.loop ?_ | refine ⟨rfl, ?_⟩ | refine ⟨Nat.le_of_ble_eq_true rfl, ?_⟩ | refine ⟨.inl rfl, ?_⟩ | refine ⟨fun h => Bool.noConfusion h, ?_⟩)
      conv => whnf
      refine ⟨fun _ => ⟨rfl, by omega, by rw [rowsI_len, seqI_len]; omega⟩, ?_⟩
      rw [Int.toNat_natCast, hg]
      repeat ((conv => whnf); first | refine Cd.seq ?_ | refine Cd.cut ?_ | refine Cd.reg ?_ | refine Cd.block ?_ | refine Cd.cond ?_ | refine Cd.dreg ?_ | refine Cd.skip ?_ | refine Cd.ret ?_ | refine Cd.exit ?_ | refine Cd.loop ?_ | refine ⟨rfl, ?_⟩ | refine ⟨Nat.le_of_ble_eq_true rfl, ?_⟩ | refine ⟨.inl rfl, ?_⟩ | refine ⟨fun h => Bool.noConfusion h, ?_⟩)
      conv => whnf
      refine ⟨fun _ => ⟨rfl, by omega, by rw [rowsI_len, seqI_len]; omega⟩, ?_⟩
      rw [Int.toNat_natCast, hg]
      repeat ((conv => whnf); first | refine Cd.seq ?_ | refine Cd.cut ?_ | refine Cd.reg ?_ | refine Cd.block ?_ | refine Cd.cond ?_ | refine Cd.dreg ?_ | refine Cd.skip ?_ | refine Cd.ret ?_ | refine Cd.exit ?_ | refine Cd.loop ?_ | refine ⟨rfl, ?_⟩ | refine ⟨Nat.le_of_ble_eq_true rfl, ?_⟩ | refine ⟨.inl rfl, ?_⟩ | refine ⟨fun h => Bool.noConfusion h, ?_⟩)
      conv => whnf
      refine ⟨fun c6 => ?_, fun c6 => ?_⟩ <;> try simp only [Bool.cond_true_left, Bool.cond_false_right, Bool.not_eq_true', Bool.not_eq_false', Bool.not_not] at c6
      · exfalso; simp at c6; omega
      repeat ((conv => whnf); first | refine Cd.seq ?_ | refine Cd.cut ?_ | refine Cd.reg ?_ | refine Cd.block ?_ | refine Cd.cond ?_ | refine Cd.dreg ?_ | refine Cd.skip ?_ | refine Cd.ret ?_ | refine Cd.exit ?_ | refine Cd.loop ?_ | refine ⟨rfl, ?_⟩ | refine ⟨Nat.le_of_ble_eq_true rfl, ?_⟩ | refine ⟨.inl rfl, ?_⟩ | refine ⟨fun h => Bool.noConfusion h, ?_⟩)
      conv => whnf
      refine ⟨fun _ => ⟨rfl, by omega, by rw [rowsI_len, seqI_len]; omega⟩, ?_⟩
      rw [Int.toNat_natCast, hg]
      repeat ((conv => whnf); first | refine Cd.seq ?_ | refine Cd.cut ?_ | refine Cd.reg ?_ | refine Cd.block ?_ | refine Cd.cond ?_ | refine Cd.dreg ?_ | refine Cd.skip ?_ | refine Cd.ret ?_ | refine Cd.exit ?_ | refine Cd.loop ?_ | refine ⟨rfl, ?_⟩ | refine ⟨Nat.le_of_ble_eq_true rfl, ?_⟩ | refine ⟨.inl rfl, ?_⟩ | refine ⟨fun h => Bool.noConfusion h, ?_⟩)
      conv => whnf
      rw [wrapI (n := (i : Int) + 1) (by omega) (by omega)]
      refine ⟨(i + 1, msetV N (Y + (i : Int)) (.bool true)), ⟨by show ((i + 1 : Nat) : Int) ≤ _; omega, fun q => ?_⟩, ?_, by show (Z - Y - ((i + 1 : Nat) : Int)).toNat < (Z - Y - (i : Int)).toNat; omega⟩
      · show mgetV (msetV N (Y + (i : Int)) (.bool true)) q (.bool false) = .bool (decide ((A ≤ q ∧ q < X) ∨ (Y ≤ q ∧ q < Y + ((i + 1 : Nat) : Int))))
        rw [mgetV_set]
        by_cases hq : q = Y + (i : Int)
        · rw [if_pos hq, decide_eq_true (by omega)]
        · rw [if_neg hq, hN q]
          congr 1
          rw [Bool.eq_iff_iff, decide_eq_true_eq, decide_eq_true_eq]
          omega
      refine viewI [some 0, some 1, some 2] rfl rfl ?_ rfl ?_ rfl ?_
      repeat' (first | exact trivial | rfl | exact .inl rfl | exact .inr rfl | exact id | exact (fun h => Bool.noConfusion h) | refine And.intro ?_ ?_)
    have c5 : Z ≤ Y + (i : Int) := by simp at c5; omega
    have hsq : sqL (n + 1) a b = [sq (n + 1) a b] := by rw [sqL, if_neg (by omega)]
    have c21 := ok21 (sq (n + 1) a b)
    rw [sq_sure (n + 1) a b (by omega) (by omega)] at c21
    repeat ((conv => whnf); first | refine Cd.seq ?_ | refine Cd.cut ?_ | refine Cd.reg ?_ | refine Cd.block ?_ | refine Cd.cond ?_ | refine Cd.dreg ?_ | refine Cd.skip ?_ | refine Cd.ret ?_ | refine Cd.exit ?_ | refine Cd.loop ?_ | refine ⟨rfl, ?_⟩ | refine ⟨Nat.le_of_ble_eq_true rfl, ?_⟩ | refine ⟨.inl rfl, ?_⟩ | refine ⟨fun h => Bool.noConfusion h, ?_⟩)
    conv => whnf
    refine ⟨fun _ => ⟨rfl, by decide, by show (0 : Int) < ((1 : Nat) : Int); decide⟩, ?_⟩
    rw [show (rowsS [sq (n + 1) a b]).getD (0 : Int).toNat [] = (sq (n + 1) a b).c from rfl]
    repeat ((conv => whnf); first | refine Cd.seq ?_ | refine Cd.cut ?_ | refine Cd.reg ?_ | refine Cd.block ?_ | refine Cd.cond ?_ | refine Cd.dreg ?_ | refine Cd.skip ?_ | refine Cd.ret ?_ | refine Cd.exit ?_ | refine Cd.loop ?_ | refine ⟨rfl, ?_⟩ | refine ⟨Nat.le_of_ble_eq_true rfl, ?_⟩ | refine ⟨.inl rfl, ?_⟩ | refine ⟨fun h => Bool.noConfusion h, ?_⟩ | refine .inl ⟨_, fun _ => ⟨purA rfl, (by first | exact c21)⟩, .inl rfl, ?_⟩)
    conv => whnf
    refine ⟨⟨n + 1, a, b, v, A', X', N⟩, ⟨⟨by show 0 ≤ n + 1; omega, by show n + 1 ≤ b; omega, by show b ≤ e; omega⟩, .inr ⟨by show 0 ≤ a; omega, by show a < b; omega⟩, S.inv, fun q => ?_⟩, ?_, by show (e - b).toNat < (e - a).toNat; omega⟩
    · show mgetV N q (.bool false) = .bool (decide (A' ≤ q ∧ q < X'))
      rw [hN q]
      congr 1
      rw [Bool.eq_iff_iff, decide_eq_true_eq, decide_eq_true_eq, S.set q]
      omega
    refine viewI [some 0, some 1] rfl rfl ?_ rfl ?_ rfl ?_
    repeat' (first | exact trivial | rfl | exact .inl rfl | exact .inr rfl | exact id | exact (fun h => Bool.noConfusion h) | refine And.intro ?_ ?_)
    exact congrArg rowsS hsq.symm
  repeat ((conv => whnf); first | refine Cd.seq ?_ | refine Cd.cut ?_ | refine Cd.reg ?_ | refine Cd.block ?_ | refine Cd.cond ?_ | refine Cd.dreg ?_ | refine Cd.skip ?_ | refine Cd.ret ?_ | refine Cd.exit ?_ | refine Cd.loop ?_ | refine ⟨rfl, ?_⟩ | refine ⟨Nat.le_of_ble_eq_true rfl, ?_⟩ | refine ⟨.inl rfl, ?_⟩ | refine ⟨fun h => Bool.noConfusion h, ?_⟩ | refine .inl ⟨_, fun _ => ⟨purA rfl, (by first | exact okD20)⟩, .inl rfl, ?_⟩)
  conv => whnf
  refine ⟨[], ?_, rfl, trivial, rfl, ?_⟩
  · exact trivial
  try subst hk
  repeat' (first | exact trivial | rfl | exact .inl rfl | exact .inr rfl | exact id | exact (fun h => Bool.noConfusion h) | refine And.intro ?_ ?_)
end Go.Proofs.YteelckbeekgfiaaDoor
