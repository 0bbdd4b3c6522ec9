/- Stream: the law StreamKeeps, as a contract. -/
import Derived.Test.YteelckbeekgfiaaW19
set_option linter.unusedSimpArgs false
set_option linter.unusedVariables false
namespace Go.Proofs.Yteelckbeekgfiaa
open Go Go.Sk Go.RowKit

/- pagecache/pagecachelaw06.StreamKeeps -/
def rc6 : RC :=
  (.seq
  (.reg [⟨(some 2), none, (.mv (.c (.bool false)))⟩] [])
  (.seq
  (.reg [⟨(some 12), none, (.mv (.t 0))⟩,
    ⟨(some 13), none, (.build [(.lst 0 true []), (.int .i64 0)] [(0, (1, (.t 12)))])⟩,
    ⟨(some 14), none, (.box (.t 13))⟩,
    ⟨(some 3), none, (.mv (.t 14))⟩] [12, 13, 14])
  (.seq
  (.reg [⟨(some 15), none, (.mv (.t 3))⟩,
    ⟨(some 16), none, (.call 26 [(.t 15)])⟩,
    ⟨(some 4), none, (.mv (.t 16))⟩] [15, 16])
  (.seq
  (.seq
  (.reg [⟨(some 5), none, (.mv (.c (.int .i64 0)))⟩] [])
  (.block 0
   (.loop
    (.seq
    (.seq
    (.reg [⟨(some 17), none, (.mv (.t 5))⟩,
      ⟨(some 18), none, (.bin .lss (.t 17) (.c (.int .i64 6)))⟩] [17])
    (.cond (.t 18)
     .skip
     (.exit 0)))
    (.seq
    (.block 1
     (.seq
     (.reg [⟨(some 22), none, (.mv (.t 3))⟩,
       ⟨(some 23), none, (.mv (.t 4))⟩,
       ⟨(some 24), none, (.call 10 [(.t 22), (.t 23)])⟩,
       ⟨(some 21), none, (.mv (.t 24))⟩,
       ⟨(some 25), none, (.extr 0 (.t 21))⟩,
       ⟨(some 26), none, (.extr 1 (.t 21))⟩,
       ⟨(some 6), none, (.mv (.t 25))⟩,
       ⟨(some 7), none, (.mv (.t 26))⟩] [22, 23, 24, 21, 25, 26])
     (.seq
     (.reg [⟨(some 28), none, (.mv (.t 4))⟩,
       ⟨(some 29), none, (.mv (.t 6))⟩,
       ⟨(some 30), none, (.mv (.t 7))⟩,
       ⟨(some 31), none, (.call 11 [(.t 28), (.t 29), (.t 30)])⟩,
       ⟨(some 27), none, (.mv (.t 31))⟩,
       ⟨(some 32), none, (.extr 0 (.t 27))⟩,
       ⟨(some 33), none, (.extr 1 (.t 27))⟩,
       ⟨(some 34), none, (.extr 2 (.t 27))⟩,
       ⟨(some 8), none, (.mv (.t 32))⟩,
       ⟨(some 9), none, (.mv (.t 33))⟩,
       ⟨(some 10), none, (.mv (.t 34))⟩] [28, 29, 30, 31, 27, 32, 33, 34])
     (.seq
     (.seq
     (.reg [⟨(some 35), none, (.mv (.t 10))⟩,
       ⟨(some 36), none, (.bin .neq (.t 35) (.c (.int .i64 0)))⟩] [35])
     (.cond (.t 36)
      (.seq
      (.reg [⟨(some 37), none, (.mv (.t 8))⟩,
        ⟨(some 38), none, (.len (.t 37))⟩,
        ⟨(some 39), none, (.mv (.t 4))⟩,
        ⟨(some 40), none, (.len (.t 39))⟩,
        ⟨(some 41), none, (.bin .eql (.t 38) (.t 40))⟩,
        ⟨(some 42), none, (.mv (.t 41))⟩,
        ⟨(some 43), (some (42, true)), (.call 18 [])⟩,
        ⟨(some 44), none, (.pick (.t 42) (.t 43) (.c (.bool false)))⟩,
        ⟨(some 2), none, (.mv (.t 44))⟩] [37, 38, 39, 40, 41, 42, 43, 44])
      .ret)
      .skip))
     (.seq
     (.seq
     (.reg [⟨(some 45), none, (.mv (.t 8))⟩,
       ⟨(some 46), none, (.call 14 [(.t 45)])⟩,
       ⟨(some 47), none, (.un .not (.t 46))⟩,
       ⟨(some 48), none, (.mv (.t 47))⟩,
       ⟨(some 49), (some (48, false)), (.mv (.t 8))⟩,
       ⟨(some 50), (some (48, false)), (.len (.t 49))⟩,
       ⟨(some 51), (some (48, false)), (.mv (.t 4))⟩,
       ⟨(some 52), (some (48, false)), (.len (.t 51))⟩,
       ⟨(some 53), (some (48, false)), (.bin .add (.t 52) (.c (.int .i64 1)))⟩,
       ⟨(some 54), (some (48, false)), (.bin .gtr (.t 50) (.t 53))⟩,
       ⟨(some 55), none, (.pick (.t 48) (.c (.bool true)) (.t 54))⟩,
       ⟨(some 56), none, (.mv (.t 55))⟩,
       ⟨(some 57), (some (56, false)), (.mv (.t 9))⟩,
       ⟨(some 58), (some (56, false)), (.bin .lss (.t 57) (.c (.int .i64 0)))⟩,
       ⟨(some 59), none, (.pick (.t 56) (.c (.bool true)) (.t 58))⟩,
       ⟨(some 60), none, (.mv (.t 59))⟩,
       ⟨(some 61), (some (60, false)), (.mv (.t 9))⟩,
       ⟨(some 62), (some (60, false)), (.mv (.t 8))⟩,
       ⟨(some 63), (some (60, false)), (.len (.t 62))⟩,
       ⟨(some 64), (some (60, false)), (.bin .geq (.t 61) (.t 63))⟩,
       ⟨(some 65), none, (.pick (.t 60) (.c (.bool true)) (.t 64))⟩,
       ⟨(some 66), none, (.mv (.t 65))⟩,
       ⟨(some 67), (some (66, false)), (.mv (.t 8))⟩,
       ⟨(some 68), (some (66, false)), (.mv (.t 9))⟩,
       ⟨(some 69), (some (66, false)), (.iaddr 6 (.t 67) (.t 68))⟩,
       ⟨(some 70), (some (66, false)), (.faddr 1 (.t 69))⟩,
       ⟨(some 71), (some (66, false)), (.ld false 1 (.t 70))⟩,
       ⟨(some 72), (some (66, false)), (.mv (.t 6))⟩,
       ⟨(some 73), (some (66, false)), (.bin .gtr (.t 71) (.t 72))⟩,
       ⟨(some 74), none, (.pick (.t 66) (.c (.bool true)) (.t 73))⟩,
       ⟨(some 75), none, (.mv (.t 74))⟩,
       ⟨(some 76), (some (75, false)), (.mv (.t 8))⟩,
       ⟨(some 77), (some (75, false)), (.mv (.t 9))⟩,
       ⟨(some 78), (some (75, false)), (.iaddr 6 (.t 76) (.t 77))⟩,
       ⟨(some 79), (some (75, false)), (.faddr 2 (.t 78))⟩,
       ⟨(some 80), (some (75, false)), (.ld false 1 (.t 79))⟩,
       ⟨(some 81), (some (75, false)), (.mv (.t 7))⟩,
       ⟨(some 82), (some (75, false)), (.bin .lss (.t 80) (.t 81))⟩,
       ⟨(some 83), none, (.pick (.t 75) (.c (.bool true)) (.t 82))⟩] [45, 46, 47, 48, 49, 50, 51, 52, 53, 54, 55, 56, 57, 58, 59, 60, 61, 62, 63, 64, 65, 66, 67, 68, 69, 70, 71, 72, 73, 74, 75, 76, 77, 78, 79, 80, 81, 82])
     (.cond (.t 83)
      (.seq
      (.reg [⟨(some 2), none, (.mv (.c (.bool false)))⟩] [])
      .ret)
      .skip))
     (.seq
     (.seq
     (.reg [⟨(some 11), none, (.mv (.c (.int .i64 0)))⟩] [])
     (.block 2
      (.loop
       (.seq
       (.seq
       (.reg [⟨(some 84), none, (.mv (.t 11))⟩,
         ⟨(some 85), none, (.mv (.t 4))⟩,
         ⟨(some 86), none, (.len (.t 85))⟩,
         ⟨(some 87), none, (.bin .lss (.t 84) (.t 86))⟩] [84, 85, 86])
       (.cond (.t 87)
        .skip
        (.exit 2)))
       (.seq
       (.block 3
        (.seq
        (.dreg 16384 16608 [⟨(some 90), none, (.mv (.t 11))⟩,
          ⟨(some 91), none, (.mv (.t 9))⟩,
          ⟨(some 92), none, (.bin .neq (.t 90) (.t 91))⟩,
          ⟨(some 93), none, (.mv (.t 92))⟩,
          ⟨(some 94), (some (93, true)), (.mv (.t 8))⟩,
          ⟨(some 95), (some (93, true)), (.mv (.t 11))⟩,
          ⟨(some 96), (some (93, true)), (.iaddr 6 (.t 94) (.t 95))⟩,
          ⟨(some 97), (some (93, true)), (.ld true 6 (.t 96))⟩,
          ⟨(some 98), (some (93, true)), (.mv (.t 4))⟩,
          ⟨(some 99), (some (93, true)), (.mv (.t 11))⟩,
          ⟨(some 100), (some (93, true)), (.iaddr 6 (.t 98) (.t 99))⟩,
          ⟨(some 101), (some (93, true)), (.ld true 6 (.t 100))⟩,
          ⟨(some 102), (some (93, true)), (.eqs true [(0, false), (1, false), (2, false), (3, false), (4, false), (5, false)] (.t 97) (.t 101))⟩,
          ⟨(some 103), none, (.pick (.t 93) (.t 102) (.c (.bool false)))⟩] [90, 91, 92, 93, 94, 95, 96, 97, 98, 99, 100, 101, 102] [[], [], [0, 1], [2, 0, 1], [3, 2, 0, 1], [3, 2, 0, 1], [4, 5, 3, 2, 0, 1], [6, 4, 5, 3, 2, 0, 1], [3, 2, 0, 1], [3, 2, 0, 1], [8, 9, 3, 2, 0, 1], [10, 8, 9, 3, 2, 0, 1], [7, 6, 4, 5, 11, 10, 8, 9, 3, 2, 0, 1], [12, 7, 6, 4, 5, 11, 10, 8, 9, 3, 2, 0, 1]] [16384, 16400, 16416, 16432, 16448, 16464, 16480, 16496, 16512, 16528, 16544, 16560, 16576, 16592])
        (.cond (.t 103)
         (.seq
         (.reg [⟨(some 2), none, (.mv (.c (.bool false)))⟩] [])
         .ret)
         .skip)))
       (.reg [⟨(some 88), none, (.mv (.t 11))⟩,
         ⟨(some 89), none, (.bin .add (.t 88) (.c (.int .i64 1)))⟩,
         ⟨(some 11), none, (.mv (.t 89))⟩] [88, 89]))))))
     (.reg [⟨(some 104), none, (.mv (.t 8))⟩,
       ⟨(some 4), none, (.mv (.t 104))⟩] [104])))))))
    (.reg [⟨(some 19), none, (.mv (.t 5))⟩,
      ⟨(some 20), none, (.bin .add (.t 19) (.c (.int .i64 1)))⟩,
      ⟨(some 5), none, (.mv (.t 20))⟩] [19, 20]))))))
  (.seq
  (.reg [⟨(some 105), none, (.call 18 [])⟩,
    ⟨(some 2), none, (.mv (.t 105))⟩] [105])
  .ret)))))
theorem rcq6 : resC Go.Proofs.Try.prog Go.Proofs.Try.f6.ntmps ((Go.Proofs.Try.f6.body).getD .skip) = some (strip rc6) := by kernel_rfl
def rv6 : List RV := [(.tmp 2)]
theorem rvq6 : Go.Proofs.Try.f6.results.toList.mapM (resRV Go.Proofs.Try.prog) = some rv6 := by kernel_rfl

theorem fromA_in (L : List Int) (l : List Stm) (I : Nat) (h2 : I ≤ L.length) : (fromA L l I).2 ≤ L.length := by
  unfold fromA
  cases decide (0 < (l.length : Int)) <;> cases decide (0 < nxV L (nxI L I) 4) <;> simp only [cond_true, cond_false]
  · exact nxI_in L _ h2
  · exact nxI_in L _ h2
  · exact nxI_in L _ (nxI_in L _ h2)
  · exact nxI_in L _ (nxI_in L _ (nxI_in L _ (nxI_in L _ h2)))
theorem accessF_in (L : List Int) (l : List Stm) (I : Nat) (h2 : I ≤ L.length) : (accessF L l I).2 ≤ L.length := by
  have := fromA_in L l I h2
  unfold accessF accTail
  cases (nxV L (fromA L l I).2 16 == 0) <;> simp only [cond_true, cond_false]
  · exact nxI_in L _ (nxI_in L _ this)
  · exact nxI_in L _ (nxI_in L _ (nxI_in L _ this))
set_option maxRecDepth 20000 in
set_option maxHeartbeats 1000000 in
theorem ok6 (L : List Int) (hL : (L.length : Int) < 2 ^ 62) : FnC Try.prog 6 [] [.lst 1 false (rowsI L)] (.bool true) [] := by
  refine fn_okC (ob0 := []) (rc := rc6) (rvs := rv6) Try.func6 rfl rcq6 rvq6 (show 1 ≤ _ by decide) ?_
  obtain ⟨b1, b2⟩ := streamsF_in L 0 (by omega)
  have hc := streamsF_check L 0
  repeat ((conv => whnf); first | refine Cd.seq ?_ | refine Cd.reg ?_ | refine Cd.block ?_ | refine Cd.cond ?_ | refine Cd.dreg ?_ | refine Cd.skip ?_ | refine Cd.ret ?_ | refine Cd.exit ?_ | refine Cd.loop ?_ | refine ⟨rfl, ?_⟩ | refine ⟨Nat.le_of_ble_eq_true rfl, ?_⟩ | refine ⟨.inl rfl, ?_⟩ | refine .inr ⟨fun _ => ⟨[0], _, _, _, ok10 L _ _ hL (by omega) (by omega), ⟨rfl, rfl, trivial⟩, rfl, rfl, rfl, rfl, ?_⟩, (by intro h; cases h)⟩)
  conv => whnf
  refine .inr ⟨fun _ => ⟨[0], _, _, _, ok26 L 0 hL (by omega), ⟨rfl, rfl, trivial⟩, rfl, rfl, rfl, rfl, ?_⟩, (by intro h; cases h)⟩
  revert b1 b2 hc
  generalize (streamsF L 0).1 = l0
  generalize (streamsF L 0).2 = J0
  intro b1 b2 hc
  repeat ((conv => whnf); first | refine Cd.seq ?_ | refine Cd.reg ?_ | refine Cd.block ?_ | refine Cd.cond ?_ | refine Cd.dreg ?_ | refine Cd.skip ?_ | refine Cd.ret ?_ | refine Cd.exit ?_ | refine Cd.loop ?_ | refine ⟨rfl, ?_⟩ | refine ⟨Nat.le_of_ble_eq_true rfl, ?_⟩ | refine ⟨.inl rfl, ?_⟩ | refine .inr ⟨fun _ => ⟨[0], _, _, _, ok10 L _ _ hL (by omega) (by omega), ⟨rfl, rfl, trivial⟩, rfl, rfl, rfl, rfl, ?_⟩, (by intro h; cases h)⟩)
  conv => whnf
  refine ⟨Nat × Nat × List Stm, fun p => p.1 ≤ 6 ∧ p.2.1 ≤ L.length ∧ p.2.2.length ≤ 4 ∧ checkF p.2.2 = true,
    fun | (n, J, l) => ⟨[(2, ⟨[], true, .bool false⟩), (3, ⟨[], true, .ptr 0 0 0⟩), (4, ⟨[], true, .lst 6 false (rowsS l)⟩), (5, ⟨[], true, .int .i64 n⟩)], [(0, tpO L J)], 1⟩, fun p => 6 - p.1, ⟨(0, J0, l0), ⟨by simp, b2, b1, hc⟩, ?_⟩, fun p hI => ?_⟩
  · refine viewI [some 0] rfl rfl ?_ rfl ?_ rfl ?_
    repeat' (first | exact trivial | rfl | exact .inl rfl | exact .inr rfl | exact id | exact (fun h => Bool.noConfusion h) | refine And.intro ?_ ?_)
  obtain ⟨n, J, l⟩ := p
  obtain ⟨c1, c2, c3, c4⟩ := hI
  simp only at c1 c2 c3 c4
  repeat ((conv => whnf); first | refine Cd.seq ?_ | refine Cd.reg ?_ | refine Cd.block ?_ | refine Cd.cond ?_ | refine Cd.dreg ?_ | refine Cd.skip ?_ | refine Cd.ret ?_ | refine Cd.exit ?_ | refine Cd.loop ?_ | refine ⟨rfl, ?_⟩ | refine ⟨Nat.le_of_ble_eq_true rfl, ?_⟩ | refine ⟨.inl rfl, ?_⟩ | refine .inr ⟨fun _ => ⟨[0], _, _, _, ok10 L _ _ hL (by omega) (by omega), ⟨rfl, rfl, trivial⟩, rfl, rfl, rfl, rfl, ?_⟩, (by intro h; cases h)⟩)
  conv => whnf
  refine ⟨fun h1 => ?_, fun h1 => ?_⟩ <;> try simp only [Bool.cond_true_left, Bool.cond_false_right, Bool.not_eq_true', Bool.not_eq_false', Bool.not_not] at h1
  · have h1 : n < 6 := by simp at h1; omega
    have hwn : IntKind.i64.wrap ((n : Int) + 1) = ((n + 1 : Nat) : Int) := by rw [wrapI (by omega) (by omega)]; omega
    have hwl : IntKind.i64.wrap ((l.length : Int) + 1) = (l.length : Int) + 1 := wrapI (by omega) (by omega)
    have d1 := accessF_in L l J c2
    repeat ((conv => whnf); first | refine Cd.seq ?_ | refine Cd.reg ?_ | refine Cd.block ?_ | refine Cd.cond ?_ | refine Cd.dreg ?_ | refine Cd.skip ?_ | refine Cd.ret ?_ | refine Cd.exit ?_ | refine Cd.loop ?_ | refine ⟨rfl, ?_⟩ | refine ⟨Nat.le_of_ble_eq_true rfl, ?_⟩ | refine ⟨.inl rfl, ?_⟩ | refine .inr ⟨fun _ => ⟨[0], _, _, _, ok10 L _ _ hL (by omega) (by omega), ⟨rfl, rfl, trivial⟩, rfl, rfl, rfl, rfl, ?_⟩, (by intro h; cases h)⟩)
    conv => whnf
    revert d1
    generalize (accessF L l J).1.1 = a
    generalize (accessF L l J).1.2 = b
    generalize (accessF L l J).2 = M
    intro d1
    repeat ((conv => whnf); first | refine Cd.seq ?_ | refine Cd.reg ?_ | refine Cd.block ?_ | refine Cd.cond ?_ | refine Cd.dreg ?_ | refine Cd.skip ?_ | refine Cd.ret ?_ | refine Cd.exit ?_ | refine Cd.loop ?_ | refine ⟨rfl, ?_⟩ | refine ⟨Nat.le_of_ble_eq_true rfl, ?_⟩ | refine ⟨.inl rfl, ?_⟩ | refine .inl ⟨_, fun _ => ⟨purA rfl, (by first | exact ok11 l false a b (by omega))⟩, .inl rfl, ?_⟩ | refine .inr ⟨fun _ => ⟨[0], _, _, _, ok10 L _ _ hL (by omega) (by omega), ⟨rfl, rfl, trivial⟩, rfl, rfl, rfl, rfl, ?_⟩, (by intro h; cases h)⟩)
    conv => whnf
    rw [feedP_eq]
    have e1 := feed_err l a b
    have e2 := feed_ok l a b
    have e3 := feedR_len4 l a b c3
    generalize feedR l a b = r at e1 e2 e3 ⊢
    obtain ⟨m, k, e⟩ := r
    simp only at e1 e2 e3
    refine ⟨fun h2 => ?_, fun h2 => ?_⟩ <;> try simp only [Bool.cond_true_left, Bool.cond_false_right, Bool.not_eq_true', Bool.not_eq_false', Bool.not_not] at h2
    · have h2 : e ≠ 0 := by simpa using h2
      obtain rfl := e1 h2
      repeat ((conv => whnf); first | refine Cd.seq ?_ | refine Cd.reg ?_ | refine Cd.block ?_ | refine Cd.cond ?_ | refine Cd.dreg ?_ | refine Cd.skip ?_ | refine Cd.ret ?_ | refine Cd.exit ?_ | refine Cd.loop ?_ | refine ⟨rfl, ?_⟩ | refine ⟨Nat.le_of_ble_eq_true rfl, ?_⟩ | refine ⟨.inl rfl, ?_⟩ | refine .inl ⟨_, fun _ => ⟨purA rfl, (by first | exact ok18)⟩, .inl rfl, ?_⟩ | refine .inr ⟨fun _ => ⟨[0], _, _, _, ok10 L _ _ hL (by omega) (by omega), ⟨rfl, rfl, trivial⟩, rfl, rfl, rfl, rfl, ?_⟩, (by intro h; cases h)⟩)
      conv => whnf
      rw [show ((((rowsS m).length : Nat) : Int) == ((rowsS m).length : Int)) = true from beqT rfl]
      refine ⟨[], ?_, rfl, trivial, rfl, ?_⟩
      · exact trivial
      try subst hk
      repeat' (first | exact trivial | rfl | exact .inl rfl | exact .inr rfl | exact id | exact (fun h => Bool.noConfusion h) | refine And.intro ?_ ?_)
    have h2 : e = 0 := by simpa using h2
    obtain ⟨-, -, -, F⟩ := e2 h2
    have F1 := F.chk
    have F2 := F.len
    have F3 := F.lo
    have F4 := F.hi
    have F5 := F.start
    have F6 := F.stop
    have hB : (0 : Int) ≤ k ∧ k < ((rowsS m).length : Int) := by rw [rowsS_len]; omega
    have hG : (rowsS m).getD k.toNat [] = (m.getD k.toNat zeroS).c := rowsS_getI m k F3 F4
    repeat ((conv => whnf); first | refine Cd.seq ?_ | refine Cd.reg ?_ | refine Cd.block ?_ | refine Cd.cond ?_ | refine Cd.dreg ?_ | refine Cd.skip ?_ | refine Cd.ret ?_ | refine Cd.exit ?_ | refine Cd.loop ?_ | refine ⟨rfl, ?_⟩ | refine ⟨Nat.le_of_ble_eq_true rfl, ?_⟩ | refine ⟨.inl rfl, ?_⟩ | refine .inl ⟨_, fun _ => ⟨purA rfl, (by first | exact ok14 m false (by omega))⟩, .inl rfl, ?_⟩ | refine .inr ⟨fun _ => ⟨[0], _, _, _, ok10 L _ _ hL (by omega) (by omega), ⟨rfl, rfl, trivial⟩, rfl, rfl, rfl, rfl, ?_⟩, (by intro h; cases h)⟩)
    conv => whnf
    refine ⟨fun _ => ⟨rfl, hB.1, hB.2⟩, ?_⟩
    rw [hG]
    repeat ((conv => whnf); first | refine Cd.seq ?_ | refine Cd.reg ?_ | refine Cd.block ?_ | refine Cd.cond ?_ | refine Cd.dreg ?_ | refine Cd.skip ?_ | refine Cd.ret ?_ | refine Cd.exit ?_ | refine Cd.loop ?_ | refine ⟨rfl, ?_⟩ | refine ⟨Nat.le_of_ble_eq_true rfl, ?_⟩ | refine ⟨.inl rfl, ?_⟩ | refine .inr ⟨fun _ => ⟨[0], _, _, _, ok10 L _ _ hL (by omega) (by omega), ⟨rfl, rfl, trivial⟩, rfl, rfl, rfl, rfl, ?_⟩, (by intro h; cases h)⟩)
    conv => whnf
    refine ⟨fun _ => ⟨rfl, hB.1, hB.2⟩, ?_⟩
    rw [hG]
    repeat ((conv => whnf); first | refine Cd.seq ?_ | refine Cd.reg ?_ | refine Cd.block ?_ | refine Cd.cond ?_ | refine Cd.dreg ?_ | refine Cd.skip ?_ | refine Cd.ret ?_ | refine Cd.exit ?_ | refine Cd.loop ?_ | refine ⟨rfl, ?_⟩ | refine ⟨Nat.le_of_ble_eq_true rfl, ?_⟩ | refine ⟨.inl rfl, ?_⟩ | refine .inr ⟨fun _ => ⟨[0], _, _, _, ok10 L _ _ hL (by omega) (by omega), ⟨rfl, rfl, trivial⟩, rfl, rfl, rfl, rfl, ?_⟩, (by intro h; cases h)⟩)
    conv => whnf
    rw [rowsS_len, rowsS_len, hwl]
    refine ⟨fun h3 => ?_, fun h3 => ?_⟩ <;> try simp only [Bool.cond_true_left, Bool.cond_false_right, Bool.not_eq_true', Bool.not_eq_false', Bool.not_not] at h3
    · rw [F1] at h3
      clear hG
      generalize m.getD k.toNat zeroS = ms at F5 F6 h3
      simp at h3
      omega
    clear h3
    repeat ((conv => whnf); first | refine Cd.seq ?_ | refine Cd.reg ?_ | refine Cd.block ?_ | refine Cd.cond ?_ | refine Cd.dreg ?_ | refine Cd.skip ?_ | refine Cd.ret ?_ | refine Cd.exit ?_ | refine Cd.loop ?_ | refine ⟨rfl, ?_⟩ | refine ⟨Nat.le_of_ble_eq_true rfl, ?_⟩ | refine ⟨.inl rfl, ?_⟩ | refine .inr ⟨fun _ => ⟨[0], _, _, _, ok10 L _ _ hL (by omega) (by omega), ⟨rfl, rfl, trivial⟩, rfl, rfl, rfl, rfl, ?_⟩, (by intro h; cases h)⟩)
    conv => whnf
    refine ⟨Nat, fun i => i ≤ l.length, fun i => ⟨[(2, ⟨[], true, .bool false⟩), (3, ⟨[], true, .ptr 0 0 0⟩), (4, ⟨[], true, .lst 6 false (rowsS l)⟩), (5, ⟨[], true, .int .i64 n⟩), (8, ⟨[], true, .lst 6 false (rowsS m)⟩), (9, ⟨[], true, .int .i64 k⟩), (11, ⟨[], true, .int .i64 i⟩)], [(0, tpO L M)], 1⟩, fun i => l.length - i, ⟨0, by omega, ?_⟩, fun i hi => ?_⟩
    · refine viewI [some 0] rfl rfl ?_ rfl ?_ rfl ?_
      repeat' (first | exact trivial | rfl | exact .inl rfl | exact .inr rfl | exact id | exact (fun h => Bool.noConfusion h) | refine And.intro ?_ ?_)
    have hi : i ≤ l.length := hi
    repeat ((conv => whnf); first | refine Cd.seq ?_ | refine Cd.reg ?_ | refine Cd.block ?_ | refine Cd.cond ?_ | refine Cd.dreg ?_ | refine Cd.skip ?_ | refine Cd.ret ?_ | refine Cd.exit ?_ | refine Cd.loop ?_ | refine ⟨rfl, ?_⟩ | refine ⟨Nat.le_of_ble_eq_true rfl, ?_⟩ | refine ⟨.inl rfl, ?_⟩ | refine .inr ⟨fun _ => ⟨[0], _, _, _, ok10 L _ _ hL (by omega) (by omega), ⟨rfl, rfl, trivial⟩, rfl, rfl, rfl, rfl, ?_⟩, (by intro h; cases h)⟩)
    conv => whnf
    rw [rowsS_len]
    refine ⟨fun h4 => ?_, fun h4 => ?_⟩ <;> try simp only [Bool.cond_true_left, Bool.cond_false_right, Bool.not_eq_true', Bool.not_eq_false', Bool.not_not] at h4
    · have h4 : i < l.length := by simp at h4; omega
      have hwi : IntKind.i64.wrap ((i : Int) + 1) = ((i + 1 : Nat) : Int) := by rw [wrapI (by omega) (by omega)]; omega
      repeat ((conv => whnf); first | refine Cd.seq ?_ | refine Cd.reg ?_ | refine Cd.block ?_ | refine Cd.cond ?_ | refine Cd.dreg ?_ | refine Cd.skip ?_ | refine Cd.ret ?_ | refine Cd.exit ?_ | refine Cd.loop ?_ | refine ⟨rfl, ?_⟩ | refine ⟨Nat.le_of_ble_eq_true rfl, ?_⟩ | refine ⟨.inl rfl, ?_⟩ | refine .inr ⟨fun _ => ⟨[0], _, _, _, ok10 L _ _ hL (by omega) (by omega), ⟨rfl, rfl, trivial⟩, rfl, rfl, rfl, rfl, ?_⟩, (by intro h; cases h)⟩)
      conv => whnf
      refine ⟨fun _ => ⟨rfl, by simp, by rw [rowsS_len]; omega⟩, ?_⟩
      rw [rowsS_getI m _ (by simp) (by omega), Int.toNat_natCast]
      repeat ((conv => whnf); first | refine Cd.seq ?_ | refine Cd.reg ?_ | refine Cd.block ?_ | refine Cd.cond ?_ | refine Cd.dreg ?_ | refine Cd.skip ?_ | refine Cd.ret ?_ | refine Cd.exit ?_ | refine Cd.loop ?_ | refine ⟨rfl, ?_⟩ | refine ⟨Nat.le_of_ble_eq_true rfl, ?_⟩ | refine ⟨.inl rfl, ?_⟩ | refine .inr ⟨fun _ => ⟨[0], _, _, _, ok10 L _ _ hL (by omega) (by omega), ⟨rfl, rfl, trivial⟩, rfl, rfl, rfl, rfl, ?_⟩, (by intro h; cases h)⟩)
      conv => whnf
      refine ⟨fun _ => ⟨rfl, by simp, by rw [rowsS_len]; omega⟩, ?_⟩
      rw [rowsS_getI l _ (by simp) (by omega), Int.toNat_natCast]
      repeat ((conv => whnf); first | refine Cd.seq ?_ | refine Cd.reg ?_ | refine Cd.block ?_ | refine Cd.cond ?_ | refine Cd.dreg ?_ | refine Cd.skip ?_ | refine Cd.ret ?_ | refine Cd.exit ?_ | refine Cd.loop ?_ | refine ⟨rfl, ?_⟩ | refine ⟨Nat.le_of_ble_eq_true rfl, ?_⟩ | refine ⟨.inl rfl, ?_⟩ | refine .inr ⟨fun _ => ⟨[0], _, _, _, ok10 L _ _ hL (by omega) (by omega), ⟨rfl, rfl, trivial⟩, rfl, rfl, rfl, rfl, ?_⟩, (by intro h; cases h)⟩)
      conv => whnf
      refine ⟨fun h5 => ?_, fun h5 => ?_⟩ <;> try simp only [Bool.cond_true_left, Bool.cond_false_right, Bool.not_eq_true', Bool.not_eq_false', Bool.not_not] at h5
      · have h5 : ((i : Int) != k && !eqS (m.getD i zeroS) (l.getD i zeroS)) = true := h5
        by_cases hk : (i : Int) = k
        · rw [bneF hk] at h5; cases h5
        · rw [F.other i h4 hk, (eqS_iff _ _).2 rfl] at h5
          simp at h5
      repeat ((conv => whnf); first | refine Cd.seq ?_ | refine Cd.reg ?_ | refine Cd.block ?_ | refine Cd.cond ?_ | refine Cd.dreg ?_ | refine Cd.skip ?_ | refine Cd.ret ?_ | refine Cd.exit ?_ | refine Cd.loop ?_ | refine ⟨rfl, ?_⟩ | refine ⟨Nat.le_of_ble_eq_true rfl, ?_⟩ | refine ⟨.inl rfl, ?_⟩ | refine .inr ⟨fun _ => ⟨[0], _, _, _, ok10 L _ _ hL (by omega) (by omega), ⟨rfl, rfl, trivial⟩, rfl, rfl, rfl, rfl, ?_⟩, (by intro h; cases h)⟩)
      conv => whnf
      rw [hwi]
      refine ⟨i + 1, by show i + 1 ≤ _; omega, ?_, by show l.length - (i + 1) < l.length - i; omega⟩
      refine viewI [some 0] rfl rfl ?_ rfl ?_ rfl ?_
      repeat' (first | exact trivial | rfl | exact .inl rfl | exact .inr rfl | exact id | exact (fun h => Bool.noConfusion h) | refine And.intro ?_ ?_)
    repeat ((conv => whnf); first | refine Cd.seq ?_ | refine Cd.reg ?_ | refine Cd.block ?_ | refine Cd.cond ?_ | refine Cd.dreg ?_ | refine Cd.skip ?_ | refine Cd.ret ?_ | refine Cd.exit ?_ | refine Cd.loop ?_ | refine ⟨rfl, ?_⟩ | refine ⟨Nat.le_of_ble_eq_true rfl, ?_⟩ | refine ⟨.inl rfl, ?_⟩ | refine .inr ⟨fun _ => ⟨[0], _, _, _, ok10 L _ _ hL (by omega) (by omega), ⟨rfl, rfl, trivial⟩, rfl, rfl, rfl, rfl, ?_⟩, (by intro h; cases h)⟩)
    conv => whnf
    rw [hwn]
    refine ⟨(n + 1, _, _), ⟨by show n + 1 ≤ 6; omega, d1, e3, F1⟩, ?_, by show 6 - (n + 1) < 6 - n; omega⟩
    refine viewI [some 0] rfl rfl ?_ rfl ?_ rfl ?_
    repeat' (first | exact trivial | rfl | exact .inl rfl | exact .inr rfl | exact id | exact (fun h => Bool.noConfusion h) | refine And.intro ?_ ?_)
  repeat ((conv => whnf); first | refine Cd.seq ?_ | refine Cd.reg ?_ | refine Cd.block ?_ | refine Cd.cond ?_ | refine Cd.dreg ?_ | refine Cd.skip ?_ | refine Cd.ret ?_ | refine Cd.exit ?_ | refine Cd.loop ?_ | refine ⟨rfl, ?_⟩ | refine ⟨Nat.le_of_ble_eq_true rfl, ?_⟩ | refine ⟨.inl rfl, ?_⟩ | refine .inl ⟨_, fun _ => ⟨purA rfl, (by first | exact ok18)⟩, .inl rfl, ?_⟩ | refine .inr ⟨fun _ => ⟨[0], _, _, _, ok10 L _ _ hL (by omega) (by omega), ⟨rfl, rfl, trivial⟩, rfl, rfl, rfl, rfl, ?_⟩, (by intro h; cases h)⟩)
  conv => whnf
  refine ⟨[], ?_, rfl, trivial, rfl, ?_⟩
  · exact trivial
  try subst hk
  repeat' (first | exact trivial | rfl | exact .inl rfl | exact .inr rfl | exact id | exact (fun h => Bool.noConfusion h) | refine And.intro ?_ ?_)
end Go.Proofs.Yteelckbeekgfiaa
