/- Stream: the laws StreamFeeds and StreamPredicts, as contracts. -/
import Derived.Test.YteelckbeekgfiaaW14
import Derived.Test.YteelckbeekgfiaaW16
set_option linter.unusedSimpArgs false
set_option linter.unusedVariables false
namespace Go.Proofs.Yteelckbeekgfiaa
open Go Go.Sk Go.RowKit

/- pagecache/pagecachelaw06.StreamFeeds -/
def rc3 : RC :=
  (.seq
  (.reg [⟨(some 2), none, (.mv (.c (.bool false)))⟩] [])
  (.seq
  (.reg [⟨(some 18), none, (.mv (.t 0))⟩,
    ⟨(some 19), none, (.build [(.lst 0 true []), (.int .i64 0)] [(0, (1, (.t 18)))])⟩,
    ⟨(some 20), none, (.box (.t 19))⟩,
    ⟨(some 3), none, (.mv (.t 20))⟩] [18, 19, 20])
  (.seq
  (.reg [⟨(some 21), none, (.mv (.t 3))⟩,
    ⟨(some 22), none, (.call 9 [(.t 21)])⟩,
    ⟨(some 4), none, (.mv (.t 22))⟩] [21, 22])
  (.seq
  (.reg [⟨(some 24), none, (.mv (.t 3))⟩,
    ⟨(some 25), none, (.mv (.t 4))⟩,
    ⟨(some 26), none, (.call 10 [(.t 24), (.t 25)])⟩,
    ⟨(some 23), none, (.mv (.t 26))⟩,
    ⟨(some 27), none, (.extr 0 (.t 23))⟩,
    ⟨(some 28), none, (.extr 1 (.t 23))⟩,
    ⟨(some 5), none, (.mv (.t 27))⟩,
    ⟨(some 6), none, (.mv (.t 28))⟩] [24, 25, 26, 23, 27, 28])
  (.seq
  (.reg [⟨(some 30), none, (.mv (.t 4))⟩,
    ⟨(some 31), none, (.mv (.t 5))⟩,
    ⟨(some 32), none, (.mv (.t 6))⟩,
    ⟨(some 33), none, (.call 11 [(.t 30), (.t 31), (.t 32)])⟩,
    ⟨(some 29), none, (.mv (.t 33))⟩,
    ⟨(some 34), none, (.extr 0 (.t 29))⟩,
    ⟨(some 35), none, (.extr 1 (.t 29))⟩,
    ⟨(some 36), none, (.extr 2 (.t 29))⟩,
    ⟨(some 7), none, (.mv (.t 34))⟩,
    ⟨(some 8), none, (.mv (.t 35))⟩,
    ⟨(some 9), none, (.mv (.t 36))⟩] [30, 31, 32, 33, 29, 34, 35, 36])
  (.seq
  (.reg [⟨(some 38), none, (.mv (.t 4))⟩,
    ⟨(some 39), none, (.mv (.t 5))⟩,
    ⟨(some 40), none, (.mv (.t 6))⟩,
    ⟨(some 41), none, (.call 12 [(.t 38), (.t 39), (.t 40)])⟩,
    ⟨(some 37), none, (.mv (.t 41))⟩,
    ⟨(some 42), none, (.extr 0 (.t 37))⟩,
    ⟨(some 43), none, (.extr 1 (.t 37))⟩,
    ⟨(some 44), none, (.extr 2 (.t 37))⟩,
    ⟨(some 10), none, (.mv (.t 42))⟩,
    ⟨(some 11), none, (.mv (.t 43))⟩,
    ⟨(some 12), none, (.mv (.t 44))⟩] [38, 39, 40, 41, 37, 42, 43, 44])
  (.seq
  (.seq
  (.reg [⟨(some 45), none, (.mv (.t 9))⟩,
    ⟨(some 46), none, (.mv (.t 12))⟩,
    ⟨(some 47), none, (.bin .neq (.t 45) (.t 46))⟩,
    ⟨(some 48), none, (.mv (.t 47))⟩,
    ⟨(some 49), (some (48, false)), (.mv (.t 8))⟩,
    ⟨(some 50), (some (48, false)), (.mv (.t 11))⟩,
    ⟨(some 51), (some (48, false)), (.bin .neq (.t 49) (.t 50))⟩,
    ⟨(some 52), none, (.pick (.t 48) (.c (.bool true)) (.t 51))⟩,
    ⟨(some 53), none, (.mv (.t 52))⟩,
    ⟨(some 54), (some (53, false)), (.mv (.t 7))⟩,
    ⟨(some 55), (some (53, false)), (.mv (.t 10))⟩,
    ⟨(some 56), (some (53, false)), (.call 13 [(.t 54), (.t 55)])⟩,
    ⟨(some 57), (some (53, false)), (.un .not (.t 56))⟩,
    ⟨(some 58), none, (.pick (.t 53) (.c (.bool true)) (.t 57))⟩,
    ⟨(some 59), none, (.mv (.t 58))⟩,
    ⟨(some 60), (some (59, false)), (.mv (.t 4))⟩,
    ⟨(some 61), (some (59, false)), (.call 14 [(.t 60)])⟩,
    ⟨(some 62), (some (59, false)), (.mv (.t 4))⟩,
    ⟨(some 63), (some (59, false)), (.call 15 [(.t 62)])⟩,
    ⟨(some 64), (some (59, false)), (.eqb true (.t 61) (.t 63))⟩,
    ⟨(some 65), none, (.pick (.t 59) (.c (.bool true)) (.t 64))⟩] [45, 46, 47, 48, 49, 50, 51, 52, 53, 54, 55, 56, 57, 58, 59, 60, 61, 62, 63, 64])
  (.cond (.t 65)
   (.seq
   (.reg [⟨(some 2), none, (.mv (.c (.bool false)))⟩] [])
   .ret)
   .skip))
  (.seq
  (.seq
  (.reg [⟨(some 13), none, (.mv (.c (.int .i64 0)))⟩] [])
  (.block 0
   (.loop
    (.seq
    (.seq
    (.reg [⟨(some 66), none, (.mv (.t 13))⟩,
      ⟨(some 67), none, (.mv (.t 4))⟩,
      ⟨(some 68), none, (.len (.t 67))⟩,
      ⟨(some 69), none, (.bin .lss (.t 66) (.t 68))⟩] [66, 67, 68])
    (.cond (.t 69)
     .skip
     (.exit 0)))
    (.seq
    (.block 1
     (.seq
     (.reg [⟨(some 73), none, (.mv (.t 4))⟩,
       ⟨(some 74), none, (.mv (.t 13))⟩,
       ⟨(some 75), none, (.iaddr 6 (.t 73) (.t 74))⟩,
       ⟨(some 76), none, (.ld true 6 (.t 75))⟩,
       ⟨(some 77), none, (.mv (.t 5))⟩,
       ⟨(some 78), none, (.mv (.t 6))⟩,
       ⟨(some 79), none, (.call 16 [(.t 76), (.t 77), (.t 78)])⟩,
       ⟨(some 72), none, (.mv (.t 79))⟩,
       ⟨(some 80), none, (.extr 0 (.t 72))⟩,
       ⟨(some 81), none, (.extr 1 (.t 72))⟩,
       ⟨(some 14), none, (.alloc [(.int .i64 0), (.int .i64 0), (.int .i64 0), (.int .i64 0), (.int .i64 0), (.int .i64 0)])⟩,
       ⟨none, none, (.st 6 (.t 14) (.t 80))⟩,
       ⟨(some 15), none, (.mv (.t 81))⟩] [73, 74, 75, 76, 77, 78, 79, 72, 80, 81])
     (.seq
     (.reg [⟨(some 83), none, (.mv (.t 4))⟩,
       ⟨(some 84), none, (.mv (.t 13))⟩,
       ⟨(some 85), none, (.iaddr 6 (.t 83) (.t 84))⟩,
       ⟨(some 86), none, (.ld true 6 (.t 85))⟩,
       ⟨(some 87), none, (.mv (.t 5))⟩,
       ⟨(some 88), none, (.mv (.t 6))⟩,
       ⟨(some 89), none, (.call 17 [(.t 86), (.t 87), (.t 88)])⟩,
       ⟨(some 82), none, (.mv (.t 89))⟩,
       ⟨(some 90), none, (.extr 0 (.t 82))⟩,
       ⟨(some 91), none, (.extr 1 (.t 82))⟩,
       ⟨(some 16), none, (.alloc [(.int .i64 0), (.int .i64 0), (.int .i64 0), (.int .i64 0), (.int .i64 0), (.int .i64 0)])⟩,
       ⟨none, none, (.st 6 (.t 16) (.t 90))⟩,
       ⟨(some 17), none, (.mv (.t 91))⟩] [83, 84, 85, 86, 87, 88, 89, 82, 90, 91])
     (.seq
     (.reg [⟨(some 92), none, (.ld true 6 (.t 14))⟩,
       ⟨(some 93), none, (.ld true 6 (.t 16))⟩,
       ⟨(some 94), none, (.eqs true [(0, false), (1, false), (2, false), (3, false), (4, false), (5, false)] (.t 92) (.t 93))⟩,
       ⟨(some 95), none, (.mv (.t 94))⟩,
       ⟨(some 96), (some (95, false)), (.mv (.t 15))⟩,
       ⟨(some 97), (some (95, false)), (.mv (.t 17))⟩,
       ⟨(some 98), (some (95, false)), (.eqb true (.t 96) (.t 97))⟩,
       ⟨(some 99), none, (.pick (.t 95) (.c (.bool true)) (.t 98))⟩] [92, 93, 94, 95, 96, 97, 98])
     (.cond (.t 99)
      (.seq
      (.reg [⟨(some 2), none, (.mv (.c (.bool false)))⟩] [])
      .ret)
      .skip)))))
    (.reg [⟨(some 70), none, (.mv (.t 13))⟩,
      ⟨(some 71), none, (.bin .add (.t 70) (.c (.int .i64 1)))⟩,
      ⟨(some 13), none, (.mv (.t 71))⟩] [70, 71]))))))
  (.seq
  (.reg [⟨(some 100), none, (.call 18 [])⟩,
    ⟨(some 2), none, (.mv (.t 100))⟩] [100])
  .ret)))))))))
theorem rcq3 : resC Go.Proofs.Try.prog Go.Proofs.Try.f3.ntmps ((Go.Proofs.Try.f3.body).getD .skip) = some (strip rc3) := by kernel_rfl
def rv3 : List RV := [(.tmp 2)]
theorem rvq3 : Go.Proofs.Try.f3.results.toList.mapM (resRV Go.Proofs.Try.prog) = some rv3 := by kernel_rfl

/- pagecache/pagecachelaw06.StreamPredicts -/
def rc4 : RC :=
  (.seq
  (.reg [⟨(some 4), none, (.mv (.c (.bool false)))⟩] [])
  (.seq
  (.reg [⟨(some 9), none, (.mv (.t 0))⟩,
    ⟨(some 10), none, (.build [(.lst 0 true []), (.int .i64 0)] [(0, (1, (.t 9)))])⟩,
    ⟨(some 11), none, (.box (.t 10))⟩,
    ⟨(some 5), none, (.mv (.t 11))⟩] [9, 10, 11])
  (.seq
  (.reg [⟨(some 12), none, (.mv (.t 5))⟩,
    ⟨(some 13), none, (.call 9 [(.t 12)])⟩,
    ⟨(some 6), none, (.mv (.t 13))⟩] [12, 13])
  (.seq
  (.reg [⟨(some 14), none, (.mv (.t 1))⟩,
    ⟨(some 15), none, (.call 19 [(.t 14), (.c (.int .i64 14))])⟩,
    ⟨(some 16), none, (.bin .sub (.t 15) (.c (.int .i64 2)))⟩,
    ⟨(some 7), none, (.mv (.t 16))⟩] [14, 15, 16])
  (.seq
  (.seq
  (.reg [⟨(some 17), none, (.mv (.t 1))⟩,
    ⟨(some 18), none, (.call 19 [(.t 17), (.c (.int .i64 40))])⟩,
    ⟨(some 19), none, (.bin .eql (.t 18) (.c (.int .i64 39)))⟩] [17, 18])
  (.cond (.t 19)
   (.reg [⟨(some 7), none, (.mv (.c (.int .i64 4611686018427387904)))⟩] [])
   .skip))
  (.seq
  (.seq
  (.reg [⟨(some 8), none, (.mv (.c (.int .i64 0)))⟩] [])
  (.block 0
   (.loop
    (.seq
    (.seq
    (.reg [⟨(some 20), none, (.mv (.t 8))⟩,
      ⟨(some 21), none, (.mv (.t 6))⟩,
      ⟨(some 22), none, (.len (.t 21))⟩,
      ⟨(some 23), none, (.bin .lss (.t 20) (.t 22))⟩] [20, 21, 22])
    (.cond (.t 23)
     .skip
     (.exit 0)))
    (.seq
    (.block 1
     (.seq
     (.dreg 10240 10672 [⟨(some 26), none, (.mv (.t 6))⟩,
       ⟨(some 27), none, (.mv (.t 8))⟩,
       ⟨(some 28), none, (.iaddr 6 (.t 26) (.t 27))⟩,
       ⟨(some 29), none, (.ld true 6 (.t 28))⟩,
       ⟨(some 30), none, (.call 20 [(.t 29)])⟩,
       ⟨(some 31), none, (.mv (.t 6))⟩,
       ⟨(some 32), none, (.mv (.t 8))⟩,
       ⟨(some 33), none, (.iaddr 6 (.t 31) (.t 32))⟩,
       ⟨(some 34), none, (.ld true 6 (.t 33))⟩,
       ⟨(some 35), none, (.call 21 [(.t 34)])⟩,
       ⟨(some 36), none, (.eqb true (.t 30) (.t 35))⟩,
       ⟨(some 37), none, (.mv (.t 36))⟩,
       ⟨(some 38), (some (37, false)), (.mv (.t 6))⟩,
       ⟨(some 39), (some (37, false)), (.mv (.t 8))⟩,
       ⟨(some 40), (some (37, false)), (.iaddr 6 (.t 38) (.t 39))⟩,
       ⟨(some 41), (some (37, false)), (.ld true 6 (.t 40))⟩,
       ⟨(some 42), (some (37, false)), (.mv (.t 7))⟩,
       ⟨(some 43), (some (37, false)), (.call 23 [(.t 41), (.t 42)])⟩,
       ⟨(some 44), (some (37, false)), (.mv (.t 6))⟩,
       ⟨(some 45), (some (37, false)), (.mv (.t 8))⟩,
       ⟨(some 46), (some (37, false)), (.iaddr 6 (.t 44) (.t 45))⟩,
       ⟨(some 47), (some (37, false)), (.ld true 6 (.t 46))⟩,
       ⟨(some 48), (some (37, false)), (.mv (.t 7))⟩,
       ⟨(some 49), (some (37, false)), (.call 24 [(.t 47), (.t 48)])⟩,
       ⟨(some 50), (some (37, false)), (.call 22 [(.t 43), (.t 49)])⟩,
       ⟨(some 51), (some (37, false)), (.un .not (.t 50))⟩,
       ⟨(some 52), none, (.pick (.t 37) (.c (.bool true)) (.t 51))⟩] [26, 27, 28, 29, 30, 31, 32, 33, 34, 35, 36, 37, 38, 39, 40, 41, 42, 43, 44, 45, 46, 47, 48, 49, 50, 51] [[], [], [0, 1], [2, 0, 1], [3, 2, 0, 1], [], [], [5, 6], [7, 5, 6], [8, 7, 5, 6, 4, 3, 2, 0, 1], [9, 8, 7, 5, 6, 4, 3, 2, 0, 1], [10, 9, 8, 7, 5, 6, 4, 3, 2, 0, 1], [11, 10, 9, 8, 7, 5, 6, 4, 3, 2, 0, 1], [11, 10, 9, 8, 7, 5, 6, 4, 3, 2, 0, 1], [12, 13, 11, 10, 9, 8, 7, 5, 6, 4, 3, 2, 0, 1], [14, 12, 13, 11, 10, 9, 8, 7, 5, 6, 4, 3, 2, 0, 1], [11, 10, 9, 8, 7, 5, 6, 4, 3, 2, 0, 1], [15, 14, 12, 13, 16, 11, 10, 9, 8, 7, 5, 6, 4, 3, 2, 0, 1], [11, 10, 9, 8, 7, 5, 6, 4, 3, 2, 0, 1], [11, 10, 9, 8, 7, 5, 6, 4, 3, 2, 0, 1], [18, 19, 11, 10, 9, 8, 7, 5, 6, 4, 3, 2, 0, 1], [20, 18, 19, 11, 10, 9, 8, 7, 5, 6, 4, 3, 2, 0, 1], [11, 10, 9, 8, 7, 5, 6, 4, 3, 2, 0, 1], [21, 20, 18, 19, 22, 17, 15, 14, 12, 13, 16, 11, 10, 9, 8, 7, 5, 6, 4, 3, 2, 0, 1], [23, 21, 20, 18, 19, 22, 17, 15, 14, 12, 13, 16, 11, 10, 9, 8, 7, 5, 6, 4, 3, 2, 0, 1], [24, 23, 21, 20, 18, 19, 22, 17, 15, 14, 12, 13, 16, 11, 10, 9, 8, 7, 5, 6, 4, 3, 2, 0, 1], [25, 24, 23, 21, 20, 18, 19, 22, 17, 15, 14, 12, 13, 16, 11, 10, 9, 8, 7, 5, 6, 4, 3, 2, 0, 1]] [10240, 10256, 10272, 10288, 10304, 10320, 10336, 10352, 10368, 10384, 10400, 10416, 10432, 10448, 10464, 10480, 10496, 10512, 10528, 10544, 10560, 10576, 10592, 10608, 10624, 10640, 10656])
     (.cond (.t 52)
      (.seq
      (.reg [⟨(some 4), none, (.mv (.c (.bool false)))⟩] [])
      .ret)
      .skip)))
    (.reg [⟨(some 24), none, (.mv (.t 8))⟩,
      ⟨(some 25), none, (.bin .add (.t 24) (.c (.int .i64 1)))⟩,
      ⟨(some 8), none, (.mv (.t 25))⟩] [24, 25]))))))
  (.seq
  (.reg [⟨(some 53), none, (.call 18 [])⟩,
    ⟨(some 4), none, (.mv (.t 53))⟩] [53])
  .ret)))))))
theorem rcq4 : resC Go.Proofs.Try.prog Go.Proofs.Try.f4.ntmps ((Go.Proofs.Try.f4.body).getD .skip) = some (strip rc4) := by kernel_rfl
def rv4 : List RV := [(.tmp 4)]
theorem rvq4 : Go.Proofs.Try.f4.results.toList.mapM (resRV Go.Proofs.Try.prog) = some rv4 := by kernel_rfl

theorem drawnF_in (L : List Int) (I : Nat) (hI : I ≤ L.length) : (drawnF L I).1.length ≤ 4 ∧ (drawnF L I).2 ≤ L.length := by
  obtain ⟨b1, b2⟩ := streamsF_in L I hI
  unfold drawnF
  cases decide (0 < ((streamsF L I).1.length : Int)) <;> cases (nxV L (streamsF L I).2 6 == 0) <;> simp only [cond_true, cond_false, List.length_set]
  · exact ⟨b1, b2⟩
  · exact ⟨b1, b2⟩
  · exact ⟨b1, nxI_in L _ b2⟩
  · exact ⟨b1, nxI_in L _ (nxI_in L _ (nxI_in L _ (nxI_in L _ b2)))⟩
theorem genP_len (step n : Int) : ∀ (f : Nat) (fr to p : Int) (out r : List Int), genP step n f fr to p out = some r → r.length ≤ out.length + f
  | 0, _, _, _, _, _, h => by simp [genP] at h
  | f + 1, fr, to, p, out, r, h => by
    simp only [genP] at h
    cases h1 : decide (p < to) with
    | true =>
      rw [h1] at h
      simp only [cond_true] at h
      cases h2 : (decide (n ≤ (out.length : Int)) || decide (p < 0)) || decide (255 < p) with
      | true => rw [h2] at h; obtain rfl := Option.some.inj h; omega
      | false =>
        rw [h2] at h
        have := genP_len step n f _ _ _ _ _ h
        simp at this
        omega
    | false =>
      rw [h1] at h
      have := genP_len step n f _ _ _ _ _ h
      omega
theorem predictF_len (s : Stm) (n : Int) : (predictF s n).length ≤ 5000 := by
  unfold predictF
  cases (!rightF s || s.kind == 1) with
  | true => simp
  | false =>
    simp only [cond_false]
    cases h : genP (preStep s) n 5000 (preFrom s) (preTo s) (preTo s) [] with
    | none => simp
    | some r => simpa using genP_len _ _ _ _ _ _ _ _ h
set_option maxRecDepth 20000 in
theorem ok3 (L : List Int) (hL : (L.length : Int) < 2 ^ 62) : FnC Try.prog 3 [] [.lst 1 false (rowsI L)] (.bool true) [] := by
  refine fn_okC (ob0 := []) (rc := rc3) (rvs := rv3) Try.func3 rfl rcq3 rvq3 (show 1 ≤ _ by decide) ?_
  obtain ⟨b1, b2⟩ := drawnF_in L 0 (by omega)
  repeat ((conv => whnf); first | refine Cd.seq ?_ | refine Cd.reg ?_ | refine Cd.block ?_ | refine Cd.cond ?_ | refine Cd.dreg ?_ | refine Cd.skip ?_ | refine Cd.ret ?_ | refine Cd.exit ?_ | refine Cd.loop ?_ | refine ⟨rfl, ?_⟩ | refine ⟨Nat.le_of_ble_eq_true rfl, ?_⟩ | refine ⟨.inl rfl, ?_⟩ | refine .inr ⟨fun _ => ⟨[0], _, _, _, ok9 L _ hL (by omega), ⟨rfl, rfl, trivial⟩, rfl, rfl, rfl, rfl, ?_⟩, (by intro h; cases h)⟩ | refine .inr ⟨fun _ => ⟨[0], _, _, _, ok10 L _ _ hL (by omega) (by omega), ⟨rfl, rfl, trivial⟩, rfl, rfl, rfl, rfl, ?_⟩, (by intro h; cases h)⟩)
  conv => whnf
  refine .inr ⟨fun _ => ⟨[0], _, _, _, ok9 L 0 hL (by omega), ⟨rfl, rfl, trivial⟩, rfl, rfl, rfl, rfl, ?_⟩, (by intro h; cases h)⟩
  revert b1 b2
  generalize (drawnF L 0).1 = l
  generalize (drawnF L 0).2 = J
  intro b1 b2
  repeat ((conv => whnf); first | refine Cd.seq ?_ | refine Cd.reg ?_ | refine Cd.block ?_ | refine Cd.cond ?_ | refine Cd.dreg ?_ | refine Cd.skip ?_ | refine Cd.ret ?_ | refine Cd.exit ?_ | refine Cd.loop ?_ | refine ⟨rfl, ?_⟩ | refine ⟨Nat.le_of_ble_eq_true rfl, ?_⟩ | refine ⟨.inl rfl, ?_⟩ | refine .inr ⟨fun _ => ⟨[0], _, _, _, ok9 L _ hL (by omega), ⟨rfl, rfl, trivial⟩, rfl, rfl, rfl, rfl, ?_⟩, (by intro h; cases h)⟩ | refine .inr ⟨fun _ => ⟨[0], _, _, _, ok10 L _ _ hL (by omega) (by omega), ⟨rfl, rfl, trivial⟩, rfl, rfl, rfl, rfl, ?_⟩, (by intro h; cases h)⟩)
  conv => whnf
  generalize (accessF L l J).1.1 = a
  generalize (accessF L l J).1.2 = b
  generalize (accessF L l J).2 = M
  have hr := feedR_len l a b
  repeat ((conv => whnf); first | refine Cd.seq ?_ | refine Cd.reg ?_ | refine Cd.block ?_ | refine Cd.cond ?_ | refine Cd.dreg ?_ | refine Cd.skip ?_ | refine Cd.ret ?_ | refine Cd.exit ?_ | refine Cd.loop ?_ | refine ⟨rfl, ?_⟩ | refine ⟨Nat.le_of_ble_eq_true rfl, ?_⟩ | refine ⟨.inl rfl, ?_⟩ | refine .inl ⟨_, fun _ => ⟨purA rfl, (by first | exact ok11 l false a b (by omega))⟩, .inl rfl, ?_⟩ | refine .inr ⟨fun _ => ⟨[0], _, _, _, ok9 L _ hL (by omega), ⟨rfl, rfl, trivial⟩, rfl, rfl, rfl, rfl, ?_⟩, (by intro h; cases h)⟩ | refine .inr ⟨fun _ => ⟨[0], _, _, _, ok10 L _ _ hL (by omega) (by omega), ⟨rfl, rfl, trivial⟩, rfl, rfl, rfl, rfl, ?_⟩, (by intro h; cases h)⟩)
  conv => whnf
  rw [feedP_eq]
  repeat ((conv => whnf); first | refine Cd.seq ?_ | refine Cd.reg ?_ | refine Cd.block ?_ | refine Cd.cond ?_ | refine Cd.dreg ?_ | refine Cd.skip ?_ | refine Cd.ret ?_ | refine Cd.exit ?_ | refine Cd.loop ?_ | refine ⟨rfl, ?_⟩ | refine ⟨Nat.le_of_ble_eq_true rfl, ?_⟩ | refine ⟨.inl rfl, ?_⟩ | refine .inl ⟨_, fun _ => ⟨purA rfl, (by first | exact ok12 l false a b (by omega))⟩, .inl rfl, ?_⟩ | refine .inr ⟨fun _ => ⟨[0], _, _, _, ok9 L _ hL (by omega), ⟨rfl, rfl, trivial⟩, rfl, rfl, rfl, rfl, ?_⟩, (by intro h; cases h)⟩ | refine .inr ⟨fun _ => ⟨[0], _, _, _, ok10 L _ _ hL (by omega) (by omega), ⟨rfl, rfl, trivial⟩, rfl, rfl, rfl, rfl, ?_⟩, (by intro h; cases h)⟩)
  conv => whnf
  generalize feedR l a b = r at hr ⊢
  repeat ((conv => whnf); first | refine Cd.seq ?_ | refine Cd.reg ?_ | refine Cd.block ?_ | refine Cd.cond ?_ | refine Cd.dreg ?_ | refine Cd.skip ?_ | refine Cd.ret ?_ | refine Cd.exit ?_ | refine Cd.loop ?_ | refine ⟨rfl, ?_⟩ | refine ⟨Nat.le_of_ble_eq_true rfl, ?_⟩ | refine ⟨.inl rfl, ?_⟩ | refine .inl ⟨_, fun _ => ⟨purA rfl, (by first | exact ok13 r.1 r.1 false false (by omega) | exact ok14 l false (by omega) | exact ok15 l false (by omega))⟩, .inl rfl, ?_⟩ | refine .inr ⟨fun _ => ⟨[0], _, _, _, ok9 L _ hL (by omega), ⟨rfl, rfl, trivial⟩, rfl, rfl, rfl, rfl, ?_⟩, (by intro h; cases h)⟩ | refine .inr ⟨fun _ => ⟨[0], _, _, _, ok10 L _ _ hL (by omega) (by omega), ⟨rfl, rfl, trivial⟩, rfl, rfl, rfl, rfl, ?_⟩, (by intro h; cases h)⟩)
  conv => whnf
  refine ⟨fun h1 => ?_, fun h1 => ?_⟩ <;> try simp only [Bool.cond_true_left, Bool.cond_false_right, Bool.not_eq_true', Bool.not_eq_false', Bool.not_not] at h1
  · simp at h1
  clear h1
  repeat ((conv => whnf); first | refine Cd.seq ?_ | refine Cd.reg ?_ | refine Cd.block ?_ | refine Cd.cond ?_ | refine Cd.dreg ?_ | refine Cd.skip ?_ | refine Cd.ret ?_ | refine Cd.exit ?_ | refine Cd.loop ?_ | refine ⟨rfl, ?_⟩ | refine ⟨Nat.le_of_ble_eq_true rfl, ?_⟩ | refine ⟨.inl rfl, ?_⟩ | refine .inr ⟨fun _ => ⟨[0], _, _, _, ok9 L _ hL (by omega), ⟨rfl, rfl, trivial⟩, rfl, rfl, rfl, rfl, ?_⟩, (by intro h; cases h)⟩ | refine .inr ⟨fun _ => ⟨[0], _, _, _, ok10 L _ _ hL (by omega) (by omega), ⟨rfl, rfl, trivial⟩, rfl, rfl, rfl, rfl, ?_⟩, (by intro h; cases h)⟩)
  conv => whnf
  refine ⟨Nat, fun i => i ≤ l.length, fun i => ⟨[(2, ⟨[], true, .bool false⟩), (4, ⟨[], true, .lst 6 false (rowsS l)⟩), (5, ⟨[], true, .int .i64 a⟩), (6, ⟨[], true, .int .i64 b⟩), (13, ⟨[], true, .int .i64 i⟩)], [], 0⟩, fun i => l.length - i, ⟨0, by omega, ?_⟩, fun i hI => ?_⟩
  · refine viewI [] rfl rfl ?_ rfl ?_ rfl ?_
    repeat' (first | exact trivial | rfl | exact .inl rfl | exact .inr rfl | exact id | exact (fun h => Bool.noConfusion h) | refine And.intro ?_ ?_)
  have hI : i ≤ l.length := hI
  repeat ((conv => whnf); first | refine Cd.seq ?_ | refine Cd.reg ?_ | refine Cd.block ?_ | refine Cd.cond ?_ | refine Cd.dreg ?_ | refine Cd.skip ?_ | refine Cd.ret ?_ | refine Cd.exit ?_ | refine Cd.loop ?_ | refine ⟨rfl, ?_⟩ | refine ⟨Nat.le_of_ble_eq_true rfl, ?_⟩ | refine ⟨.inl rfl, ?_⟩ | refine .inr ⟨fun _ => ⟨[0], _, _, _, ok9 L _ hL (by omega), ⟨rfl, rfl, trivial⟩, rfl, rfl, rfl, rfl, ?_⟩, (by intro h; cases h)⟩ | refine .inr ⟨fun _ => ⟨[0], _, _, _, ok10 L _ _ hL (by omega) (by omega), ⟨rfl, rfl, trivial⟩, rfl, rfl, rfl, rfl, ?_⟩, (by intro h; cases h)⟩)
  conv => whnf
  rw [rowsS_len]
  refine ⟨fun h2 => ?_, fun h2 => ?_⟩ <;> try simp only [Bool.cond_true_left, Bool.cond_false_right, Bool.not_eq_true', Bool.not_eq_false', Bool.not_not] at h2
  · have h2 : i < l.length := by simp at h2; omega
    have hw : IntKind.i64.wrap ((i : Int) + 1) = ((i + 1 : Nat) : Int) := by rw [wrapI (by omega) (by omega)]; omega
    repeat ((conv => whnf); first | refine Cd.seq ?_ | refine Cd.reg ?_ | refine Cd.block ?_ | refine Cd.cond ?_ | refine Cd.dreg ?_ | refine Cd.skip ?_ | refine Cd.ret ?_ | refine Cd.exit ?_ | refine Cd.loop ?_ | refine ⟨rfl, ?_⟩ | refine ⟨Nat.le_of_ble_eq_true rfl, ?_⟩ | refine ⟨.inl rfl, ?_⟩ | refine .inr ⟨fun _ => ⟨[0], _, _, _, ok9 L _ hL (by omega), ⟨rfl, rfl, trivial⟩, rfl, rfl, rfl, rfl, ?_⟩, (by intro h; cases h)⟩ | refine .inr ⟨fun _ => ⟨[0], _, _, _, ok10 L _ _ hL (by omega) (by omega), ⟨rfl, rfl, trivial⟩, rfl, rfl, rfl, rfl, ?_⟩, (by intro h; cases h)⟩)
    conv => whnf
    refine ⟨fun _ => ⟨rfl, by simp, by rw [rowsS_len]; omega⟩, ?_⟩
    rw [rowsS_get' l _ i rfl h2]
    repeat ((conv => whnf); first | refine Cd.seq ?_ | refine Cd.reg ?_ | refine Cd.block ?_ | refine Cd.cond ?_ | refine Cd.dreg ?_ | refine Cd.skip ?_ | refine Cd.ret ?_ | refine Cd.exit ?_ | refine Cd.loop ?_ | refine ⟨rfl, ?_⟩ | refine ⟨Nat.le_of_ble_eq_true rfl, ?_⟩ | refine ⟨.inl rfl, ?_⟩ | refine .inl ⟨_, fun _ => ⟨purA rfl, (by first | exact ok16 l[i] a b)⟩, .inl rfl, ?_⟩ | refine .inr ⟨fun _ => ⟨[0], _, _, _, ok9 L _ hL (by omega), ⟨rfl, rfl, trivial⟩, rfl, rfl, rfl, rfl, ?_⟩, (by intro h; cases h)⟩ | refine .inr ⟨fun _ => ⟨[0], _, _, _, ok10 L _ _ hL (by omega) (by omega), ⟨rfl, rfl, trivial⟩, rfl, rfl, rfl, rfl, ?_⟩, (by intro h; cases h)⟩)
    conv => whnf
    refine ⟨fun _ => ⟨rfl, by simp, by rw [rowsS_len]; omega⟩, ?_⟩
    rw [rowsS_get' l _ i rfl h2]
    repeat ((conv => whnf); first | refine Cd.seq ?_ | refine Cd.reg ?_ | refine Cd.block ?_ | refine Cd.cond ?_ | refine Cd.dreg ?_ | refine Cd.skip ?_ | refine Cd.ret ?_ | refine Cd.exit ?_ | refine Cd.loop ?_ | refine ⟨rfl, ?_⟩ | refine ⟨Nat.le_of_ble_eq_true rfl, ?_⟩ | refine ⟨.inl rfl, ?_⟩ | refine .inl ⟨_, fun _ => ⟨purA rfl, (by first | exact ok17 l[i] a b)⟩, .inl rfl, ?_⟩ | refine .inr ⟨fun _ => ⟨[0], _, _, _, ok9 L _ hL (by omega), ⟨rfl, rfl, trivial⟩, rfl, rfl, rfl, rfl, ?_⟩, (by intro h; cases h)⟩ | refine .inr ⟨fun _ => ⟨[0], _, _, _, ok10 L _ _ hL (by omega) (by omega), ⟨rfl, rfl, trivial⟩, rfl, rfl, rfl, rfl, ?_⟩, (by intro h; cases h)⟩)
    conv => whnf
    refine ⟨fun h3 => ?_, fun h3 => ?_⟩ <;> try simp only [Bool.cond_true_left, Bool.cond_false_right, Bool.not_eq_true', Bool.not_eq_false', Bool.not_not] at h3
    · simp at h3
    repeat ((conv => whnf); first | refine Cd.seq ?_ | refine Cd.reg ?_ | refine Cd.block ?_ | refine Cd.cond ?_ | refine Cd.dreg ?_ | refine Cd.skip ?_ | refine Cd.ret ?_ | refine Cd.exit ?_ | refine Cd.loop ?_ | refine ⟨rfl, ?_⟩ | refine ⟨Nat.le_of_ble_eq_true rfl, ?_⟩ | refine ⟨.inl rfl, ?_⟩ | refine .inr ⟨fun _ => ⟨[0], _, _, _, ok9 L _ hL (by omega), ⟨rfl, rfl, trivial⟩, rfl, rfl, rfl, rfl, ?_⟩, (by intro h; cases h)⟩ | refine .inr ⟨fun _ => ⟨[0], _, _, _, ok10 L _ _ hL (by omega) (by omega), ⟨rfl, rfl, trivial⟩, rfl, rfl, rfl, rfl, ?_⟩, (by intro h; cases h)⟩)
    conv => whnf
    rw [hw]
    refine ⟨i + 1, by show i + 1 ≤ _; omega, ?_, by show l.length - (i + 1) < l.length - i; omega⟩
    refine viewI [] rfl rfl ?_ rfl ?_ rfl ?_
    repeat' (first | exact trivial | rfl | exact .inl rfl | exact .inr rfl | exact id | exact (fun h => Bool.noConfusion h) | refine And.intro ?_ ?_)
  repeat ((conv => whnf); first | refine Cd.seq ?_ | refine Cd.reg ?_ | refine Cd.block ?_ | refine Cd.cond ?_ | refine Cd.dreg ?_ | refine Cd.skip ?_ | refine Cd.ret ?_ | refine Cd.exit ?_ | refine Cd.loop ?_ | refine ⟨rfl, ?_⟩ | refine ⟨Nat.le_of_ble_eq_true rfl, ?_⟩ | refine ⟨.inl rfl, ?_⟩ | refine .inl ⟨_, fun _ => ⟨purA rfl, (by first | exact ok18)⟩, .inl rfl, ?_⟩ | refine .inr ⟨fun _ => ⟨[0], _, _, _, ok9 L _ hL (by omega), ⟨rfl, rfl, trivial⟩, rfl, rfl, rfl, rfl, ?_⟩, (by intro h; cases h)⟩ | refine .inr ⟨fun _ => ⟨[0], _, _, _, ok10 L _ _ hL (by omega) (by omega), ⟨rfl, rfl, trivial⟩, rfl, rfl, rfl, rfl, ?_⟩, (by intro h; cases h)⟩)
  conv => whnf
  refine ⟨[], ?_, rfl, trivial, rfl, ?_⟩
  · exact trivial
  try subst hk
  repeat' (first | exact trivial | rfl | exact .inl rfl | exact .inr rfl | exact id | exact (fun h => Bool.noConfusion h) | refine And.intro ?_ ?_)
set_option maxRecDepth 20000 in
theorem ok4 (L : List Int) (n : Int) (hL : (L.length : Int) < 2 ^ 62) : FnC Try.prog 4 [] [.lst 1 false (rowsI L), .int .i64 n] (.bool true) [] := by
  refine fn_okC (ob0 := []) (rc := rc4) (rvs := rv4) Try.func4 rfl rcq4 rvq4 (show 2 ≤ _ by decide) ?_
  obtain ⟨b1, b2⟩ := drawnF_in L 0 (by omega)
  repeat ((conv => whnf); first | refine Cd.seq ?_ | refine Cd.reg ?_ | refine Cd.block ?_ | refine Cd.cond ?_ | refine Cd.dreg ?_ | refine Cd.skip ?_ | refine Cd.ret ?_ | refine Cd.exit ?_ | refine Cd.loop ?_ | refine ⟨rfl, ?_⟩ | refine ⟨Nat.le_of_ble_eq_true rfl, ?_⟩ | refine ⟨.inl rfl, ?_⟩ | refine .inr ⟨fun _ => ⟨[0], _, _, _, ok9 L _ hL (by omega), ⟨rfl, rfl, trivial⟩, rfl, rfl, rfl, rfl, ?_⟩, (by intro h; cases h)⟩ | refine .inr ⟨fun _ => ⟨[0], _, _, _, ok10 L _ _ hL (by omega) (by omega), ⟨rfl, rfl, trivial⟩, rfl, rfl, rfl, rfl, ?_⟩, (by intro h; cases h)⟩)
  conv => whnf
  refine .inr ⟨fun _ => ⟨[0], _, _, _, ok9 L 0 hL (by omega), ⟨rfl, rfl, trivial⟩, rfl, rfl, rfl, rfl, ?_⟩, (by intro h; cases h)⟩
  revert b1 b2
  generalize (drawnF L 0).1 = l
  generalize (drawnF L 0).2 = J
  intro b1 b2
  have c14 : IntKind.u64.wrap 14 ≠ 0 := by decide
  have c40 : IntKind.u64.wrap 40 ≠ 0 := by decide
  repeat ((conv => whnf); first | refine Cd.seq ?_ | refine Cd.reg ?_ | refine Cd.block ?_ | refine Cd.cond ?_ | refine Cd.dreg ?_ | refine Cd.skip ?_ | refine Cd.ret ?_ | refine Cd.exit ?_ | refine Cd.loop ?_ | refine ⟨rfl, ?_⟩ | refine ⟨Nat.le_of_ble_eq_true rfl, ?_⟩ | refine ⟨.inl rfl, ?_⟩ | refine .inl ⟨_, fun _ => ⟨purA rfl, (by first | exact ok19 n 14 c14 | exact ok19 n 40 c40)⟩, .inl rfl, ?_⟩ | refine .inr ⟨fun _ => ⟨[0], _, _, _, ok9 L _ hL (by omega), ⟨rfl, rfl, trivial⟩, rfl, rfl, rfl, rfl, ?_⟩, (by intro h; cases h)⟩ | refine .inr ⟨fun _ => ⟨[0], _, _, _, ok10 L _ _ hL (by omega) (by omega), ⟨rfl, rfl, trivial⟩, rfl, rfl, rfl, rfl, ?_⟩, (by intro h; cases h)⟩)
  conv => whnf
  refine ⟨fun hb => ?_, fun hb => ?_⟩ <;> try simp only [Bool.cond_true_left, Bool.cond_false_right, Bool.not_eq_true', Bool.not_eq_false', Bool.not_not] at hb
  · repeat ((conv => whnf); first | refine Cd.seq ?_ | refine Cd.reg ?_ | refine Cd.block ?_ | refine Cd.cond ?_ | refine Cd.dreg ?_ | refine Cd.skip ?_ | refine Cd.ret ?_ | refine Cd.exit ?_ | refine Cd.loop ?_ | refine ⟨rfl, ?_⟩ | refine ⟨Nat.le_of_ble_eq_true rfl, ?_⟩ | refine ⟨.inl rfl, ?_⟩ | refine .inr ⟨fun _ => ⟨[0], _, _, _, ok9 L _ hL (by omega), ⟨rfl, rfl, trivial⟩, rfl, rfl, rfl, rfl, ?_⟩, (by intro h; cases h)⟩ | refine .inr ⟨fun _ => ⟨[0], _, _, _, ok10 L _ _ hL (by omega) (by omega), ⟨rfl, rfl, trivial⟩, rfl, rfl, rfl, rfl, ?_⟩, (by intro h; cases h)⟩)
    conv => whnf
    refine ⟨Nat, fun i => i ≤ l.length, fun i => ⟨[(4, ⟨[], true, .bool false⟩), (6, ⟨[], true, .lst 6 false (rowsS l)⟩), (7, ⟨[], true, .int .i64 4611686018427387904⟩), (8, ⟨[], true, .int .i64 i⟩)], [], 0⟩, fun i => l.length - i, ⟨0, by omega, ?_⟩, fun i hI => ?_⟩
    · refine viewI [] rfl rfl ?_ rfl ?_ rfl ?_
      repeat' (first | exact trivial | rfl | exact .inl rfl | exact .inr rfl | exact id | exact (fun h => Bool.noConfusion h) | refine And.intro ?_ ?_)
    have hI : i ≤ l.length := hI
    repeat ((conv => whnf); first | refine Cd.seq ?_ | refine Cd.reg ?_ | refine Cd.block ?_ | refine Cd.cond ?_ | refine Cd.dreg ?_ | refine Cd.skip ?_ | refine Cd.ret ?_ | refine Cd.exit ?_ | refine Cd.loop ?_ | refine ⟨rfl, ?_⟩ | refine ⟨Nat.le_of_ble_eq_true rfl, ?_⟩ | refine ⟨.inl rfl, ?_⟩ | refine .inr ⟨fun _ => ⟨[0], _, _, _, ok9 L _ hL (by omega), ⟨rfl, rfl, trivial⟩, rfl, rfl, rfl, rfl, ?_⟩, (by intro h; cases h)⟩ | refine .inr ⟨fun _ => ⟨[0], _, _, _, ok10 L _ _ hL (by omega) (by omega), ⟨rfl, rfl, trivial⟩, rfl, rfl, rfl, rfl, ?_⟩, (by intro h; cases h)⟩)
    conv => whnf
    rw [rowsS_len]
    refine ⟨fun h2 => ?_, fun h2 => ?_⟩ <;> try simp only [Bool.cond_true_left, Bool.cond_false_right, Bool.not_eq_true', Bool.not_eq_false', Bool.not_not] at h2
    · have h2 : i < l.length := by simp at h2; omega
      have hw : IntKind.i64.wrap ((i : Int) + 1) = ((i + 1 : Nat) : Int) := by rw [wrapI (by omega) (by omega)]; omega
      have hlen : ((predictF l[i] 4611686018427387904).length : Int) < 2 ^ 62 := by have := predictF_len l[i] 4611686018427387904; omega
      repeat ((conv => whnf); first | refine Cd.seq ?_ | refine Cd.reg ?_ | refine Cd.block ?_ | refine Cd.cond ?_ | refine Cd.dreg ?_ | refine Cd.skip ?_ | refine Cd.ret ?_ | refine Cd.exit ?_ | refine Cd.loop ?_ | refine ⟨rfl, ?_⟩ | refine ⟨Nat.le_of_ble_eq_true rfl, ?_⟩ | refine ⟨.inl rfl, ?_⟩ | refine .inr ⟨fun _ => ⟨[0], _, _, _, ok9 L _ hL (by omega), ⟨rfl, rfl, trivial⟩, rfl, rfl, rfl, rfl, ?_⟩, (by intro h; cases h)⟩ | refine .inr ⟨fun _ => ⟨[0], _, _, _, ok10 L _ _ hL (by omega) (by omega), ⟨rfl, rfl, trivial⟩, rfl, rfl, rfl, rfl, ?_⟩, (by intro h; cases h)⟩)
      conv => whnf
      refine ⟨fun _ => ⟨rfl, by simp, by rw [rowsS_len]; omega⟩, ?_⟩
      rw [rowsS_get' l _ i rfl h2]
      repeat ((conv => whnf); first | refine Cd.seq ?_ | refine Cd.reg ?_ | refine Cd.block ?_ | refine Cd.cond ?_ | refine Cd.dreg ?_ | refine Cd.skip ?_ | refine Cd.ret ?_ | refine Cd.exit ?_ | refine Cd.loop ?_ | refine ⟨rfl, ?_⟩ | refine ⟨Nat.le_of_ble_eq_true rfl, ?_⟩ | refine ⟨.inl rfl, ?_⟩ | refine .inl ⟨_, fun _ => ⟨purA rfl, (by first | exact ok20 l[i])⟩, .inl rfl, ?_⟩ | refine .inr ⟨fun _ => ⟨[0], _, _, _, ok9 L _ hL (by omega), ⟨rfl, rfl, trivial⟩, rfl, rfl, rfl, rfl, ?_⟩, (by intro h; cases h)⟩ | refine .inr ⟨fun _ => ⟨[0], _, _, _, ok10 L _ _ hL (by omega) (by omega), ⟨rfl, rfl, trivial⟩, rfl, rfl, rfl, rfl, ?_⟩, (by intro h; cases h)⟩)
      conv => whnf
      refine ⟨fun _ => ⟨rfl, by simp, by rw [rowsS_len]; omega⟩, ?_⟩
      rw [rowsS_get' l _ i rfl h2]
      repeat ((conv => whnf); first | refine Cd.seq ?_ | refine Cd.reg ?_ | refine Cd.block ?_ | refine Cd.cond ?_ | refine Cd.dreg ?_ | refine Cd.skip ?_ | refine Cd.ret ?_ | refine Cd.exit ?_ | refine Cd.loop ?_ | refine ⟨rfl, ?_⟩ | refine ⟨Nat.le_of_ble_eq_true rfl, ?_⟩ | refine ⟨.inl rfl, ?_⟩ | refine .inl ⟨_, fun _ => ⟨purA rfl, (by first | exact ok20 l[i] | exact ok21 l[i])⟩, .inl rfl, ?_⟩ | refine .inr ⟨fun _ => ⟨[0], _, _, _, ok9 L _ hL (by omega), ⟨rfl, rfl, trivial⟩, rfl, rfl, rfl, rfl, ?_⟩, (by intro h; cases h)⟩ | refine .inr ⟨fun _ => ⟨[0], _, _, _, ok10 L _ _ hL (by omega) (by omega), ⟨rfl, rfl, trivial⟩, rfl, rfl, rfl, rfl, ?_⟩, (by intro h; cases h)⟩)
      conv => whnf
      refine ⟨fun _ => ⟨rfl, by simp, by rw [rowsS_len]; omega⟩, ?_⟩
      rw [rowsS_get' l _ i rfl h2]
      repeat ((conv => whnf); first | refine Cd.seq ?_ | refine Cd.reg ?_ | refine Cd.block ?_ | refine Cd.cond ?_ | refine Cd.dreg ?_ | refine Cd.skip ?_ | refine Cd.ret ?_ | refine Cd.exit ?_ | refine Cd.loop ?_ | refine ⟨rfl, ?_⟩ | refine ⟨Nat.le_of_ble_eq_true rfl, ?_⟩ | refine ⟨.inl rfl, ?_⟩ | refine .inl ⟨_, fun _ => ⟨purA rfl, (by first | exact ok23 l[i] 4611686018427387904)⟩, .inl rfl, ?_⟩ | refine .inr ⟨fun _ => ⟨[0], _, _, _, ok9 L _ hL (by omega), ⟨rfl, rfl, trivial⟩, rfl, rfl, rfl, rfl, ?_⟩, (by intro h; cases h)⟩ | refine .inr ⟨fun _ => ⟨[0], _, _, _, ok10 L _ _ hL (by omega) (by omega), ⟨rfl, rfl, trivial⟩, rfl, rfl, rfl, rfl, ?_⟩, (by intro h; cases h)⟩)
      conv => whnf
      refine ⟨fun _ => ⟨rfl, by simp, by rw [rowsS_len]; omega⟩, ?_⟩
      rw [rowsS_get' l _ i rfl h2]
      repeat ((conv => whnf); first | refine Cd.seq ?_ | refine Cd.reg ?_ | refine Cd.block ?_ | refine Cd.cond ?_ | refine Cd.dreg ?_ | refine Cd.skip ?_ | refine Cd.ret ?_ | refine Cd.exit ?_ | refine Cd.loop ?_ | refine ⟨rfl, ?_⟩ | refine ⟨Nat.le_of_ble_eq_true rfl, ?_⟩ | refine ⟨.inl rfl, ?_⟩ | refine .inl ⟨_, fun _ => ⟨purA rfl, (by first | exact ok24 l[i] 4611686018427387904 | exact ok22 (predictF l[i] 4611686018427387904) (predictF l[i] 4611686018427387904) false false hlen)⟩, .inl rfl, ?_⟩ | refine .inr ⟨fun _ => ⟨[0], _, _, _, ok9 L _ hL (by omega), ⟨rfl, rfl, trivial⟩, rfl, rfl, rfl, rfl, ?_⟩, (by intro h; cases h)⟩ | refine .inr ⟨fun _ => ⟨[0], _, _, _, ok10 L _ _ hL (by omega) (by omega), ⟨rfl, rfl, trivial⟩, rfl, rfl, rfl, rfl, ?_⟩, (by intro h; cases h)⟩)
      conv => whnf
      refine ⟨fun h3 => ?_, fun h3 => ?_⟩ <;> try simp only [Bool.cond_true_left, Bool.cond_false_right, Bool.not_eq_true', Bool.not_eq_false', Bool.not_not] at h3
      · simp at h3
      repeat ((conv => whnf); first | refine Cd.seq ?_ | refine Cd.reg ?_ | refine Cd.block ?_ | refine Cd.cond ?_ | refine Cd.dreg ?_ | refine Cd.skip ?_ | refine Cd.ret ?_ | refine Cd.exit ?_ | refine Cd.loop ?_ | refine ⟨rfl, ?_⟩ | refine ⟨Nat.le_of_ble_eq_true rfl, ?_⟩ | refine ⟨.inl rfl, ?_⟩ | refine .inr ⟨fun _ => ⟨[0], _, _, _, ok9 L _ hL (by omega), ⟨rfl, rfl, trivial⟩, rfl, rfl, rfl, rfl, ?_⟩, (by intro h; cases h)⟩ | refine .inr ⟨fun _ => ⟨[0], _, _, _, ok10 L _ _ hL (by omega) (by omega), ⟨rfl, rfl, trivial⟩, rfl, rfl, rfl, rfl, ?_⟩, (by intro h; cases h)⟩)
      conv => whnf
      rw [hw]
      refine ⟨i + 1, by show i + 1 ≤ _; omega, ?_, by show l.length - (i + 1) < l.length - i; omega⟩
      refine viewI [] rfl rfl ?_ rfl ?_ rfl ?_
      repeat' (first | exact trivial | rfl | exact .inl rfl | exact .inr rfl | exact id | exact (fun h => Bool.noConfusion h) | refine And.intro ?_ ?_)
    repeat ((conv => whnf); first | refine Cd.seq ?_ | refine Cd.reg ?_ | refine Cd.block ?_ | refine Cd.cond ?_ | refine Cd.dreg ?_ | refine Cd.skip ?_ | refine Cd.ret ?_ | refine Cd.exit ?_ | refine Cd.loop ?_ | refine ⟨rfl, ?_⟩ | refine ⟨Nat.le_of_ble_eq_true rfl, ?_⟩ | refine ⟨.inl rfl, ?_⟩ | refine .inl ⟨_, fun _ => ⟨purA rfl, (by first | exact ok18)⟩, .inl rfl, ?_⟩ | refine .inr ⟨fun _ => ⟨[0], _, _, _, ok9 L _ hL (by omega), ⟨rfl, rfl, trivial⟩, rfl, rfl, rfl, rfl, ?_⟩, (by intro h; cases h)⟩ | refine .inr ⟨fun _ => ⟨[0], _, _, _, ok10 L _ _ hL (by omega) (by omega), ⟨rfl, rfl, trivial⟩, rfl, rfl, rfl, rfl, ?_⟩, (by intro h; cases h)⟩)
    conv => whnf
    refine ⟨[], ?_, rfl, trivial, rfl, ?_⟩
    · exact trivial
    try subst hk
    repeat' (first | exact trivial | rfl | exact .inl rfl | exact .inr rfl | exact id | exact (fun h => Bool.noConfusion h) | refine And.intro ?_ ?_)
  repeat ((conv => whnf); first | refine Cd.seq ?_ | refine Cd.reg ?_ | refine Cd.block ?_ | refine Cd.cond ?_ | refine Cd.dreg ?_ | refine Cd.skip ?_ | refine Cd.ret ?_ | refine Cd.exit ?_ | refine Cd.loop ?_ | refine ⟨rfl, ?_⟩ | refine ⟨Nat.le_of_ble_eq_true rfl, ?_⟩ | refine ⟨.inl rfl, ?_⟩ | refine .inr ⟨fun _ => ⟨[0], _, _, _, ok9 L _ hL (by omega), ⟨rfl, rfl, trivial⟩, rfl, rfl, rfl, rfl, ?_⟩, (by intro h; cases h)⟩ | refine .inr ⟨fun _ => ⟨[0], _, _, _, ok10 L _ _ hL (by omega) (by omega), ⟨rfl, rfl, trivial⟩, rfl, rfl, rfl, rfl, ?_⟩, (by intro h; cases h)⟩)
  conv => whnf
  refine ⟨Nat, fun i => i ≤ l.length, fun i => ⟨[(4, ⟨[], true, .bool false⟩), (6, ⟨[], true, .lst 6 false (rowsS l)⟩), (7, ⟨[], true, .int .i64 (IntKind.i64.wrap (cutF n 14 - 2))⟩), (8, ⟨[], true, .int .i64 i⟩)], [], 0⟩, fun i => l.length - i, ⟨0, by omega, ?_⟩, fun i hI => ?_⟩
  · refine viewI [] rfl rfl ?_ rfl ?_ rfl ?_
    repeat' (first | exact trivial | rfl | exact .inl rfl | exact .inr rfl | exact id | exact (fun h => Bool.noConfusion h) | refine And.intro ?_ ?_)
  have hI : i ≤ l.length := hI
  repeat ((conv => whnf); first | refine Cd.seq ?_ | refine Cd.reg ?_ | refine Cd.block ?_ | refine Cd.cond ?_ | refine Cd.dreg ?_ | refine Cd.skip ?_ | refine Cd.ret ?_ | refine Cd.exit ?_ | refine Cd.loop ?_ | refine ⟨rfl, ?_⟩ | refine ⟨Nat.le_of_ble_eq_true rfl, ?_⟩ | refine ⟨.inl rfl, ?_⟩ | refine .inr ⟨fun _ => ⟨[0], _, _, _, ok9 L _ hL (by omega), ⟨rfl, rfl, trivial⟩, rfl, rfl, rfl, rfl, ?_⟩, (by intro h; cases h)⟩ | refine .inr ⟨fun _ => ⟨[0], _, _, _, ok10 L _ _ hL (by omega) (by omega), ⟨rfl, rfl, trivial⟩, rfl, rfl, rfl, rfl, ?_⟩, (by intro h; cases h)⟩)
  conv => whnf
  rw [rowsS_len]
  refine ⟨fun h2 => ?_, fun h2 => ?_⟩ <;> try simp only [Bool.cond_true_left, Bool.cond_false_right, Bool.not_eq_true', Bool.not_eq_false', Bool.not_not] at h2
  · have h2 : i < l.length := by simp at h2; omega
    have hw : IntKind.i64.wrap ((i : Int) + 1) = ((i + 1 : Nat) : Int) := by rw [wrapI (by omega) (by omega)]; omega
    have hlen : ((predictF l[i] (IntKind.i64.wrap (cutF n 14 - 2))).length : Int) < 2 ^ 62 := by have := predictF_len l[i] (IntKind.i64.wrap (cutF n 14 - 2)); omega
    repeat ((conv => whnf); first | refine Cd.seq ?_ | refine Cd.reg ?_ | refine Cd.block ?_ | refine Cd.cond ?_ | refine Cd.dreg ?_ | refine Cd.skip ?_ | refine Cd.ret ?_ | refine Cd.exit ?_ | refine Cd.loop ?_ | refine ⟨rfl, ?_⟩ | refine ⟨Nat.le_of_ble_eq_true rfl, ?_⟩ | refine ⟨.inl rfl, ?_⟩ | refine .inr ⟨fun _ => ⟨[0], _, _, _, ok9 L _ hL (by omega), ⟨rfl, rfl, trivial⟩, rfl, rfl, rfl, rfl, ?_⟩, (by intro h; cases h)⟩ | refine .inr ⟨fun _ => ⟨[0], _, _, _, ok10 L _ _ hL (by omega) (by omega), ⟨rfl, rfl, trivial⟩, rfl, rfl, rfl, rfl, ?_⟩, (by intro h; cases h)⟩)
    conv => whnf
    refine ⟨fun _ => ⟨rfl, by simp, by rw [rowsS_len]; omega⟩, ?_⟩
    rw [rowsS_get' l _ i rfl h2]
    repeat ((conv => whnf); first | refine Cd.seq ?_ | refine Cd.reg ?_ | refine Cd.block ?_ | refine Cd.cond ?_ | refine Cd.dreg ?_ | refine Cd.skip ?_ | refine Cd.ret ?_ | refine Cd.exit ?_ | refine Cd.loop ?_ | refine ⟨rfl, ?_⟩ | refine ⟨Nat.le_of_ble_eq_true rfl, ?_⟩ | refine ⟨.inl rfl, ?_⟩ | refine .inl ⟨_, fun _ => ⟨purA rfl, (by first | exact ok20 l[i])⟩, .inl rfl, ?_⟩ | refine .inr ⟨fun _ => ⟨[0], _, _, _, ok9 L _ hL (by omega), ⟨rfl, rfl, trivial⟩, rfl, rfl, rfl, rfl, ?_⟩, (by intro h; cases h)⟩ | refine .inr ⟨fun _ => ⟨[0], _, _, _, ok10 L _ _ hL (by omega) (by omega), ⟨rfl, rfl, trivial⟩, rfl, rfl, rfl, rfl, ?_⟩, (by intro h; cases h)⟩)
    conv => whnf
    refine ⟨fun _ => ⟨rfl, by simp, by rw [rowsS_len]; omega⟩, ?_⟩
    rw [rowsS_get' l _ i rfl h2]
    repeat ((conv => whnf); first | refine Cd.seq ?_ | refine Cd.reg ?_ | refine Cd.block ?_ | refine Cd.cond ?_ | refine Cd.dreg ?_ | refine Cd.skip ?_ | refine Cd.ret ?_ | refine Cd.exit ?_ | refine Cd.loop ?_ | refine ⟨rfl, ?_⟩ | refine ⟨Nat.le_of_ble_eq_true rfl, ?_⟩ | refine ⟨.inl rfl, ?_⟩ | refine .inl ⟨_, fun _ => ⟨purA rfl, (by first | exact ok20 l[i] | exact ok21 l[i])⟩, .inl rfl, ?_⟩ | refine .inr ⟨fun _ => ⟨[0], _, _, _, ok9 L _ hL (by omega), ⟨rfl, rfl, trivial⟩, rfl, rfl, rfl, rfl, ?_⟩, (by intro h; cases h)⟩ | refine .inr ⟨fun _ => ⟨[0], _, _, _, ok10 L _ _ hL (by omega) (by omega), ⟨rfl, rfl, trivial⟩, rfl, rfl, rfl, rfl, ?_⟩, (by intro h; cases h)⟩)
    conv => whnf
    refine ⟨fun _ => ⟨rfl, by simp, by rw [rowsS_len]; omega⟩, ?_⟩
    rw [rowsS_get' l _ i rfl h2]
    repeat ((conv => whnf); first | refine Cd.seq ?_ | refine Cd.reg ?_ | refine Cd.block ?_ | refine Cd.cond ?_ | refine Cd.dreg ?_ | refine Cd.skip ?_ | refine Cd.ret ?_ | refine Cd.exit ?_ | refine Cd.loop ?_ | refine ⟨rfl, ?_⟩ | refine ⟨Nat.le_of_ble_eq_true rfl, ?_⟩ | refine ⟨.inl rfl, ?_⟩ | refine .inl ⟨_, fun _ => ⟨purA rfl, (by first | exact ok23 l[i] (IntKind.i64.wrap (cutF n 14 - 2)))⟩, .inl rfl, ?_⟩ | refine .inr ⟨fun _ => ⟨[0], _, _, _, ok9 L _ hL (by omega), ⟨rfl, rfl, trivial⟩, rfl, rfl, rfl, rfl, ?_⟩, (by intro h; cases h)⟩ | refine .inr ⟨fun _ => ⟨[0], _, _, _, ok10 L _ _ hL (by omega) (by omega), ⟨rfl, rfl, trivial⟩, rfl, rfl, rfl, rfl, ?_⟩, (by intro h; cases h)⟩)
    conv => whnf
    refine ⟨fun _ => ⟨rfl, by simp, by rw [rowsS_len]; omega⟩, ?_⟩
    rw [rowsS_get' l _ i rfl h2]
    repeat ((conv => whnf); first | refine Cd.seq ?_ | refine Cd.reg ?_ | refine Cd.block ?_ | refine Cd.cond ?_ | refine Cd.dreg ?_ | refine Cd.skip ?_ | refine Cd.ret ?_ | refine Cd.exit ?_ | refine Cd.loop ?_ | refine ⟨rfl, ?_⟩ | refine ⟨Nat.le_of_ble_eq_true rfl, ?_⟩ | refine ⟨.inl rfl, ?_⟩ | refine .inl ⟨_, fun _ => ⟨purA rfl, (by first | exact ok24 l[i] (IntKind.i64.wrap (cutF n 14 - 2)) | exact ok22 (predictF l[i] (IntKind.i64.wrap (cutF n 14 - 2))) (predictF l[i] (IntKind.i64.wrap (cutF n 14 - 2))) false false hlen)⟩, .inl rfl, ?_⟩ | refine .inr ⟨fun _ => ⟨[0], _, _, _, ok9 L _ hL (by omega), ⟨rfl, rfl, trivial⟩, rfl, rfl, rfl, rfl, ?_⟩, (by intro h; cases h)⟩ | refine .inr ⟨fun _ => ⟨[0], _, _, _, ok10 L _ _ hL (by omega) (by omega), ⟨rfl, rfl, trivial⟩, rfl, rfl, rfl, rfl, ?_⟩, (by intro h; cases h)⟩)
    conv => whnf
    refine ⟨fun h3 => ?_, fun h3 => ?_⟩ <;> try simp only [Bool.cond_true_left, Bool.cond_false_right, Bool.not_eq_true', Bool.not_eq_false', Bool.not_not] at h3
    · simp at h3
    repeat ((conv => whnf); first | refine Cd.seq ?_ | refine Cd.reg ?_ | refine Cd.block ?_ | refine Cd.cond ?_ | refine Cd.dreg ?_ | refine Cd.skip ?_ | refine Cd.ret ?_ | refine Cd.exit ?_ | refine Cd.loop ?_ | refine ⟨rfl, ?_⟩ | refine ⟨Nat.le_of_ble_eq_true rfl, ?_⟩ | refine ⟨.inl rfl, ?_⟩ | refine .inr ⟨fun _ => ⟨[0], _, _, _, ok9 L _ hL (by omega), ⟨rfl, rfl, trivial⟩, rfl, rfl, rfl, rfl, ?_⟩, (by intro h; cases h)⟩ | refine .inr ⟨fun _ => ⟨[0], _, _, _, ok10 L _ _ hL (by omega) (by omega), ⟨rfl, rfl, trivial⟩, rfl, rfl, rfl, rfl, ?_⟩, (by intro h; cases h)⟩)
    conv => whnf
    rw [hw]
    refine ⟨i + 1, by show i + 1 ≤ _; omega, ?_, by show l.length - (i + 1) < l.length - i; omega⟩
    refine viewI [] rfl rfl ?_ rfl ?_ rfl ?_
    repeat' (first | exact trivial | rfl | exact .inl rfl | exact .inr rfl | exact id | exact (fun h => Bool.noConfusion h) | refine And.intro ?_ ?_)
  repeat ((conv => whnf); first | refine Cd.seq ?_ | refine Cd.reg ?_ | refine Cd.block ?_ | refine Cd.cond ?_ | refine Cd.dreg ?_ | refine Cd.skip ?_ | refine Cd.ret ?_ | refine Cd.exit ?_ | refine Cd.loop ?_ | refine ⟨rfl, ?_⟩ | refine ⟨Nat.le_of_ble_eq_true rfl, ?_⟩ | refine ⟨.inl rfl, ?_⟩ | refine .inl ⟨_, fun _ => ⟨purA rfl, (by first | exact ok18)⟩, .inl rfl, ?_⟩ | refine .inr ⟨fun _ => ⟨[0], _, _, _, ok9 L _ hL (by omega), ⟨rfl, rfl, trivial⟩, rfl, rfl, rfl, rfl, ?_⟩, (by intro h; cases h)⟩ | refine .inr ⟨fun _ => ⟨[0], _, _, _, ok10 L _ _ hL (by omega) (by omega), ⟨rfl, rfl, trivial⟩, rfl, rfl, rfl, rfl, ?_⟩, (by intro h; cases h)⟩)
  conv => whnf
  refine ⟨[], ?_, rfl, trivial, rfl, ?_⟩
  · exact trivial
  try subst hk
  repeat' (first | exact trivial | rfl | exact .inl rfl | exact .inr rfl | exact id | exact (fun h => Bool.noConfusion h) | refine And.intro ?_ ?_)
end Go.Proofs.Yteelckbeekgfiaa
