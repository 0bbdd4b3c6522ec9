/- Stream: the law StreamAgain, as a contract. -/
import Derived.Test.YteelckbeekgfiaaW14
import Derived.Test.YteelckbeekgfiaaW16
import Derived.Test.YteelckbeekgfiaaW18
set_option linter.unusedSimpArgs false
set_option linter.unusedVariables false
namespace Go.Proofs.Yteelckbeekgfiaa
open Go Go.Sk Go.RowKit

/- pagecache/pagecachelaw06.StreamAgain -/
def rc8 : RC :=
  (.seq
  (.reg [⟨(some 2), none, (.mv (.c (.bool false)))⟩] [])
  (.seq
  (.reg [⟨(some 10), none, (.mv (.t 0))⟩,
    ⟨(some 11), none, (.build [(.lst 0 true []), (.int .i64 0)] [(0, (1, (.t 10)))])⟩,
    ⟨(some 12), none, (.box (.t 11))⟩,
    ⟨(some 3), none, (.mv (.t 12))⟩] [10, 11, 12])
  (.seq
  (.reg [⟨(some 13), none, (.mv (.t 3))⟩,
    ⟨(some 14), none, (.call 26 [(.t 13)])⟩,
    ⟨(some 4), none, (.mv (.t 14))⟩] [13, 14])
  (.seq
  (.seq
  (.reg [⟨(some 15), none, (.mv (.t 4))⟩,
    ⟨(some 16), none, (.len (.t 15))⟩,
    ⟨(some 17), none, (.bin .eql (.t 16) (.c (.int .i64 0)))⟩] [15, 16])
  (.cond (.t 17)
   (.seq
   (.reg [⟨(some 18), none, (.call 18 [])⟩,
     ⟨(some 2), none, (.mv (.t 18))⟩] [18])
   .ret)
   .skip))
  (.seq
  (.reg [⟨(some 19), none, (.mv (.t 3))⟩,
    ⟨(some 20), none, (.mv (.t 4))⟩,
    ⟨(some 21), none, (.len (.t 20))⟩,
    ⟨(some 22), none, (.call 25 [(.t 19), (.t 21)])⟩,
    ⟨(some 5), none, (.mv (.t 22))⟩] [19, 20, 21, 22])
  (.seq
  (.dreg 7168 7488 [⟨(some 23), none, (.mv (.t 4))⟩,
    ⟨(some 24), none, (.mv (.t 5))⟩,
    ⟨(some 25), none, (.iaddr 6 (.t 23) (.t 24))⟩,
    ⟨(some 26), none, (.faddr 1 (.t 25))⟩,
    ⟨(some 27), none, (.ld false 1 (.t 26))⟩,
    ⟨(some 28), none, (.mv (.t 3))⟩,
    ⟨(some 29), none, (.mv (.t 4))⟩,
    ⟨(some 30), none, (.mv (.t 5))⟩,
    ⟨(some 31), none, (.iaddr 6 (.t 29) (.t 30))⟩,
    ⟨(some 32), none, (.faddr 2 (.t 31))⟩,
    ⟨(some 33), none, (.ld false 1 (.t 32))⟩,
    ⟨(some 34), none, (.mv (.t 4))⟩,
    ⟨(some 35), none, (.mv (.t 5))⟩,
    ⟨(some 36), none, (.iaddr 6 (.t 34) (.t 35))⟩,
    ⟨(some 37), none, (.faddr 1 (.t 36))⟩,
    ⟨(some 38), none, (.ld false 1 (.t 37))⟩,
    ⟨(some 39), none, (.bin .sub (.t 33) (.t 38))⟩,
    ⟨(some 40), none, (.call 25 [(.t 28), (.t 39)])⟩,
    ⟨(some 41), none, (.bin .add (.t 27) (.t 40))⟩,
    ⟨(some 6), none, (.mv (.t 41))⟩] [23, 24, 25, 26, 27, 28, 29, 30, 31, 32, 33, 34, 35, 36, 37, 38, 39, 40, 41] [[], [], [0, 1], [2, 0, 1], [3, 2, 0, 1], [], [], [], [6, 7], [8, 6, 7], [9, 8, 6, 7], [], [], [11, 12], [13, 11, 12], [14, 13, 11, 12], [10, 9, 8, 6, 7, 15, 14, 13, 11, 12], [5, 16, 10, 9, 8, 6, 7, 15, 14, 13, 11, 12], [4, 3, 2, 0, 1, 17, 5, 16, 10, 9, 8, 6, 7, 15, 14, 13, 11, 12], [18, 4, 3, 2, 0, 1, 17, 5, 16, 10, 9, 8, 6, 7, 15, 14, 13, 11, 12]] [7168, 7184, 7200, 7216, 7232, 7248, 7264, 7280, 7296, 7312, 7328, 7344, 7360, 7376, 7392, 7408, 7424, 7440, 7456, 7472])
  (.seq
  (.reg [⟨(some 42), none, (.mv (.t 6))⟩,
    ⟨(some 43), none, (.bin .add (.t 42) (.c (.int .i64 1)))⟩,
    ⟨(some 44), none, (.mv (.t 3))⟩,
    ⟨(some 45), none, (.mv (.t 4))⟩,
    ⟨(some 46), none, (.mv (.t 5))⟩,
    ⟨(some 47), none, (.iaddr 6 (.t 45) (.t 46))⟩,
    ⟨(some 48), none, (.faddr 2 (.t 47))⟩,
    ⟨(some 49), none, (.ld false 1 (.t 48))⟩,
    ⟨(some 50), none, (.mv (.t 6))⟩,
    ⟨(some 51), none, (.bin .sub (.t 49) (.t 50))⟩,
    ⟨(some 52), none, (.call 25 [(.t 44), (.t 51)])⟩,
    ⟨(some 53), none, (.bin .add (.t 43) (.t 52))⟩,
    ⟨(some 7), none, (.mv (.t 53))⟩] [42, 43, 44, 45, 46, 47, 48, 49, 50, 51, 52, 53])
  (.seq
  (.reg [⟨(some 55), none, (.mv (.t 4))⟩,
    ⟨(some 56), none, (.mv (.t 5))⟩,
    ⟨(some 57), none, (.iaddr 6 (.t 55) (.t 56))⟩,
    ⟨(some 58), none, (.ld true 6 (.t 57))⟩,
    ⟨(some 59), none, (.mv (.t 6))⟩,
    ⟨(some 60), none, (.mv (.t 7))⟩,
    ⟨(some 61), none, (.call 16 [(.t 58), (.t 59), (.t 60)])⟩,
    ⟨(some 54), none, (.mv (.t 61))⟩,
    ⟨(some 62), none, (.extr 0 (.t 54))⟩,
    ⟨(some 63), none, (.extr 1 (.t 54))⟩,
    ⟨(some 8), none, (.alloc [(.int .i64 0), (.int .i64 0), (.int .i64 0), (.int .i64 0), (.int .i64 0), (.int .i64 0)])⟩,
    ⟨none, none, (.st 6 (.t 8) (.t 62))⟩,
    ⟨(some 9), none, (.mv (.t 63))⟩] [55, 56, 57, 58, 59, 60, 61, 54, 62, 63])
  (.seq
  (.seq
  (.reg [⟨(some 64), none, (.mv (.t 9))⟩,
    ⟨(some 65), none, (.un .not (.t 64))⟩] [64])
  (.cond (.t 65)
   (.seq
   (.reg [⟨(some 2), none, (.mv (.c (.bool false)))⟩] [])
   .ret)
   .skip))
  (.seq
  (.seq
  (.dreg 12288 12848 [⟨(some 66), none, (.mv (.t 4))⟩,
    ⟨(some 67), none, (.mv (.t 5))⟩,
    ⟨(some 68), none, (.iaddr 6 (.t 66) (.t 67))⟩,
    ⟨(some 69), none, (.faddr 0 (.t 68))⟩,
    ⟨(some 70), none, (.ld false 1 (.t 69))⟩,
    ⟨(some 71), none, (.bin .eql (.t 70) (.c (.int .i64 2)))⟩,
    ⟨(some 72), none, (.mv (.t 71))⟩,
    ⟨(some 73), (some (72, true)), (.mv (.t 6))⟩,
    ⟨(some 74), (some (72, true)), (.mv (.t 4))⟩,
    ⟨(some 75), (some (72, true)), (.mv (.t 5))⟩,
    ⟨(some 76), (some (72, true)), (.iaddr 6 (.t 74) (.t 75))⟩,
    ⟨(some 77), (some (72, true)), (.faddr 2 (.t 76))⟩,
    ⟨(some 78), (some (72, true)), (.ld false 1 (.t 77))⟩,
    ⟨(some 79), (some (72, true)), (.bin .sub (.t 78) (.c (.int .i64 1)))⟩,
    ⟨(some 80), (some (72, true)), (.bin .eql (.t 73) (.t 79))⟩,
    ⟨(some 81), none, (.pick (.t 72) (.t 80) (.c (.bool false)))⟩,
    ⟨(some 82), none, (.mv (.t 81))⟩,
    ⟨(some 83), (some (82, true)), (.mv (.t 7))⟩,
    ⟨(some 84), (some (82, true)), (.mv (.t 4))⟩,
    ⟨(some 85), (some (82, true)), (.mv (.t 5))⟩,
    ⟨(some 86), (some (82, true)), (.iaddr 6 (.t 84) (.t 85))⟩,
    ⟨(some 87), (some (82, true)), (.faddr 2 (.t 86))⟩,
    ⟨(some 88), (some (82, true)), (.ld false 1 (.t 87))⟩,
    ⟨(some 89), (some (82, true)), (.bin .gtr (.t 83) (.t 88))⟩,
    ⟨(some 90), none, (.pick (.t 82) (.t 89) (.c (.bool false)))⟩,
    ⟨(some 91), none, (.mv (.t 90))⟩,
    ⟨(some 92), (some (91, false)), (.faddr 0 (.t 8))⟩,
    ⟨(some 93), (some (91, false)), (.ld false 1 (.t 92))⟩,
    ⟨(some 94), (some (91, false)), (.mv (.t 4))⟩,
    ⟨(some 95), (some (91, false)), (.mv (.t 5))⟩,
    ⟨(some 96), (some (91, false)), (.iaddr 6 (.t 94) (.t 95))⟩,
    ⟨(some 97), (some (91, false)), (.faddr 0 (.t 96))⟩,
    ⟨(some 98), (some (91, false)), (.ld false 1 (.t 97))⟩,
    ⟨(some 99), (some (91, false)), (.bin .neq (.t 93) (.t 98))⟩,
    ⟨(some 100), none, (.pick (.t 91) (.c (.bool true)) (.t 99))⟩] [66, 67, 68, 69, 70, 71, 72, 73, 74, 75, 76, 77, 78, 79, 80, 81, 82, 83, 84, 85, 86, 87, 88, 89, 90, 91, 92, 93, 94, 95, 96, 97, 98, 99] [[], [], [0, 1], [2, 0, 1], [3, 2, 0, 1], [4, 3, 2, 0, 1], [5, 4, 3, 2, 0, 1], [6, 5, 4, 3, 2, 0, 1], [6, 5, 4, 3, 2, 0, 1], [6, 5, 4, 3, 2, 0, 1], [8, 9, 6, 5, 4, 3, 2, 0, 1], [10, 8, 9, 6, 5, 4, 3, 2, 0, 1], [11, 10, 8, 9, 6, 5, 4, 3, 2, 0, 1], [12, 11, 10, 8, 9, 6, 5, 4, 3, 2, 0, 1], [7, 13, 12, 11, 10, 8, 9, 6, 5, 4, 3, 2, 0, 1], [14, 7, 13, 12, 11, 10, 8, 9, 6, 5, 4, 3, 2, 0, 1], [15, 14, 7, 13, 12, 11, 10, 8, 9, 6, 5, 4, 3, 2, 0, 1], [16, 15, 14, 7, 13, 12, 11, 10, 8, 9, 6, 5, 4, 3, 2, 0, 1], [16, 15, 14, 7, 13, 12, 11, 10, 8, 9, 6, 5, 4, 3, 2, 0, 1], [16, 15, 14, 7, 13, 12, 11, 10, 8, 9, 6, 5, 4, 3, 2, 0, 1], [18, 19, 16, 15, 14, 7, 13, 12, 11, 10, 8, 9, 6, 5, 4, 3, 2, 0, 1], [20, 18, 19, 16, 15, 14, 7, 13, 12, 11, 10, 8, 9, 6, 5, 4, 3, 2, 0, 1], [21, 20, 18, 19, 16, 15, 14, 7, 13, 12, 11, 10, 8, 9, 6, 5, 4, 3, 2, 0, 1], [17, 22, 21, 20, 18, 19, 16, 15, 14, 7, 13, 12, 11, 10, 8, 9, 6, 5, 4, 3, 2, 0, 1], [23, 17, 22, 21, 20, 18, 19, 16, 15, 14, 7, 13, 12, 11, 10, 8, 9, 6, 5, 4, 3, 2, 0, 1], [24, 23, 17, 22, 21, 20, 18, 19, 16, 15, 14, 7, 13, 12, 11, 10, 8, 9, 6, 5, 4, 3, 2, 0, 1], [25, 24, 23, 17, 22, 21, 20, 18, 19, 16, 15, 14, 7, 13, 12, 11, 10, 8, 9, 6, 5, 4, 3, 2, 0, 1], [26, 25, 24, 23, 17, 22, 21, 20, 18, 19, 16, 15, 14, 7, 13, 12, 11, 10, 8, 9, 6, 5, 4, 3, 2, 0, 1], [25, 24, 23, 17, 22, 21, 20, 18, 19, 16, 15, 14, 7, 13, 12, 11, 10, 8, 9, 6, 5, 4, 3, 2, 0, 1], [25, 24, 23, 17, 22, 21, 20, 18, 19, 16, 15, 14, 7, 13, 12, 11, 10, 8, 9, 6, 5, 4, 3, 2, 0, 1], [28, 29, 25, 24, 23, 17, 22, 21, 20, 18, 19, 16, 15, 14, 7, 13, 12, 11, 10, 8, 9, 6, 5, 4, 3, 2, 0, 1], [30, 28, 29, 25, 24, 23, 17, 22, 21, 20, 18, 19, 16, 15, 14, 7, 13, 12, 11, 10, 8, 9, 6, 5, 4, 3, 2, 0, 1], [31, 30, 28, 29, 25, 24, 23, 17, 22, 21, 20, 18, 19, 16, 15, 14, 7, 13, 12, 11, 10, 8, 9, 6, 5, 4, 3, 2, 0, 1], [27, 26, 32, 31, 30, 28, 29, 25, 24, 23, 17, 22, 21, 20, 18, 19, 16, 15, 14, 7, 13, 12, 11, 10, 8, 9, 6, 5, 4, 3, 2, 0, 1], [33, 27, 26, 32, 31, 30, 28, 29, 25, 24, 23, 17, 22, 21, 20, 18, 19, 16, 15, 14, 7, 13, 12, 11, 10, 8, 9, 6, 5, 4, 3, 2, 0, 1]] [12288, 12304, 12320, 12336, 12352, 12368, 12384, 12400, 12416, 12432, 12448, 12464, 12480, 12496, 12512, 12528, 12544, 12560, 12576, 12592, 12608, 12624, 12640, 12656, 12672, 12688, 12704, 12720, 12736, 12752, 12768, 12784, 12800, 12816, 12832])
  (.cond (.t 100)
   (.seq
   (.reg [⟨(some 2), none, (.mv (.c (.bool false)))⟩] [])
   .ret)
   .skip))
  (.seq
  (.dreg 14336 14496 [⟨(some 101), none, (.ld true 6 (.t 8))⟩,
    ⟨(some 102), none, (.mv (.t 4))⟩,
    ⟨(some 103), none, (.mv (.t 5))⟩,
    ⟨(some 104), none, (.iaddr 6 (.t 102) (.t 103))⟩,
    ⟨(some 105), none, (.ld true 6 (.t 104))⟩,
    ⟨(some 106), none, (.eqs false [(0, false), (1, false), (2, false), (3, false), (4, false), (5, false)] (.t 101) (.t 105))⟩,
    ⟨(some 107), none, (.mv (.t 106))⟩,
    ⟨(some 108), (some (107, true)), (.call 18 [])⟩,
    ⟨(some 109), none, (.pick (.t 107) (.t 108) (.c (.bool false)))⟩,
    ⟨(some 2), none, (.mv (.t 109))⟩] [101, 102, 103, 104, 105, 106, 107, 108, 109] [[], [], [], [1, 2], [3, 1, 2], [0, 4, 3, 1, 2], [5, 0, 4, 3, 1, 2], [6, 5, 0, 4, 3, 1, 2], [7, 6, 5, 0, 4, 3, 1, 2], [8, 7, 6, 5, 0, 4, 3, 1, 2]] [14336, 14352, 14368, 14384, 14400, 14416, 14432, 14448, 14464, 14480])
  .ret)))))))))))
theorem rcq8 : resC Go.Proofs.Try.prog Go.Proofs.Try.f8.ntmps ((Go.Proofs.Try.f8.body).getD .skip) = some (strip rc8) := by kernel_rfl
def rv8 : List RV := [(.tmp 2)]
theorem rvq8 : Go.Proofs.Try.f8.results.toList.mapM (resRV Go.Proofs.Try.prog) = some rv8 := by kernel_rfl

theorem matches_within (s : Stm) (a b : Int) (hr : rightF s = true) (h1 : s.start ≤ a) (h2 : a < b) (h3 : b ≤ s.stop) : matchesF s a b = (s, true) := by
  obtain ⟨⟨a1, a2, a3⟩, ⟨b1, b2⟩, e1, d1, d2, c1, c2⟩ := (rightF_iff s).1 hr
  have hv : validF a b = true := (validF_iff a b).2 ⟨by omega, h2, by omega⟩
  have k1 : kc1 s a b = false := by
    rw [Bool.eq_false_iff]; intro h
    have := (kc1_iff s a b (by omega)).1 h
    omega
  have k2 : kc2 s a b = false := by
    rw [Bool.eq_false_iff]; intro h
    have := (kc2_iff s a b (by omega)).1 h
    omega
  have k3 : kc3 s a = true := by
    cases h : kc3 s a with
    | true => rfl
    | false =>
      rcases (kc3_iff s a ⟨a1, a2, a3⟩ ⟨by omega, by omega⟩).1 h with ⟨q1, q2⟩ | ⟨q1, q2, q3⟩
      · obtain ⟨r1, r2⟩ := c1 q1
        rcases (strideF_iff _).1 r1 with r | r
        · omega
        · rw [sizeF_eq _ (by omega) (by omega)] at r2; omega
      · rw [sizeF_eq _ (by omega) (by omega)] at q3; omega
  simp only [matchesF, hr, hv, kindF, k1, k2, k3, Bool.not_true, Bool.or_self, cond_false, Bool.false_eq_true, if_false, if_true, Bool.not_false, cond_true, Bool.cond_false_right]
  simp [h1, h3]
theorem streamsF_check (L : List Int) (I : Nat) : checkF (streamsF L I).1 = true := by
  have key : ∀ (n : Nat) (l : List Stm) (J : Nat), checkF l = true → checkF (streamsLoop L n l J).1 = true := by
    intro n
    induction n with
    | zero => intro l J h; exact h
    | succ n ih => intro l J h; exact ih _ _ (feed_check _ _ _ h)
  exact key _ _ _ (by decide)
set_option maxRecDepth 20000 in
theorem ok8 (L : List Int) (hL : (L.length : Int) < 2 ^ 62) : FnC Try.prog 8 [] [.lst 1 false (rowsI L)] (.bool true) [] := by
  refine fn_okC (ob0 := []) (rc := rc8) (rvs := rv8) Try.func8 rfl rcq8 rvq8 (show 1 ≤ _ by decide) ?_
  obtain ⟨b1, b2⟩ := streamsF_in L 0 (by omega)
  have hc := streamsF_check L 0
  repeat ((conv => whnf); first | refine Cd.seq ?_ | refine Cd.reg ?_ | refine Cd.block ?_ | refine Cd.cond ?_ | refine Cd.dreg ?_ | refine Cd.skip ?_ | refine Cd.ret ?_ | refine Cd.exit ?_ | refine Cd.loop ?_ | refine ⟨rfl, ?_⟩ | refine ⟨Nat.le_of_ble_eq_true rfl, ?_⟩ | refine ⟨.inl rfl, ?_⟩ | refine .inr ⟨fun _ => ⟨[0], _, _, _, ok25n L _ _ hL (by omega) (by omega) (by omega), ⟨rfl, rfl, trivial⟩, rfl, rfl, rfl, rfl, ?_⟩, (by intro h; cases h)⟩)
  conv => whnf
  refine .inr ⟨fun _ => ⟨[0], _, _, _, ok26 L 0 hL (by omega), ⟨rfl, rfl, trivial⟩, rfl, rfl, rfl, rfl, ?_⟩, (by intro h; cases h)⟩
  revert b1 b2 hc
  generalize (streamsF L 0).1 = l
  generalize (streamsF L 0).2 = J
  intro b1 b2 hc
  repeat ((conv => whnf); first | refine Cd.seq ?_ | refine Cd.reg ?_ | refine Cd.block ?_ | refine Cd.cond ?_ | refine Cd.dreg ?_ | refine Cd.skip ?_ | refine Cd.ret ?_ | refine Cd.exit ?_ | refine Cd.loop ?_ | refine ⟨rfl, ?_⟩ | refine ⟨Nat.le_of_ble_eq_true rfl, ?_⟩ | refine ⟨.inl rfl, ?_⟩ | refine .inr ⟨fun _ => ⟨[0], _, _, _, ok25n L _ _ hL (by omega) (by omega) (by omega), ⟨rfl, rfl, trivial⟩, rfl, rfl, rfl, rfl, ?_⟩, (by intro h; cases h)⟩)
  conv => whnf
  rw [rowsS_len]
  refine ⟨fun h0 => ?_, fun h0 => ?_⟩ <;> try simp only [Bool.cond_true_left, Bool.cond_false_right, Bool.not_eq_true', Bool.not_eq_false', Bool.not_not] at h0
  · repeat ((conv => whnf); first | refine Cd.seq ?_ | refine Cd.reg ?_ | refine Cd.block ?_ | refine Cd.cond ?_ | refine Cd.dreg ?_ | refine Cd.skip ?_ | refine Cd.ret ?_ | refine Cd.exit ?_ | refine Cd.loop ?_ | refine ⟨rfl, ?_⟩ | refine ⟨Nat.le_of_ble_eq_true rfl, ?_⟩ | refine ⟨.inl rfl, ?_⟩ | refine .inl ⟨_, fun _ => ⟨purA rfl, (by first | exact ok18)⟩, .inl rfl, ?_⟩ | refine .inr ⟨fun _ => ⟨[0], _, _, _, ok25n L _ _ hL (by omega) (by omega) (by omega), ⟨rfl, rfl, trivial⟩, rfl, rfl, rfl, rfl, ?_⟩, (by intro h; cases h)⟩)
    conv => whnf
    refine ⟨[], ?_, rfl, trivial, rfl, ?_⟩
    · exact trivial
    try subst hk
    repeat' (first | exact trivial | rfl | exact .inl rfl | exact .inr rfl | exact id | exact (fun h => Bool.noConfusion h) | refine And.intro ?_ ?_)
  have h0 : 0 < l.length := by
    rcases Nat.eq_zero_or_pos l.length with h | h
    · rw [h] at h0; simp at h0
    · exact h
  have a1 := nxI_in L _ b2
  have a2 := nxI_in L _ a1
  have hi := nxV_in L J l.length (by omega) (by omega)
  repeat ((conv => whnf); first | refine Cd.seq ?_ | refine Cd.reg ?_ | refine Cd.block ?_ | refine Cd.cond ?_ | refine Cd.dreg ?_ | refine Cd.skip ?_ | refine Cd.ret ?_ | refine Cd.exit ?_ | refine Cd.loop ?_ | refine ⟨rfl, ?_⟩ | refine ⟨Nat.le_of_ble_eq_true rfl, ?_⟩ | refine ⟨.inl rfl, ?_⟩ | refine .inr ⟨fun _ => ⟨[0], _, _, _, ok25n L _ _ hL (by omega) (by omega) (by omega), ⟨rfl, rfl, trivial⟩, rfl, rfl, rfl, rfl, ?_⟩, (by intro h; cases h)⟩)
  conv => whnf
  rw [rowsS_len]
  repeat ((conv => whnf); first | refine Cd.seq ?_ | refine Cd.reg ?_ | refine Cd.block ?_ | refine Cd.cond ?_ | refine Cd.dreg ?_ | refine Cd.skip ?_ | refine Cd.ret ?_ | refine Cd.exit ?_ | refine Cd.loop ?_ | refine ⟨rfl, ?_⟩ | refine ⟨Nat.le_of_ble_eq_true rfl, ?_⟩ | refine ⟨.inl rfl, ?_⟩ | refine .inr ⟨fun _ => ⟨[0], _, _, _, ok25n L _ _ hL (by omega) (by omega) (by omega), ⟨rfl, rfl, trivial⟩, rfl, rfl, rfl, rfl, ?_⟩, (by intro h; cases h)⟩)
  conv => whnf
  generalize nxV L J l.length = i at hi ⊢
  have hr := right_of hc i.toNat (by omega)
  obtain ⟨s, hs⟩ : ∃ s, s = l.getD i.toNat zeroS := ⟨_, rfl⟩
  rw [← hs] at hr
  obtain ⟨⟨q1, q2, q3⟩, -⟩ := (rightF_iff s).1 hr
  have hw1 : IntKind.i64.wrap (s.stop - s.start) = s.stop - s.start := wrapI (by omega) (by omega)
  have hf := nxV_in L (nxI L J) (s.stop - s.start) (by omega) (by omega)
  have hB : (0 : Int) ≤ i ∧ i < ((rowsS l).length : Int) := by rw [rowsS_len]; exact hi
  have hG : (rowsS l).getD i.toNat [] = s.c := by rw [rowsS_getI l _ hi.1 hi.2, hs]
  refine ⟨fun _ => ⟨rfl, hB.1, hB.2⟩, ?_⟩
  rw [hG]
  repeat ((conv => whnf); first | refine Cd.seq ?_ | refine Cd.reg ?_ | refine Cd.block ?_ | refine Cd.cond ?_ | refine Cd.dreg ?_ | refine Cd.skip ?_ | refine Cd.ret ?_ | refine Cd.exit ?_ | refine Cd.loop ?_ | refine ⟨rfl, ?_⟩ | refine ⟨Nat.le_of_ble_eq_true rfl, ?_⟩ | refine ⟨.inl rfl, ?_⟩ | refine .inr ⟨fun _ => ⟨[0], _, _, _, ok25n L _ _ hL (by omega) (by omega) (by omega), ⟨rfl, rfl, trivial⟩, rfl, rfl, rfl, rfl, ?_⟩, (by intro h; cases h)⟩)
  conv => whnf
  refine ⟨fun _ => ⟨rfl, hB.1, hB.2⟩, ?_⟩
  rw [hG]
  repeat ((conv => whnf); first | refine Cd.seq ?_ | refine Cd.reg ?_ | refine Cd.block ?_ | refine Cd.cond ?_ | refine Cd.dreg ?_ | refine Cd.skip ?_ | refine Cd.ret ?_ | refine Cd.exit ?_ | refine Cd.loop ?_ | refine ⟨rfl, ?_⟩ | refine ⟨Nat.le_of_ble_eq_true rfl, ?_⟩ | refine ⟨.inl rfl, ?_⟩ | refine .inr ⟨fun _ => ⟨[0], _, _, _, ok25n L _ _ hL (by omega) (by omega) (by omega), ⟨rfl, rfl, trivial⟩, rfl, rfl, rfl, rfl, ?_⟩, (by intro h; cases h)⟩)
  conv => whnf
  refine ⟨fun _ => ⟨rfl, hB.1, hB.2⟩, ?_⟩
  rw [hG]
  repeat ((conv => whnf); first | refine Cd.seq ?_ | refine Cd.reg ?_ | refine Cd.block ?_ | refine Cd.cond ?_ | refine Cd.dreg ?_ | refine Cd.skip ?_ | refine Cd.ret ?_ | refine Cd.exit ?_ | refine Cd.loop ?_ | refine ⟨rfl, ?_⟩ | refine ⟨Nat.le_of_ble_eq_true rfl, ?_⟩ | refine ⟨.inl rfl, ?_⟩ | refine .inr ⟨fun _ => ⟨[0], _, _, _, ok25n L _ _ hL (by omega) (by omega) (by omega), ⟨rfl, rfl, trivial⟩, rfl, rfl, rfl, rfl, ?_⟩, (by intro h; cases h)⟩)
  conv => whnf
  rw [hw1]
  repeat ((conv => whnf); first | refine Cd.seq ?_ | refine Cd.reg ?_ | refine Cd.block ?_ | refine Cd.cond ?_ | refine Cd.dreg ?_ | refine Cd.skip ?_ | refine Cd.ret ?_ | refine Cd.exit ?_ | refine Cd.loop ?_ | refine ⟨rfl, ?_⟩ | refine ⟨Nat.le_of_ble_eq_true rfl, ?_⟩ | refine ⟨.inl rfl, ?_⟩ | refine .inr ⟨fun _ => ⟨[0], _, _, _, ok25n L _ _ hL (by omega) (by omega) (by omega), ⟨rfl, rfl, trivial⟩, rfl, rfl, rfl, rfl, ?_⟩, (by intro h; cases h)⟩)
  conv => whnf
  generalize nxV L (nxI L J) (s.stop - s.start) = u at hf ⊢
  have hw2 : IntKind.i64.wrap (s.start + u) = s.start + u := wrapI (by omega) (by omega)
  rw [hw2]
  obtain ⟨a, ha⟩ : ∃ a, a = s.start + u := ⟨_, rfl⟩
  rw [← ha]
  refine ⟨fun _ => ⟨rfl, hB.1, hB.2⟩, ?_⟩
  rw [hG]
  have hw3 : IntKind.i64.wrap (s.stop - a) = s.stop - a := wrapI (by omega) (by omega)
  have hw4 : IntKind.i64.wrap (a + 1) = a + 1 := wrapI (by omega) (by omega)
  have hg := nxV_in L (nxI L (nxI L J)) (s.stop - a) (by omega) (by omega)
  repeat ((conv => whnf); first | refine Cd.seq ?_ | refine Cd.reg ?_ | refine Cd.block ?_ | refine Cd.cond ?_ | refine Cd.dreg ?_ | refine Cd.skip ?_ | refine Cd.ret ?_ | refine Cd.exit ?_ | refine Cd.loop ?_ | refine ⟨rfl, ?_⟩ | refine ⟨Nat.le_of_ble_eq_true rfl, ?_⟩ | refine ⟨.inl rfl, ?_⟩ | refine .inr ⟨fun _ => ⟨[0], _, _, _, ok25n L _ _ hL (by omega) (by omega) (by omega), ⟨rfl, rfl, trivial⟩, rfl, rfl, rfl, rfl, ?_⟩, (by intro h; cases h)⟩)
  conv => whnf
  rw [hw3, hw4]
  repeat ((conv => whnf); first | refine Cd.seq ?_ | refine Cd.reg ?_ | refine Cd.block ?_ | refine Cd.cond ?_ | refine Cd.dreg ?_ | refine Cd.skip ?_ | refine Cd.ret ?_ | refine Cd.exit ?_ | refine Cd.loop ?_ | refine ⟨rfl, ?_⟩ | refine ⟨Nat.le_of_ble_eq_true rfl, ?_⟩ | refine ⟨.inl rfl, ?_⟩ | refine .inr ⟨fun _ => ⟨[0], _, _, _, ok25n L _ _ hL (by omega) (by omega) (by omega), ⟨rfl, rfl, trivial⟩, rfl, rfl, rfl, rfl, ?_⟩, (by intro h; cases h)⟩)
  conv => whnf
  generalize nxV L (nxI L (nxI L J)) (s.stop - a) = v at hg ⊢
  have hw5 : IntKind.i64.wrap (a + 1 + v) = a + 1 + v := wrapI (by omega) (by omega)
  rw [hw5]
  obtain ⟨b, hb⟩ : ∃ b, b = a + 1 + v := ⟨_, rfl⟩
  rw [← hb]
  have hm := matches_within s a b hr (by omega) (by omega) (by omega)
  refine ⟨fun _ => ⟨rfl, hB.1, hB.2⟩, ?_⟩
  rw [hG]
  repeat ((conv => whnf); first | refine Cd.seq ?_ | refine Cd.reg ?_ | refine Cd.block ?_ | refine Cd.cond ?_ | refine Cd.dreg ?_ | refine Cd.skip ?_ | refine Cd.ret ?_ | refine Cd.exit ?_ | refine Cd.loop ?_ | refine ⟨rfl, ?_⟩ | refine ⟨Nat.le_of_ble_eq_true rfl, ?_⟩ | refine ⟨.inl rfl, ?_⟩ | refine .inl ⟨_, fun _ => ⟨purA rfl, (by first | exact ok16 s a b)⟩, .inl rfl, ?_⟩ | refine .inr ⟨fun _ => ⟨[0], _, _, _, ok25n L _ _ hL (by omega) (by omega) (by omega), ⟨rfl, rfl, trivial⟩, rfl, rfl, rfl, rfl, ?_⟩, (by intro h; cases h)⟩)
  conv => whnf
  rw [hm]
  refine ⟨fun h1 => ?_, fun h1 => ?_⟩ <;> try simp only [Bool.cond_true_left, Bool.cond_false_right, Bool.not_eq_true', Bool.not_eq_false', Bool.not_not] at h1
  · simp at h1
  repeat ((conv => whnf); first | refine Cd.seq ?_ | refine Cd.reg ?_ | refine Cd.block ?_ | refine Cd.cond ?_ | refine Cd.dreg ?_ | refine Cd.skip ?_ | refine Cd.ret ?_ | refine Cd.exit ?_ | refine Cd.loop ?_ | refine ⟨rfl, ?_⟩ | refine ⟨Nat.le_of_ble_eq_true rfl, ?_⟩ | refine ⟨.inl rfl, ?_⟩ | refine .inr ⟨fun _ => ⟨[0], _, _, _, ok25n L _ _ hL (by omega) (by omega) (by omega), ⟨rfl, rfl, trivial⟩, rfl, rfl, rfl, rfl, ?_⟩, (by intro h; cases h)⟩)
  conv => whnf
  refine ⟨fun _ => ⟨rfl, hB.1, hB.2⟩, ?_⟩
  rw [hG]
  repeat ((conv => whnf); first | refine Cd.seq ?_ | refine Cd.reg ?_ | refine Cd.block ?_ | refine Cd.cond ?_ | refine Cd.dreg ?_ | refine Cd.skip ?_ | refine Cd.ret ?_ | refine Cd.exit ?_ | refine Cd.loop ?_ | refine ⟨rfl, ?_⟩ | refine ⟨Nat.le_of_ble_eq_true rfl, ?_⟩ | refine ⟨.inl rfl, ?_⟩ | refine .inr ⟨fun _ => ⟨[0], _, _, _, ok25n L _ _ hL (by omega) (by omega) (by omega), ⟨rfl, rfl, trivial⟩, rfl, rfl, rfl, rfl, ?_⟩, (by intro h; cases h)⟩)
  conv => whnf
  refine ⟨fun _ => ⟨rfl, hB.1, hB.2⟩, ?_⟩
  rw [hG]
  repeat ((conv => whnf); first | refine Cd.seq ?_ | refine Cd.reg ?_ | refine Cd.block ?_ | refine Cd.cond ?_ | refine Cd.dreg ?_ | refine Cd.skip ?_ | refine Cd.ret ?_ | refine Cd.exit ?_ | refine Cd.loop ?_ | refine ⟨rfl, ?_⟩ | refine ⟨Nat.le_of_ble_eq_true rfl, ?_⟩ | refine ⟨.inl rfl, ?_⟩ | refine .inr ⟨fun _ => ⟨[0], _, _, _, ok25n L _ _ hL (by omega) (by omega) (by omega), ⟨rfl, rfl, trivial⟩, rfl, rfl, rfl, rfl, ?_⟩, (by intro h; cases h)⟩)
  conv => whnf
  refine ⟨fun _ => ⟨rfl, hB.1, hB.2⟩, ?_⟩
  rw [hG]
  repeat ((conv => whnf); first | refine Cd.seq ?_ | refine Cd.reg ?_ | refine Cd.block ?_ | refine Cd.cond ?_ | refine Cd.dreg ?_ | refine Cd.skip ?_ | refine Cd.ret ?_ | refine Cd.exit ?_ | refine Cd.loop ?_ | refine ⟨rfl, ?_⟩ | refine ⟨Nat.le_of_ble_eq_true rfl, ?_⟩ | refine ⟨.inl rfl, ?_⟩ | refine .inr ⟨fun _ => ⟨[0], _, _, _, ok25n L _ _ hL (by omega) (by omega) (by omega), ⟨rfl, rfl, trivial⟩, rfl, rfl, rfl, rfl, ?_⟩, (by intro h; cases h)⟩)
  conv => whnf
  refine ⟨fun _ => ⟨rfl, hB.1, hB.2⟩, ?_⟩
  rw [hG]
  repeat ((conv => whnf); first | refine Cd.seq ?_ | refine Cd.reg ?_ | refine Cd.block ?_ | refine Cd.cond ?_ | refine Cd.dreg ?_ | refine Cd.skip ?_ | refine Cd.ret ?_ | refine Cd.exit ?_ | refine Cd.loop ?_ | refine ⟨rfl, ?_⟩ | refine ⟨Nat.le_of_ble_eq_true rfl, ?_⟩ | refine ⟨.inl rfl, ?_⟩ | refine .inr ⟨fun _ => ⟨[0], _, _, _, ok25n L _ _ hL (by omega) (by omega) (by omega), ⟨rfl, rfl, trivial⟩, rfl, rfl, rfl, rfl, ?_⟩, (by intro h; cases h)⟩)
  conv => whnf
  refine ⟨fun h2 => ?_, fun h2 => ?_⟩ <;> try simp only [Bool.cond_true_left, Bool.cond_false_right, Bool.not_eq_true', Bool.not_eq_false', Bool.not_not] at h2
  · simp at h2
    omega
  clear h2
  repeat ((conv => whnf); first | refine Cd.seq ?_ | refine Cd.reg ?_ | refine Cd.block ?_ | refine Cd.cond ?_ | refine Cd.dreg ?_ | refine Cd.skip ?_ | refine Cd.ret ?_ | refine Cd.exit ?_ | refine Cd.loop ?_ | refine ⟨rfl, ?_⟩ | refine ⟨Nat.le_of_ble_eq_true rfl, ?_⟩ | refine ⟨.inl rfl, ?_⟩ | refine .inr ⟨fun _ => ⟨[0], _, _, _, ok25n L _ _ hL (by omega) (by omega) (by omega), ⟨rfl, rfl, trivial⟩, rfl, rfl, rfl, rfl, ?_⟩, (by intro h; cases h)⟩)
  conv => whnf
  refine ⟨fun _ => ⟨rfl, hB.1, hB.2⟩, ?_⟩
  rw [hG]
  repeat ((conv => whnf); first | refine Cd.seq ?_ | refine Cd.reg ?_ | refine Cd.block ?_ | refine Cd.cond ?_ | refine Cd.dreg ?_ | refine Cd.skip ?_ | refine Cd.ret ?_ | refine Cd.exit ?_ | refine Cd.loop ?_ | refine ⟨rfl, ?_⟩ | refine ⟨Nat.le_of_ble_eq_true rfl, ?_⟩ | refine ⟨.inl rfl, ?_⟩ | refine .inl ⟨_, fun _ => ⟨purA rfl, (by first | exact ok18)⟩, .inl rfl, ?_⟩ | refine .inr ⟨fun _ => ⟨[0], _, _, _, ok25n L _ _ hL (by omega) (by omega) (by omega), ⟨rfl, rfl, trivial⟩, rfl, rfl, rfl, rfl, ?_⟩, (by intro h; cases h)⟩)
  conv => whnf
  have he : eqS s s = true := (eqS_iff s s).2 rfl
  refine ⟨[], ?_, rfl, trivial, rfl, ?_⟩
  · exact trivial
  try subst hk
  repeat' (first | exact trivial | rfl | exact .inl rfl | exact .inr rfl | exact id | exact (fun h => Bool.noConfusion h) | refine And.intro ?_ ?_)
  show (bif eqS s s then true else false) = true
  rw [he]; rfl
end Go.Proofs.Yteelckbeekgfiaa
