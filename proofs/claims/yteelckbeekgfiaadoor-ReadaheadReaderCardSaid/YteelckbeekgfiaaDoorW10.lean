/- Stream: the reference's Feed. -/
import Derived.Test.YteelckbeekgfiaaDoorW9
set_option linter.unusedSimpArgs false
set_option linter.unusedVariables false
namespace Go.Proofs.YteelckbeekgfiaaDoor
open Go Go.Sk Go.RowKit

/- pagecache/pagecacheref06.Feed -/
def rc24 : RC :=
  (.seq
  (.reg [⟨(some 6), none, (.mv (.c (.lst 0 true [])))⟩,
    ⟨(some 7), none, (.mv (.c (.int .i64 0)))⟩,
    ⟨(some 8), none, (.mv (.c (.int .i64 0)))⟩] [])
  (.seq
  (.seq
  (.reg [⟨(some 21), none, (.mv (.t 0))⟩,
    ⟨(some 22), none, (.call 38 [(.t 21)])⟩,
    ⟨(some 23), none, (.un .not (.t 22))⟩] [21, 22])
  (.cond (.t 23)
   (.seq
   (.reg [⟨(some 24), none, (.mv (.t 0))⟩,
     ⟨(some 6), none, (.mv (.t 24))⟩,
     ⟨(some 7), none, (.mv (.c (.int .i64 0)))⟩,
     ⟨(some 8), none, (.mv (.c (.int .i64 1)))⟩] [24])
   .ret)
   .skip))
  (.seq
  (.seq
  (.reg [⟨(some 25), none, (.mv (.t 1))⟩,
    ⟨(some 26), none, (.mv (.t 2))⟩,
    ⟨(some 27), none, (.call 30 [(.t 25), (.t 26)])⟩,
    ⟨(some 28), none, (.un .not (.t 27))⟩] [25, 26, 27])
  (.cond (.t 28)
   (.seq
   (.reg [⟨(some 29), none, (.mv (.t 0))⟩,
     ⟨(some 6), none, (.mv (.t 29))⟩,
     ⟨(some 7), none, (.mv (.c (.int .i64 0)))⟩,
     ⟨(some 8), none, (.mv (.c (.int .i64 2)))⟩] [29])
   .ret)
   .skip))
  (.seq
  (.reg [⟨(some 9), none, (.mv (.c (.int .i64 1)))⟩] [])
  (.seq
  (.seq
  (.reg [⟨(some 10), none, (.mv (.c (.int .i64 0)))⟩] [])
  (.block 0
   (.loop
    (.seq
    (.seq
    (.reg [⟨(some 30), none, (.mv (.t 10))⟩,
      ⟨(some 31), none, (.mv (.t 0))⟩,
      ⟨(some 32), none, (.len (.t 31))⟩,
      ⟨(some 33), none, (.bin .lss (.t 30) (.t 32))⟩] [30, 31, 32])
    (.cond (.t 33)
     .skip
     (.exit 0)))
    (.seq
    (.block 1
     (.reg [⟨(some 36), none, (.mv (.t 9))⟩,
       ⟨(some 37), none, (.mv (.t 0))⟩,
       ⟨(some 38), none, (.mv (.t 10))⟩,
       ⟨(some 39), none, (.iaddr 6 (.t 37) (.t 38))⟩,
       ⟨(some 40), none, (.faddr 5 (.t 39))⟩,
       ⟨(some 41), none, (.ld false 1 (.t 40))⟩,
       ⟨(some 42), none, (.bin .add (.t 41) (.c (.int .i64 1)))⟩,
       ⟨(some 43), none, (.mx (.t 36) (.t 42))⟩,
       ⟨(some 9), none, (.mv (.t 43))⟩] [36, 37, 38, 39, 40, 41, 42, 43]))
    (.reg [⟨(some 34), none, (.mv (.t 10))⟩,
      ⟨(some 35), none, (.bin .add (.t 34) (.c (.int .i64 1)))⟩,
      ⟨(some 10), none, (.mv (.t 35))⟩] [34, 35]))))))
  (.seq
  (.seq
  (.reg [⟨(some 44), none, (.mv (.t 9))⟩,
    ⟨(some 45), none, (.bin .gtr (.t 44) (.c (.int .i64 1000000)))⟩] [44])
  (.cond (.t 45)
   (.seq
   (.reg [⟨(some 46), none, (.mv (.t 0))⟩,
     ⟨(some 6), none, (.mv (.t 46))⟩,
     ⟨(some 7), none, (.mv (.c (.int .i64 0)))⟩,
     ⟨(some 8), none, (.mv (.c (.int .i64 3)))⟩] [46])
   .ret)
   .skip))
  (.seq
  (.reg [⟨(some 11), none, (.mv (.c (.int .i64 (-1))))⟩] [])
  (.seq
  (.seq
  (.reg [⟨(some 12), none, (.mv (.c (.int .i64 0)))⟩] [])
  (.block 2
   (.loop
    (.seq
    (.seq
    (.reg [⟨(some 47), none, (.mv (.t 12))⟩,
      ⟨(some 48), none, (.mv (.t 0))⟩,
      ⟨(some 49), none, (.len (.t 48))⟩,
      ⟨(some 50), none, (.bin .lss (.t 47) (.t 49))⟩] [47, 48, 49])
    (.cond (.t 50)
     .skip
     (.exit 2)))
    (.seq
    (.block 3
     (.seq
     (.reg [⟨(some 54), none, (.mv (.t 0))⟩,
       ⟨(some 55), none, (.mv (.t 12))⟩,
       ⟨(some 56), none, (.iaddr 6 (.t 54) (.t 55))⟩,
       ⟨(some 57), none, (.ld true 6 (.t 56))⟩,
       ⟨(some 58), none, (.mv (.t 1))⟩,
       ⟨(some 59), none, (.mv (.t 2))⟩,
       ⟨(some 60), none, (.call 39 [(.t 57), (.t 58), (.t 59)])⟩,
       ⟨(some 53), none, (.mv (.t 60))⟩,
       ⟨(some 61), none, (.extr 0 (.t 53))⟩,
       ⟨(some 62), none, (.extr 1 (.t 53))⟩,
       ⟨(some 13), none, (.alloc [(.int .i64 0), (.int .i64 0), (.int .i64 0), (.int .i64 0), (.int .i64 0), (.int .i64 0)])⟩,
       ⟨none, none, (.st 6 (.t 13) (.t 61))⟩,
       ⟨(some 14), none, (.mv (.t 62))⟩] [54, 55, 56, 57, 58, 59, 60, 53, 61, 62, 13])
     (.seq
     (.dreg 18432 18688 [⟨(some 63), none, (.mv (.t 14))⟩,
       ⟨(some 64), none, (.mv (.t 63))⟩,
       ⟨(some 65), (some (64, true)), (.mv (.t 11))⟩,
       ⟨(some 66), (some (64, true)), (.bin .lss (.t 65) (.c (.int .i64 0)))⟩,
       ⟨(some 67), (some (64, true)), (.mv (.t 66))⟩,
       ⟨(some 68), (some (67, false)), (.mv (.t 0))⟩,
       ⟨(some 69), (some (67, false)), (.mv (.t 12))⟩,
       ⟨(some 70), (some (67, false)), (.iaddr 6 (.t 68) (.t 69))⟩,
       ⟨(some 71), (some (67, false)), (.ld true 6 (.t 70))⟩,
       ⟨(some 72), (some (67, false)), (.mv (.t 0))⟩,
       ⟨(some 73), (some (67, false)), (.mv (.t 11))⟩,
       ⟨(some 74), (some (67, false)), (.iaddr 6 (.t 72) (.t 73))⟩,
       ⟨(some 75), (some (67, false)), (.ld true 6 (.t 74))⟩,
       ⟨(some 76), (some (67, false)), (.call 40 [(.t 71), (.t 75)])⟩,
       ⟨(some 77), (some (64, true)), (.pick (.t 67) (.c (.bool true)) (.t 76))⟩,
       ⟨(some 78), none, (.pick (.t 64) (.t 77) (.c (.bool false)))⟩] [63, 64, 65, 66, 67, 68, 69, 70, 71, 72, 73, 74, 75, 76, 77] [[], [0], [1, 0], [2, 1, 0], [3, 2, 1, 0], [4, 0, 1, 2, 3], [4, 0, 1, 2, 3], [5, 6, 4, 0, 1, 2, 3], [7, 6, 5, 4, 0, 1, 2, 3], [4, 0, 1, 2, 3], [4, 0, 1, 2, 3], [9, 10, 4, 0, 1, 2, 3], [11, 10, 9, 4, 0, 1, 2, 3], [8, 5, 6, 7, 12, 9, 10, 11, 4, 0, 1, 2, 3], [13, 3, 2, 4, 11, 10, 9, 12, 7, 6, 5, 8, 1, 0], [14, 0, 1, 8, 5, 6, 7, 12, 9, 10, 11, 4, 2, 3, 13]] [18432, 18448, 18464, 18480, 18496, 18512, 18528, 18544, 18560, 18576, 18592, 18608, 18624, 18640, 18656, 18672])
     (.cond (.t 78)
      (.reg [⟨(some 79), none, (.mv (.t 12))⟩,
        ⟨(some 11), none, (.mv (.t 79))⟩] [79])
      .skip))))
    (.reg [⟨(some 51), none, (.mv (.t 12))⟩,
      ⟨(some 52), none, (.bin .add (.t 51) (.c (.int .i64 1)))⟩,
      ⟨(some 12), none, (.mv (.t 52))⟩] [51, 52]))))))
  (.seq
  (.reg [⟨(some 80), none, (.mv (.t 0))⟩,
    ⟨(some 81), none, (.app 6 48 (.c (.lst 0 true [])) (.t 80))⟩,
    ⟨(some 15), none, (.mv (.t 81))⟩] [80, 81])
  (.seq
  (.seq
  (.reg [⟨(some 82), none, (.mv (.t 11))⟩,
    ⟨(some 83), none, (.bin .geq (.t 82) (.c (.int .i64 0)))⟩] [82])
  (.cond (.t 83)
   (.seq
   (.reg [⟨(some 85), none, (.mv (.t 0))⟩,
     ⟨(some 86), none, (.mv (.t 11))⟩,
     ⟨(some 87), none, (.iaddr 6 (.t 85) (.t 86))⟩,
     ⟨(some 88), none, (.ld true 6 (.t 87))⟩,
     ⟨(some 89), none, (.mv (.t 1))⟩,
     ⟨(some 90), none, (.mv (.t 2))⟩,
     ⟨(some 91), none, (.call 39 [(.t 88), (.t 89), (.t 90)])⟩,
     ⟨(some 84), none, (.mv (.t 91))⟩,
     ⟨(some 92), none, (.extr 0 (.t 84))⟩,
     ⟨(some 93), none, (.extr 1 (.t 84))⟩,
     ⟨(some 16), none, (.alloc [(.int .i64 0), (.int .i64 0), (.int .i64 0), (.int .i64 0), (.int .i64 0), (.int .i64 0)])⟩,
     ⟨none, none, (.st 6 (.t 16) (.t 92))⟩,
     ⟨(some 17), none, (.mv (.t 93))⟩] [85, 86, 87, 88, 89, 90, 91, 84, 92, 93, 17])
   (.seq
   (.reg [⟨(some 94), none, (.mv (.t 9))⟩,
     ⟨(some 95), none, (.faddr 5 (.t 16))⟩,
     ⟨none, none, (.st 1 (.t 95) (.t 94))⟩] [94, 95])
   (.seq
   (.reg [⟨(some 96), none, (.mv (.t 15))⟩,
     ⟨(some 97), none, (.mv (.t 11))⟩,
     ⟨(some 98), none, (.ld true 6 (.t 16))⟩,
     ⟨(some 99), none, (.iaddr 6 (.t 96) (.t 97))⟩,
     ⟨none, none, (.st 6 (.t 99) (.t 98))⟩] [96, 97, 98, 99])
   (.seq
   (.reg [⟨(some 100), none, (.mv (.t 15))⟩,
     ⟨(some 101), none, (.mv (.t 11))⟩,
     ⟨(some 6), none, (.mv (.t 100))⟩,
     ⟨(some 7), none, (.mv (.t 101))⟩,
     ⟨(some 8), none, (.mv (.c (.int .i64 0)))⟩] [100, 101])
   .ret))))
   .skip))
  (.seq
  (.reg [⟨(some 102), none, (.mv (.t 1))⟩,
    ⟨(some 103), none, (.mv (.t 2))⟩,
    ⟨(some 104), none, (.mv (.t 9))⟩,
    ⟨(some 105), none, (.build [(.int .i64 0), (.int .i64 0), (.int .i64 0), (.int .i64 0), (.int .i64 0), (.int .i64 0)] [(0, (1, (.c (.int .i64 1)))), (1, (1, (.t 102))), (2, (1, (.t 103))), (5, (1, (.t 104)))])⟩,
    ⟨(some 18), none, (.alloc [(.int .i64 0), (.int .i64 0), (.int .i64 0), (.int .i64 0), (.int .i64 0), (.int .i64 0)])⟩,
    ⟨none, none, (.st 6 (.t 18) (.t 105))⟩] [102, 103, 104, 105])
  (.seq
  (.seq
  (.reg [⟨(some 106), none, (.mv (.t 15))⟩,
    ⟨(some 107), none, (.len (.t 106))⟩,
    ⟨(some 108), none, (.bin .lss (.t 107) (.c (.int .i64 4)))⟩] [106, 107])
  (.cond (.t 108)
   (.seq
   (.reg [⟨(some 109), none, (.mv (.t 15))⟩,
     ⟨(some 110), none, (.ld true 6 (.t 18))⟩,
     ⟨(some 111), none, (.bslice 6 [(.int .i64 0), (.int .i64 0), (.int .i64 0), (.int .i64 0), (.int .i64 0), (.int .i64 0)] 1 [(0, (.t 110))])⟩,
     ⟨(some 112), none, (.app 6 48 (.t 109) (.t 111))⟩,
     ⟨(some 113), none, (.mv (.t 15))⟩,
     ⟨(some 114), none, (.len (.t 113))⟩,
     ⟨(some 6), none, (.mv (.t 112))⟩,
     ⟨(some 7), none, (.mv (.t 114))⟩,
     ⟨(some 8), none, (.mv (.c (.int .i64 0)))⟩] [109, 110, 111, 112, 113, 114])
   .ret)
   .skip))
  (.seq
  (.reg [⟨(some 19), none, (.mv (.c (.int .i64 0)))⟩] [])
  (.seq
  (.seq
  (.reg [⟨(some 20), none, (.mv (.c (.int .i64 1)))⟩] [])
  (.block 4
   (.loop
    (.seq
    (.seq
    (.reg [⟨(some 115), none, (.mv (.t 20))⟩,
      ⟨(some 116), none, (.mv (.t 15))⟩,
      ⟨(some 117), none, (.len (.t 116))⟩,
      ⟨(some 118), none, (.bin .lss (.t 115) (.t 117))⟩] [115, 116, 117])
    (.cond (.t 118)
     .skip
     (.exit 4)))
    (.seq
    (.block 5
     (.seq
     (.dreg 33792 33968 [⟨(some 121), none, (.mv (.t 15))⟩,
       ⟨(some 122), none, (.mv (.t 20))⟩,
       ⟨(some 123), none, (.iaddr 6 (.t 121) (.t 122))⟩,
       ⟨(some 124), none, (.faddr 5 (.t 123))⟩,
       ⟨(some 125), none, (.ld false 1 (.t 124))⟩,
       ⟨(some 126), none, (.mv (.t 15))⟩,
       ⟨(some 127), none, (.mv (.t 19))⟩,
       ⟨(some 128), none, (.iaddr 6 (.t 126) (.t 127))⟩,
       ⟨(some 129), none, (.faddr 5 (.t 128))⟩,
       ⟨(some 130), none, (.ld false 1 (.t 129))⟩,
       ⟨(some 131), none, (.bin .lss (.t 125) (.t 130))⟩] [121, 122, 123, 124, 125, 126, 127, 128, 129, 130] [[], [], [0, 1], [2, 1, 0], [3, 0, 1, 2], [], [], [5, 6], [7, 6, 5], [8, 5, 6, 7], [4, 2, 1, 0, 3, 9, 7, 6, 5, 8]] [33792, 33808, 33824, 33840, 33856, 33872, 33888, 33904, 33920, 33936, 33952])
     (.cond (.t 131)
      (.reg [⟨(some 132), none, (.mv (.t 20))⟩,
        ⟨(some 19), none, (.mv (.t 132))⟩] [132])
      .skip)))
    (.reg [⟨(some 119), none, (.mv (.t 20))⟩,
      ⟨(some 120), none, (.bin .add (.t 119) (.c (.int .i64 1)))⟩,
      ⟨(some 20), none, (.mv (.t 120))⟩] [119, 120]))))))
  (.seq
  (.reg [⟨(some 133), none, (.mv (.t 15))⟩,
    ⟨(some 134), none, (.mv (.t 19))⟩,
    ⟨(some 135), none, (.ld true 6 (.t 18))⟩,
    ⟨(some 136), none, (.iaddr 6 (.t 133) (.t 134))⟩,
    ⟨none, none, (.st 6 (.t 136) (.t 135))⟩] [133, 134, 135, 136])
  (.seq
  (.reg [⟨(some 137), none, (.mv (.t 15))⟩,
    ⟨(some 138), none, (.mv (.t 19))⟩,
    ⟨(some 6), none, (.mv (.t 137))⟩,
    ⟨(some 7), none, (.mv (.t 138))⟩,
    ⟨(some 8), none, (.mv (.c (.int .i64 0)))⟩] [137, 138])
  .ret))))))))))))))))
theorem rcq24 : resC Go.Proofs.Tryd.prog Go.Proofs.Tryd.f24.ntmps ((Go.Proofs.Tryd.f24.body).getD .skip) = some (strip rc24) := by kernel_rfl
def rv24 : List RV := [(.tmp 6), (.tmp 7), (.tmp 8)]
theorem rvq24 : Go.Proofs.Tryd.f24.results.toList.mapM (resRV Go.Proofs.Tryd.prog) = some rv24 := by kernel_rfl

theorem kr1_eq (s : Stm) (a b : Int) : kr1 s a b = kc1 s a b := by
  simp only [kr1, kc1]
  generalize (s.kind == 1) = p1
  generalize (s.kind == 2) = p2
  generalize (a == s.stop) = p3
  generalize (a == IntKind.i64.wrap (s.stop - 1)) = p4
  generalize decide (s.stop < b) = p5
  cases p1 <;> cases p2 <;> cases p3 <;> cases p4 <;> rfl
theorem kr2_eq (s : Stm) (a b : Int) : kr2 s a b = kc2 s a b := by
  simp only [kr2, kc2]
  generalize (s.kind == 1) = p1
  generalize (s.kind == 3) = p2
  generalize (b == s.start) = p3
  generalize (b == IntKind.i64.wrap (s.start + 1)) = p4
  generalize decide (a < s.start) = p5
  cases p1 <;> cases p2 <;> cases p3 <;> cases p4 <;> rfl
theorem strided_eq (s : Stm) (a : Int) : stridedR s a = !kc3 s a := by
  simp only [stridedR, kc3, byR]
  by_cases q1 : s.kind = 1
  · have q2 : ¬ s.kind = 4 := by omega
    by_cases q3 : IntKind.i64.wrap (s.stop - s.start) ≤ sizeF (IntKind.i64.wrap (a - s.start))
    · have q4 : ¬ sizeF (IntKind.i64.wrap (a - s.start)) < IntKind.i64.wrap (s.stop - s.start) := by omega
      simp [q1, q3, q4]
    · have q4 : sizeF (IntKind.i64.wrap (a - s.start)) < IntKind.i64.wrap (s.stop - s.start) := by omega
      simp [q1, q3, q4]
  · by_cases q2 : s.kind = 4
    · by_cases q3 : IntKind.i64.wrap (a - s.start) = s.step
      · rw [beqF q1, beqT q2, bneF q2, beqT q3, bneF q3]; rfl
      · rw [beqF q1, beqT q2, bneF q2, beqF q3, bneT q3]; rfl
    · rw [beqF q1, beqF q2, bneT q2]; rfl
theorem matchesR_eq (s : Stm) (a b : Int) : matchesR s a b = matchesF s a b := by
  simp only [matchesR, matchesF, kindF, kr1_eq, kr2_eq, strided_eq]
  cases h0 : (!rightF s || !validF a b) with
  | true => rfl
  | false =>
    cases h1 : kc1 s a b with
    | true => simp [hitsR]
    | false =>
      cases h2 : kc2 s a b with
      | true => simp [hitsR]
      | false =>
        by_cases q1 : s.start ≤ a <;> by_cases q2 : b ≤ s.stop <;> by_cases h4 : IntKind.i64.wrap (b - a) ≤ sizeF (IntKind.i64.wrap (a - s.start)) <;> cases h3 : kc3 s a <;> simp [q1, q2, h4, hitsR, byR]
theorem ok39 (s : Stm) (a b : Int) : FnC Tryd.prog 39 [] [.agg s.c, .int .i64 a, .int .i64 b] (.tup [.agg (matchesF s a b).1.c, .bool (matchesF s a b).2]) [] := by
  rw [← matchesR_eq]; exact ok39R s a b

def stampR (l : List Stm) : Nat → Int
  | 0 => 1
  | i + 1 => max (stampR l i) (IntKind.i64.wrap ((l.getD i zeroS).stamp + 1))
def takeR (l : List Stm) (a b : Int) (s : Stm) (best : Int) : Bool := (matchesF s a b).2 && (decide (best < 0) || betterF s (l.getD best.toNat zeroS))
def bestR (l : List Stm) (a b : Int) : Nat → Int
  | 0 => -1
  | i + 1 => bif takeR l a b (l.getD i zeroS) (bestR l a b i) then (i : Int) else bestR l a b i
def leastR (l : List Stm) : Nat → Int
  | 0 => 0
  | i + 1 => bif decide ((l.getD i zeroS).stamp < (l.getD (leastR l i).toNat zeroS).stamp) then (i : Int) else leastR l i
theorem leastR_one (l : List Stm) : leastR l 1 = 0 := by simp [leastR]
theorem bestR_in (l : List Stm) (a b : Int) : ∀ i : Nat, -1 ≤ bestR l a b i ∧ bestR l a b i < i
  | 0 => by simp [bestR]
  | i + 1 => by
    have ih := bestR_in l a b i
    simp only [bestR]
    cases takeR l a b (l.getD i zeroS) (bestR l a b i) <;> simp only [cond_true, cond_false] <;> omega
theorem leastR_in (l : List Stm) : ∀ i : Nat, 0 ≤ leastR l i ∧ (leastR l i < i ∨ leastR l i = 0)
  | 0 => by simp [leastR]
  | i + 1 => by
    have ih := leastR_in l i
    simp only [leastR]
    cases decide ((l.getD i zeroS).stamp < (l.getD (leastR l i).toNat zeroS).stamp) <;> simp only [cond_true, cond_false] <;> omega
def withStamp (s : Stm) (n : Int) : Stm := ⟨s.kind, s.start, s.stop, s.step, s.hits, n⟩
def feedR (l : List Stm) (a b : Int) : List Stm × Int × Int :=
  bif !checkF l then (l, 0, 1) else bif !validF a b then (l, 0, 2) else
  bif decide (1000000 < stampR l l.length) then (l, 0, 3) else
  bif decide (0 ≤ bestR l a b l.length) then (l.set (bestR l a b l.length).toNat (withStamp (matchesF (l.getD (bestR l a b l.length).toNat zeroS) a b).1 (stampR l l.length)), bestR l a b l.length, 0) else
  bif decide ((l.length : Int) < 4) then (l ++ [⟨1, a, b, 0, 0, stampR l l.length⟩], l.length, 0)
  else (l.set (leastR l l.length).toNat ⟨1, a, b, 0, 0, stampR l l.length⟩, leastR l l.length, 0)
theorem rowsS_getJ (l : List Stm) (j : Int) (h : j < l.length) (hp : 0 < l.length) : (rowsS l).getD j.toNat [] = (l.getD j.toNat zeroS).c := by
  have : j.toNat < l.length := by omega
  rw [rowsS_get l _ this]; simp [List.getD_eq_getElem?_getD, this]
theorem rowsS_getZ (l : List Stm) (j : Int) (h0 : 0 ≤ j) (h : j < l.length) : (rowsS l).getD (0 + j.toNat) [] = (l.getD j.toNat zeroS).c := by
  rw [Nat.zero_add]; exact rowsS_getI l j h0 h
set_option maxRecDepth 20000 in
theorem ok24 (l : List Stm) (t : Bool) (a b : Int) (hl : l.length * 48 ≤ 140737488355328) : FnC Tryd.prog 24 [] [.lst 6 t (rowsS l), .int .i64 a, .int .i64 b] (.tup [.lst 6 false (rowsS (feedR l a b).1), .int .i64 (feedR l a b).2.1, .int .i64 (feedR l a b).2.2]) [] := by
  refine fn_okC (ob0 := []) (rc := rc24) (rvs := rv24) Tryd.func24 rfl rcq24 rvq24 (show 3 ≤ _ by decide) ?_
  generalize hk : feedR l a b = q
  repeat ((conv => whnf); first | refine Cd.seq ?_ | refine Cd.cut ?_ | refine Cd.reg ?_ | refine Cd.block ?_ | refine Cd.cond ?_ | refine Cd.dreg ?_ | refine Cd.skip ?_ | refine Cd.ret ?_ | refine Cd.exit ?_ | refine Cd.loop ?_ | refine ⟨rfl, ?_⟩ | refine ⟨Nat.le_of_ble_eq_true rfl, ?_⟩ | refine ⟨.inl rfl, ?_⟩ | refine ⟨fun h => Bool.noConfusion h, ?_⟩ | refine .inl ⟨_, fun _ => ⟨purA rfl, (by first | exact ok38 l t (by omega) | exact ok30 a b)⟩, .inl rfl, ?_⟩)
  conv => whnf
  refine ⟨fun h1 => ?_, fun h1 => ?_⟩ <;> try simp only [Bool.cond_true_left, Bool.cond_false_right, Bool.not_eq_true', Bool.not_eq_false', Bool.not_not] at h1
  · repeat ((conv => whnf); first | refine Cd.seq ?_ | refine Cd.cut ?_ | refine Cd.reg ?_ | refine Cd.block ?_ | refine Cd.cond ?_ | refine Cd.dreg ?_ | refine Cd.skip ?_ | refine Cd.ret ?_ | refine Cd.exit ?_ | refine Cd.loop ?_ | refine ⟨rfl, ?_⟩ | refine ⟨Nat.le_of_ble_eq_true rfl, ?_⟩ | refine ⟨.inl rfl, ?_⟩ | refine ⟨fun h => Bool.noConfusion h, ?_⟩)
    conv => whnf
    refine ⟨[], ?_, rfl, trivial, rfl, ?_⟩
    · exact trivial
    try subst hk
    simp only [feedR, h1, cond_true, cond_false, Bool.not_true, Bool.not_false]
    repeat' (first | exact trivial | rfl | exact .inl rfl | exact .inr rfl | exact id | exact (fun h => Bool.noConfusion h) | refine And.intro ?_ ?_)
  repeat ((conv => whnf); first | refine Cd.seq ?_ | refine Cd.cut ?_ | refine Cd.reg ?_ | refine Cd.block ?_ | refine Cd.cond ?_ | refine Cd.dreg ?_ | refine Cd.skip ?_ | refine Cd.ret ?_ | refine Cd.exit ?_ | refine Cd.loop ?_ | refine ⟨rfl, ?_⟩ | refine ⟨Nat.le_of_ble_eq_true rfl, ?_⟩ | refine ⟨.inl rfl, ?_⟩ | refine ⟨fun h => Bool.noConfusion h, ?_⟩ | refine .inl ⟨_, fun _ => ⟨purA rfl, (by first | exact ok38 l t (by omega) | exact ok30 a b)⟩, .inl rfl, ?_⟩)
  conv => whnf
  refine ⟨fun h2 => ?_, fun h2 => ?_⟩ <;> try simp only [Bool.cond_true_left, Bool.cond_false_right, Bool.not_eq_true', Bool.not_eq_false', Bool.not_not] at h2
  · repeat ((conv => whnf); first | refine Cd.seq ?_ | refine Cd.cut ?_ | refine Cd.reg ?_ | refine Cd.block ?_ | refine Cd.cond ?_ | refine Cd.dreg ?_ | refine Cd.skip ?_ | refine Cd.ret ?_ | refine Cd.exit ?_ | refine Cd.loop ?_ | refine ⟨rfl, ?_⟩ | refine ⟨Nat.le_of_ble_eq_true rfl, ?_⟩ | refine ⟨.inl rfl, ?_⟩ | refine ⟨fun h => Bool.noConfusion h, ?_⟩)
    conv => whnf
    refine ⟨[], ?_, rfl, trivial, rfl, ?_⟩
    · exact trivial
    try subst hk
    simp only [feedR, h1, h2, cond_true, cond_false, Bool.not_true, Bool.not_false]
    repeat' (first | exact trivial | rfl | exact .inl rfl | exact .inr rfl | exact id | exact (fun h => Bool.noConfusion h) | refine And.intro ?_ ?_)
  repeat ((conv => whnf); first | refine Cd.seq ?_ | refine Cd.cut ?_ | refine Cd.reg ?_ | refine Cd.block ?_ | refine Cd.cond ?_ | refine Cd.dreg ?_ | refine Cd.skip ?_ | refine Cd.ret ?_ | refine Cd.exit ?_ | refine Cd.loop ?_ | refine ⟨rfl, ?_⟩ | refine ⟨Nat.le_of_ble_eq_true rfl, ?_⟩ | refine ⟨.inl rfl, ?_⟩ | refine ⟨fun h => Bool.noConfusion h, ?_⟩)
  conv => whnf
  have h4 := ((checkF_iff l).1 h1).1
  refine ⟨Nat, fun i => i ≤ l.length,
    fun i => ⟨[(0, ⟨[], true, .lst 6 t (rowsS l)⟩), (1, ⟨[], true, .int .i64 a⟩), (2, ⟨[], true, .int .i64 b⟩), (6, ⟨[], true, .lst 0 true []⟩), (7, ⟨[], true, .int .i64 0⟩), (8, ⟨[], true, .int .i64 0⟩),
      (9, ⟨[], true, .int .i64 (stampR l i)⟩), (10, ⟨[], true, .int .i64 i⟩)], [], 0⟩, fun i => l.length - i, ⟨0, by omega, ?_⟩, fun i hI => ?_⟩
  · refine viewI [] rfl rfl ?_ rfl ?_ rfl ?_
    repeat' (first | exact trivial | rfl | exact .inl rfl | exact .inr rfl | exact id | exact (fun h => Bool.noConfusion h) | refine And.intro ?_ ?_)
  repeat ((conv => whnf); first | refine Cd.seq ?_ | refine Cd.cut ?_ | refine Cd.reg ?_ | refine Cd.block ?_ | refine Cd.cond ?_ | refine Cd.dreg ?_ | refine Cd.skip ?_ | refine Cd.ret ?_ | refine Cd.exit ?_ | refine Cd.loop ?_ | refine ⟨rfl, ?_⟩ | refine ⟨Nat.le_of_ble_eq_true rfl, ?_⟩ | refine ⟨.inl rfl, ?_⟩ | refine ⟨fun h => Bool.noConfusion h, ?_⟩)
  conv => whnf
  rw [rowsS_len]
  refine ⟨fun h3 => ?_, fun h3 => ?_⟩ <;> try simp only [Bool.cond_true_left, Bool.cond_false_right, Bool.not_eq_true', Bool.not_eq_false', Bool.not_not] at h3
  · have h3 : i < l.length := by simp at h3; omega
    have hwr : IntKind.i64.wrap ((i : Int) + 1) = ((i + 1 : Nat) : Int) := by rw [wrapI (by omega) (by omega)]; omega
    repeat ((conv => whnf); first | refine Cd.seq ?_ | refine Cd.cut ?_ | refine Cd.reg ?_ | refine Cd.block ?_ | refine Cd.cond ?_ | refine Cd.dreg ?_ | refine Cd.skip ?_ | refine Cd.ret ?_ | refine Cd.exit ?_ | refine Cd.loop ?_ | refine ⟨rfl, ?_⟩ | refine ⟨Nat.le_of_ble_eq_true rfl, ?_⟩ | refine ⟨.inl rfl, ?_⟩ | refine ⟨fun h => Bool.noConfusion h, ?_⟩)
    conv => whnf
    refine ⟨fun _ => ⟨rfl, by simp, by rw [rowsS_len]; omega⟩, ?_⟩
    rw [rowsS_getI l _ (by simp) (by omega), Int.toNat_natCast]
    repeat ((conv => whnf); first | refine Cd.seq ?_ | refine Cd.cut ?_ | refine Cd.reg ?_ | refine Cd.block ?_ | refine Cd.cond ?_ | refine Cd.dreg ?_ | refine Cd.skip ?_ | refine Cd.ret ?_ | refine Cd.exit ?_ | refine Cd.loop ?_ | refine ⟨rfl, ?_⟩ | refine ⟨Nat.le_of_ble_eq_true rfl, ?_⟩ | refine ⟨.inl rfl, ?_⟩ | refine ⟨fun h => Bool.noConfusion h, ?_⟩)
    conv => whnf
    rw [hwr]
    refine ⟨i + 1, by omega, ?_, by show l.length - (i + 1) < l.length - i; omega⟩
    refine viewI [] rfl rfl ?_ rfl ?_ rfl ?_
    repeat' (first | exact trivial | rfl | exact .inl rfl | exact .inr rfl | exact id | exact (fun h => Bool.noConfusion h) | refine And.intro ?_ ?_)
  have h3 : i = l.length := by simp at h3; omega
  subst h3
  repeat ((conv => whnf); first | refine Cd.seq ?_ | refine Cd.cut ?_ | refine Cd.reg ?_ | refine Cd.block ?_ | refine Cd.cond ?_ | refine Cd.dreg ?_ | refine Cd.skip ?_ | refine Cd.ret ?_ | refine Cd.exit ?_ | refine Cd.loop ?_ | refine ⟨rfl, ?_⟩ | refine ⟨Nat.le_of_ble_eq_true rfl, ?_⟩ | refine ⟨.inl rfl, ?_⟩ | refine ⟨fun h => Bool.noConfusion h, ?_⟩)
  conv => whnf
  refine ⟨fun h5 => ?_, fun h5 => ?_⟩ <;> try simp only [Bool.cond_true_left, Bool.cond_false_right, Bool.not_eq_true', Bool.not_eq_false', Bool.not_not] at h5
  · repeat ((conv => whnf); first | refine Cd.seq ?_ | refine Cd.cut ?_ | refine Cd.reg ?_ | refine Cd.block ?_ | refine Cd.cond ?_ | refine Cd.dreg ?_ | refine Cd.skip ?_ | refine Cd.ret ?_ | refine Cd.exit ?_ | refine Cd.loop ?_ | refine ⟨rfl, ?_⟩ | refine ⟨Nat.le_of_ble_eq_true rfl, ?_⟩ | refine ⟨.inl rfl, ?_⟩ | refine ⟨fun h => Bool.noConfusion h, ?_⟩)
    conv => whnf
    refine ⟨[], ?_, rfl, trivial, rfl, ?_⟩
    · exact trivial
    try subst hk
    simp only [feedR, h1, h2, h5, cond_true, cond_false, Bool.not_true, Bool.not_false]
    repeat' (first | exact trivial | rfl | exact .inl rfl | exact .inr rfl | exact id | exact (fun h => Bool.noConfusion h) | refine And.intro ?_ ?_)
  repeat ((conv => whnf); first | refine Cd.seq ?_ | refine Cd.cut ?_ | refine Cd.reg ?_ | refine Cd.block ?_ | refine Cd.cond ?_ | refine Cd.dreg ?_ | refine Cd.skip ?_ | refine Cd.ret ?_ | refine Cd.exit ?_ | refine Cd.loop ?_ | refine ⟨rfl, ?_⟩ | refine ⟨Nat.le_of_ble_eq_true rfl, ?_⟩ | refine ⟨.inl rfl, ?_⟩ | refine ⟨fun h => Bool.noConfusion h, ?_⟩)
  conv => whnf
  refine ⟨Nat × Int, fun p => p.1 ≤ l.length ∧ p.2 = bestR l a b p.1,
    fun | (i, v) => ⟨[(0, ⟨[], true, .lst 6 t (rowsS l)⟩), (1, ⟨[], true, .int .i64 a⟩), (2, ⟨[], true, .int .i64 b⟩), (6, ⟨[], true, .lst 0 true []⟩), (7, ⟨[], true, .int .i64 0⟩), (8, ⟨[], true, .int .i64 0⟩),
      (9, ⟨[], true, .int .i64 (stampR l l.length)⟩), (11, ⟨[], true, .int .i64 v⟩), (12, ⟨[], true, .int .i64 i⟩)], [], 0⟩, fun p => l.length - p.1, ⟨(0, -1), ⟨by simp, rfl⟩, ?_⟩, fun p hI => ?_⟩
  · refine viewI [] rfl rfl ?_ rfl ?_ rfl ?_
    repeat' (first | exact trivial | rfl | exact .inl rfl | exact .inr rfl | exact id | exact (fun h => Bool.noConfusion h) | refine And.intro ?_ ?_)
  obtain ⟨i, v⟩ := p
  obtain ⟨hI, hv⟩ := hI
  simp only at hI hv
  subst hv
  have hb := bestR_in l a b i
  repeat ((conv => whnf); first | refine Cd.seq ?_ | refine Cd.cut ?_ | refine Cd.reg ?_ | refine Cd.block ?_ | refine Cd.cond ?_ | refine Cd.dreg ?_ | refine Cd.skip ?_ | refine Cd.ret ?_ | refine Cd.exit ?_ | refine Cd.loop ?_ | refine ⟨rfl, ?_⟩ | refine ⟨Nat.le_of_ble_eq_true rfl, ?_⟩ | refine ⟨.inl rfl, ?_⟩ | refine ⟨fun h => Bool.noConfusion h, ?_⟩)
  conv => whnf
  rw [rowsS_len]
  refine ⟨fun h3 => ?_, fun h3 => ?_⟩ <;> try simp only [Bool.cond_true_left, Bool.cond_false_right, Bool.not_eq_true', Bool.not_eq_false', Bool.not_not] at h3
  · have h3 : i < l.length := by simp at h3; omega
    have hwr : IntKind.i64.wrap ((i : Int) + 1) = ((i + 1 : Nat) : Int) := by rw [wrapI (by omega) (by omega)]; omega
    have hst : bestR l a b (i + 1) = bif takeR l a b (l.getD i zeroS) (bestR l a b i) then (i : Int) else bestR l a b i := rfl
    repeat ((conv => whnf); first | refine Cd.seq ?_ | refine Cd.cut ?_ | refine Cd.reg ?_ | refine Cd.block ?_ | refine Cd.cond ?_ | refine Cd.dreg ?_ | refine Cd.skip ?_ | refine Cd.ret ?_ | refine Cd.exit ?_ | refine Cd.loop ?_ | refine ⟨rfl, ?_⟩ | refine ⟨Nat.le_of_ble_eq_true rfl, ?_⟩ | refine ⟨.inl rfl, ?_⟩ | refine ⟨fun h => Bool.noConfusion h, ?_⟩)
    conv => whnf
    refine ⟨fun _ => ⟨rfl, by simp, by rw [rowsS_len]; omega⟩, ?_⟩
    rw [rowsS_getI l _ (by simp) (by omega), Int.toNat_natCast]
    repeat ((conv => whnf); first | refine Cd.seq ?_ | refine Cd.cut ?_ | refine Cd.reg ?_ | refine Cd.block ?_ | refine Cd.cond ?_ | refine Cd.dreg ?_ | refine Cd.skip ?_ | refine Cd.ret ?_ | refine Cd.exit ?_ | refine Cd.loop ?_ | refine ⟨rfl, ?_⟩ | refine ⟨Nat.le_of_ble_eq_true rfl, ?_⟩ | refine ⟨.inl rfl, ?_⟩ | refine ⟨fun h => Bool.noConfusion h, ?_⟩ | refine .inl ⟨_, fun _ => ⟨purA rfl, (by first | exact ok39 (l.getD i zeroS) a b)⟩, .inl rfl, ?_⟩)
    conv => whnf
    refine ⟨fun _ => ⟨rfl, by simp, by rw [rowsS_len]; omega⟩, ?_⟩
    rw [rowsS_getI l _ (by simp) (by omega), Int.toNat_natCast]
    repeat ((conv => whnf); first | refine Cd.seq ?_ | refine Cd.cut ?_ | refine Cd.reg ?_ | refine Cd.block ?_ | refine Cd.cond ?_ | refine Cd.dreg ?_ | refine Cd.skip ?_ | refine Cd.ret ?_ | refine Cd.exit ?_ | refine Cd.loop ?_ | refine ⟨rfl, ?_⟩ | refine ⟨Nat.le_of_ble_eq_true rfl, ?_⟩ | refine ⟨.inl rfl, ?_⟩ | refine ⟨fun h => Bool.noConfusion h, ?_⟩)
    conv => whnf
    refine ⟨fun hg => ⟨rfl, by simp at hg; omega, by rw [rowsS_len]; omega⟩, ?_⟩
    rw [rowsS_getJ l _ (by omega) (by omega)]
    repeat ((conv => whnf); first | refine Cd.seq ?_ | refine Cd.cut ?_ | refine Cd.reg ?_ | refine Cd.block ?_ | refine Cd.cond ?_ | refine Cd.dreg ?_ | refine Cd.skip ?_ | refine Cd.ret ?_ | refine Cd.exit ?_ | refine Cd.loop ?_ | refine ⟨rfl, ?_⟩ | refine ⟨Nat.le_of_ble_eq_true rfl, ?_⟩ | refine ⟨.inl rfl, ?_⟩ | refine ⟨fun h => Bool.noConfusion h, ?_⟩ | refine .inl ⟨_, fun _ => ⟨purA rfl, (by first | exact ok40 (l.getD i zeroS) (l.getD (bestR l a b i).toNat zeroS))⟩, .inl rfl, ?_⟩)
    conv => whnf
    refine ⟨fun h6 => ?_, fun h6 => ?_⟩ <;> try simp only [Bool.cond_true_left, Bool.cond_false_right, Bool.not_eq_true', Bool.not_eq_false', Bool.not_not] at h6
    · have h6 : takeR l a b (l.getD i zeroS) (bestR l a b i) = true := h6
      rw [h6] at hst
      repeat ((conv => whnf); first | refine Cd.seq ?_ | refine Cd.cut ?_ | refine Cd.reg ?_ | refine Cd.block ?_ | refine Cd.cond ?_ | refine Cd.dreg ?_ | refine Cd.skip ?_ | refine Cd.ret ?_ | refine Cd.exit ?_ | refine Cd.loop ?_ | refine ⟨rfl, ?_⟩ | refine ⟨Nat.le_of_ble_eq_true rfl, ?_⟩ | refine ⟨.inl rfl, ?_⟩ | refine ⟨fun h => Bool.noConfusion h, ?_⟩)
      conv => whnf
      rw [hwr]
      refine ⟨(i + 1, _), ⟨by show i + 1 ≤ _; omega, hst.symm⟩, ?_, by show l.length - (i + 1) < l.length - i; omega⟩
      refine viewI [] rfl rfl ?_ rfl ?_ rfl ?_
      repeat' (first | exact trivial | rfl | exact .inl rfl | exact .inr rfl | exact id | exact (fun h => Bool.noConfusion h) | refine And.intro ?_ ?_)
    · have h6 : takeR l a b (l.getD i zeroS) (bestR l a b i) = false := h6
      rw [h6] at hst
      repeat ((conv => whnf); first | refine Cd.seq ?_ | refine Cd.cut ?_ | refine Cd.reg ?_ | refine Cd.block ?_ | refine Cd.cond ?_ | refine Cd.dreg ?_ | refine Cd.skip ?_ | refine Cd.ret ?_ | refine Cd.exit ?_ | refine Cd.loop ?_ | refine ⟨rfl, ?_⟩ | refine ⟨Nat.le_of_ble_eq_true rfl, ?_⟩ | refine ⟨.inl rfl, ?_⟩ | refine ⟨fun h => Bool.noConfusion h, ?_⟩)
      conv => whnf
      rw [hwr]
      refine ⟨(i + 1, _), ⟨by show i + 1 ≤ _; omega, hst.symm⟩, ?_, by show l.length - (i + 1) < l.length - i; omega⟩
      refine viewI [] rfl rfl ?_ rfl ?_ rfl ?_
      repeat' (first | exact trivial | rfl | exact .inl rfl | exact .inr rfl | exact id | exact (fun h => Bool.noConfusion h) | refine And.intro ?_ ?_)
  have h3 : i = l.length := by simp at h3; omega
  subst h3
  repeat ((conv => whnf); first | refine Cd.seq ?_ | refine Cd.cut ?_ | refine Cd.reg ?_ | refine Cd.block ?_ | refine Cd.cond ?_ | refine Cd.dreg ?_ | refine Cd.skip ?_ | refine Cd.ret ?_ | refine Cd.exit ?_ | refine Cd.loop ?_ | refine ⟨rfl, ?_⟩ | refine ⟨Nat.le_of_ble_eq_true rfl, ?_⟩ | refine ⟨.inl rfl, ?_⟩ | refine ⟨fun h => Bool.noConfusion h, ?_⟩)
  conv => whnf
  rw [rowsS_len]
  refine ⟨by omega, by omega, ?_⟩
  repeat ((conv => whnf); first | refine Cd.seq ?_ | refine Cd.cut ?_ | refine Cd.reg ?_ | refine Cd.block ?_ | refine Cd.cond ?_ | refine Cd.dreg ?_ | refine Cd.skip ?_ | refine Cd.ret ?_ | refine Cd.exit ?_ | refine Cd.loop ?_ | refine ⟨rfl, ?_⟩ | refine ⟨Nat.le_of_ble_eq_true rfl, ?_⟩ | refine ⟨.inl rfl, ?_⟩ | refine ⟨fun h => Bool.noConfusion h, ?_⟩)
  conv => whnf
  refine ⟨fun h7 => ?_, fun h7 => ?_⟩ <;> try simp only [Bool.cond_true_left, Bool.cond_false_right, Bool.not_eq_true', Bool.not_eq_false', Bool.not_not] at h7
  · have h7' : 0 ≤ bestR l a b l.length := by simpa using h7
    repeat ((conv => whnf); first | refine Cd.seq ?_ | refine Cd.cut ?_ | refine Cd.reg ?_ | refine Cd.block ?_ | refine Cd.cond ?_ | refine Cd.dreg ?_ | refine Cd.skip ?_ | refine Cd.ret ?_ | refine Cd.exit ?_ | refine Cd.loop ?_ | refine ⟨rfl, ?_⟩ | refine ⟨Nat.le_of_ble_eq_true rfl, ?_⟩ | refine ⟨.inl rfl, ?_⟩ | refine ⟨fun h => Bool.noConfusion h, ?_⟩)
    conv => whnf
    refine ⟨fun _ => ⟨rfl, by omega, by rw [rowsS_len]; omega⟩, ?_⟩
    rw [rowsS_getI l _ h7' (by omega)]
    repeat ((conv => whnf); first | refine Cd.seq ?_ | refine Cd.cut ?_ | refine Cd.reg ?_ | refine Cd.block ?_ | refine Cd.cond ?_ | refine Cd.dreg ?_ | refine Cd.skip ?_ | refine Cd.ret ?_ | refine Cd.exit ?_ | refine Cd.loop ?_ | refine ⟨rfl, ?_⟩ | refine ⟨Nat.le_of_ble_eq_true rfl, ?_⟩ | refine ⟨.inl rfl, ?_⟩ | refine ⟨fun h => Bool.noConfusion h, ?_⟩ | refine .inl ⟨_, fun _ => ⟨purA rfl, (by first | exact ok39 (l.getD (bestR l a b l.length).toNat zeroS) a b)⟩, .inl rfl, ?_⟩)
    conv => whnf
    refine ⟨fun _ => ⟨by omega, by omega⟩, ?_⟩
    repeat ((conv => whnf); first | refine Cd.seq ?_ | refine Cd.cut ?_ | refine Cd.reg ?_ | refine Cd.block ?_ | refine Cd.cond ?_ | refine Cd.dreg ?_ | refine Cd.skip ?_ | refine Cd.ret ?_ | refine Cd.exit ?_ | refine Cd.loop ?_ | refine ⟨rfl, ?_⟩ | refine ⟨Nat.le_of_ble_eq_true rfl, ?_⟩ | refine ⟨.inl rfl, ?_⟩ | refine ⟨fun h => Bool.noConfusion h, ?_⟩)
    conv => whnf
    refine ⟨by rw [rowsS_len]; omega, ?_⟩
    repeat ((conv => whnf); first | refine Cd.seq ?_ | refine Cd.cut ?_ | refine Cd.reg ?_ | refine Cd.block ?_ | refine Cd.cond ?_ | refine Cd.dreg ?_ | refine Cd.skip ?_ | refine Cd.ret ?_ | refine Cd.exit ?_ | refine Cd.loop ?_ | refine ⟨rfl, ?_⟩ | refine ⟨Nat.le_of_ble_eq_true rfl, ?_⟩ | refine ⟨.inl rfl, ?_⟩ | refine ⟨fun h => Bool.noConfusion h, ?_⟩)
    conv => whnf
    refine ⟨[], ?_, rfl, trivial, rfl, ?_⟩
    · exact trivial
    try subst hk
    simp only [feedR, h1, h2, h5, h7, cond_true, cond_false, Bool.not_true, Bool.not_false]
    repeat' (first | exact trivial | rfl | exact .inl rfl | exact .inr rfl | exact id | exact (fun h => Bool.noConfusion h) | refine And.intro ?_ ?_)
    · exact out_le' l _ _
    · exact out_set l _ (withStamp (matchesF (l.getD (bestR l a b l.length).toNat zeroS) a b).1 (stampR l l.length))
  repeat ((conv => whnf); first | refine Cd.seq ?_ | refine Cd.cut ?_ | refine Cd.reg ?_ | refine Cd.block ?_ | refine Cd.cond ?_ | refine Cd.dreg ?_ | refine Cd.skip ?_ | refine Cd.ret ?_ | refine Cd.exit ?_ | refine Cd.loop ?_ | refine ⟨rfl, ?_⟩ | refine ⟨Nat.le_of_ble_eq_true rfl, ?_⟩ | refine ⟨.inl rfl, ?_⟩ | refine ⟨fun h => Bool.noConfusion h, ?_⟩)
  conv => whnf
  refine ⟨fun h8 => ?_, fun h8 => ?_⟩ <;> try simp only [Bool.cond_true_left, Bool.cond_false_right, Bool.not_eq_true', Bool.not_eq_false', Bool.not_not] at h8
  · have h8' : l.length < 4 := by simp at h8; omega
    repeat ((conv => whnf); first | refine Cd.seq ?_ | refine Cd.cut ?_ | refine Cd.reg ?_ | refine Cd.block ?_ | refine Cd.cond ?_ | refine Cd.dreg ?_ | refine Cd.skip ?_ | refine Cd.ret ?_ | refine Cd.exit ?_ | refine Cd.loop ?_ | refine ⟨rfl, ?_⟩ | refine ⟨Nat.le_of_ble_eq_true rfl, ?_⟩ | refine ⟨.inl rfl, ?_⟩ | refine ⟨fun h => Bool.noConfusion h, ?_⟩)
    conv => whnf
    refine ⟨(rowsS_len l).symm, ?_, ?_, ?_⟩
    · show (((rowsS l).length + 1 : Nat) : Int) ≤ _
      rw [rowsS_len]; omega
    · show ((rowsS l).length + 1) * 48 ≤ _
      rw [rowsS_len]; omega
    repeat ((conv => whnf); first | refine Cd.seq ?_ | refine Cd.cut ?_ | refine Cd.reg ?_ | refine Cd.block ?_ | refine Cd.cond ?_ | refine Cd.dreg ?_ | refine Cd.skip ?_ | refine Cd.ret ?_ | refine Cd.exit ?_ | refine Cd.loop ?_ | refine ⟨rfl, ?_⟩ | refine ⟨Nat.le_of_ble_eq_true rfl, ?_⟩ | refine ⟨.inl rfl, ?_⟩ | refine ⟨fun h => Bool.noConfusion h, ?_⟩)
    conv => whnf
    refine ⟨[], ?_, rfl, trivial, rfl, ?_⟩
    · exact trivial
    try subst hk
    simp only [feedR, h1, h2, h5, h7, h8, cond_true, cond_false, Bool.not_true, Bool.not_false]
    repeat' (first | exact trivial | rfl | exact .inl rfl | exact .inr rfl | exact id | exact (fun h => Bool.noConfusion h) | refine And.intro ?_ ?_)
    · exact Nat.le_of_eq (by rw [Nat.zero_add, List.length_append])
    · refine (take0 (by rw [List.length_append])).trans ?_
      rw [rowsS, rowsS, List.map_append]; rfl
  have h8' : l.length = 4 := by simp at h8; omega
  repeat ((conv => whnf); first | refine Cd.seq ?_ | refine Cd.cut ?_ | refine Cd.reg ?_ | refine Cd.block ?_ | refine Cd.cond ?_ | refine Cd.dreg ?_ | refine Cd.skip ?_ | refine Cd.ret ?_ | refine Cd.exit ?_ | refine Cd.loop ?_ | refine ⟨rfl, ?_⟩ | refine ⟨Nat.le_of_ble_eq_true rfl, ?_⟩ | refine ⟨.inl rfl, ?_⟩ | refine ⟨fun h => Bool.noConfusion h, ?_⟩)
  conv => whnf
  refine ⟨Nat × Int, fun p => 1 ≤ p.1 ∧ p.1 ≤ l.length ∧ p.2 = leastR l p.1,
    fun | (i, v) => ⟨[(6, ⟨[], true, .lst 0 true []⟩), (7, ⟨[], true, .int .i64 0⟩), (8, ⟨[], true, .int .i64 0⟩), (15, ⟨[], true, .sl 0 0 l.length⟩), (18, ⟨[], true, .ptr 1 0 0⟩),
      (19, ⟨[], true, .int .i64 v⟩), (20, ⟨[], true, .int .i64 i⟩)], [(0, .row 6 (rowsS l)), (1, .box [.int .i64 1, .int .i64 a, .int .i64 b, .int .i64 0, .int .i64 0, .int .i64 (stampR l l.length)])], 2⟩, fun p => l.length - p.1, ⟨(1, 0), ⟨by simp, by simp; omega, (leastR_one l).symm⟩, ?_⟩, fun p hI => ?_⟩
  · refine viewI [some 0, some 1] rfl rfl ?_ rfl ?_ rfl ?_
    repeat' (first | exact trivial | rfl | exact .inl rfl | exact .inr rfl | exact id | exact (fun h => Bool.noConfusion h) | refine And.intro ?_ ?_)
  obtain ⟨i, v⟩ := p
  obtain ⟨hI1, hI2, hv⟩ := hI
  simp only at hI1 hI2 hv
  subst hv
  have hb := leastR_in l i
  repeat ((conv => whnf); first | refine Cd.seq ?_ | refine Cd.cut ?_ | refine Cd.reg ?_ | refine Cd.block ?_ | refine Cd.cond ?_ | refine Cd.dreg ?_ | refine Cd.skip ?_ | refine Cd.ret ?_ | refine Cd.exit ?_ | refine Cd.loop ?_ | refine ⟨rfl, ?_⟩ | refine ⟨Nat.le_of_ble_eq_true rfl, ?_⟩ | refine ⟨.inl rfl, ?_⟩ | refine ⟨fun h => Bool.noConfusion h, ?_⟩)
  conv => whnf
  refine ⟨fun h3 => ?_, fun h3 => ?_⟩ <;> try simp only [Bool.cond_true_left, Bool.cond_false_right, Bool.not_eq_true', Bool.not_eq_false', Bool.not_not] at h3
  · have h3 : i < l.length := by simp at h3; omega
    have hwr : IntKind.i64.wrap ((i : Int) + 1) = ((i + 1 : Nat) : Int) := by rw [wrapI (by omega) (by omega)]; omega
    have hst : leastR l (i + 1) = bif decide ((l.getD i zeroS).stamp < (l.getD (leastR l i).toNat zeroS).stamp) then (i : Int) else leastR l i := rfl
    repeat ((conv => whnf); first | refine Cd.seq ?_ | refine Cd.cut ?_ | refine Cd.reg ?_ | refine Cd.block ?_ | refine Cd.cond ?_ | refine Cd.dreg ?_ | refine Cd.skip ?_ | refine Cd.ret ?_ | refine Cd.exit ?_ | refine Cd.loop ?_ | refine ⟨rfl, ?_⟩ | refine ⟨Nat.le_of_ble_eq_true rfl, ?_⟩ | refine ⟨.inl rfl, ?_⟩ | refine ⟨fun h => Bool.noConfusion h, ?_⟩)
    conv => whnf
    refine ⟨fun _ => ⟨by simp, by omega⟩, ?_⟩
    repeat ((conv => whnf); first | refine Cd.seq ?_ | refine Cd.cut ?_ | refine Cd.reg ?_ | refine Cd.block ?_ | refine Cd.cond ?_ | refine Cd.dreg ?_ | refine Cd.skip ?_ | refine Cd.ret ?_ | refine Cd.exit ?_ | refine Cd.loop ?_ | refine ⟨rfl, ?_⟩ | refine ⟨Nat.le_of_ble_eq_true rfl, ?_⟩ | refine ⟨.inl rfl, ?_⟩ | refine ⟨fun h => Bool.noConfusion h, ?_⟩)
    conv => whnf
    refine ⟨fun _ => by rw [rowsS_len]; omega, ?_⟩
    rw [rowsS_getZ l _ (by simp) (by omega), Int.toNat_natCast]
    repeat ((conv => whnf); first | refine Cd.seq ?_ | refine Cd.cut ?_ | refine Cd.reg ?_ | refine Cd.block ?_ | refine Cd.cond ?_ | refine Cd.dreg ?_ | refine Cd.skip ?_ | refine Cd.ret ?_ | refine Cd.exit ?_ | refine Cd.loop ?_ | refine ⟨rfl, ?_⟩ | refine ⟨Nat.le_of_ble_eq_true rfl, ?_⟩ | refine ⟨.inl rfl, ?_⟩ | refine ⟨fun h => Bool.noConfusion h, ?_⟩)
    conv => whnf
    refine ⟨fun _ => ⟨by omega, by omega⟩, ?_⟩
    repeat ((conv => whnf); first | refine Cd.seq ?_ | refine Cd.cut ?_ | refine Cd.reg ?_ | refine Cd.block ?_ | refine Cd.cond ?_ | refine Cd.dreg ?_ | refine Cd.skip ?_ | refine Cd.ret ?_ | refine Cd.exit ?_ | refine Cd.loop ?_ | refine ⟨rfl, ?_⟩ | refine ⟨Nat.le_of_ble_eq_true rfl, ?_⟩ | refine ⟨.inl rfl, ?_⟩ | refine ⟨fun h => Bool.noConfusion h, ?_⟩)
    conv => whnf
    refine ⟨fun _ => by rw [rowsS_len]; omega, ?_⟩
    rw [rowsS_getZ l _ (by omega) (by omega)]
    repeat ((conv => whnf); first | refine Cd.seq ?_ | refine Cd.cut ?_ | refine Cd.reg ?_ | refine Cd.block ?_ | refine Cd.cond ?_ | refine Cd.dreg ?_ | refine Cd.skip ?_ | refine Cd.ret ?_ | refine Cd.exit ?_ | refine Cd.loop ?_ | refine ⟨rfl, ?_⟩ | refine ⟨Nat.le_of_ble_eq_true rfl, ?_⟩ | refine ⟨.inl rfl, ?_⟩ | refine ⟨fun h => Bool.noConfusion h, ?_⟩)
    conv => whnf
    refine ⟨fun h6 => ?_, fun h6 => ?_⟩ <;> try simp only [Bool.cond_true_left, Bool.cond_false_right, Bool.not_eq_true', Bool.not_eq_false', Bool.not_not] at h6
    · rw [h6] at hst
      repeat ((conv => whnf); first | refine Cd.seq ?_ | refine Cd.cut ?_ | refine Cd.reg ?_ | refine Cd.block ?_ | refine Cd.cond ?_ | refine Cd.dreg ?_ | refine Cd.skip ?_ | refine Cd.ret ?_ | refine Cd.exit ?_ | refine Cd.loop ?_ | refine ⟨rfl, ?_⟩ | refine ⟨Nat.le_of_ble_eq_true rfl, ?_⟩ | refine ⟨.inl rfl, ?_⟩ | refine ⟨fun h => Bool.noConfusion h, ?_⟩)
      conv => whnf
      rw [hwr]
      refine ⟨(i + 1, _), ⟨by show 1 ≤ i + 1; omega, by show i + 1 ≤ _; omega, hst.symm⟩, ?_, by show l.length - (i + 1) < l.length - i; omega⟩
      refine viewI [some 0, some 1] rfl rfl ?_ rfl ?_ rfl ?_
      repeat' (first | exact trivial | rfl | exact .inl rfl | exact .inr rfl | exact id | exact (fun h => Bool.noConfusion h) | refine And.intro ?_ ?_)
    · rw [h6] at hst
      repeat ((conv => whnf); first | refine Cd.seq ?_ | refine Cd.cut ?_ | refine Cd.reg ?_ | refine Cd.block ?_ | refine Cd.cond ?_ | refine Cd.dreg ?_ | refine Cd.skip ?_ | refine Cd.ret ?_ | refine Cd.exit ?_ | refine Cd.loop ?_ | refine ⟨rfl, ?_⟩ | refine ⟨Nat.le_of_ble_eq_true rfl, ?_⟩ | refine ⟨.inl rfl, ?_⟩ | refine ⟨fun h => Bool.noConfusion h, ?_⟩)
      conv => whnf
      rw [hwr]
      refine ⟨(i + 1, _), ⟨by show 1 ≤ i + 1; omega, by show i + 1 ≤ _; omega, hst.symm⟩, ?_, by show l.length - (i + 1) < l.length - i; omega⟩
      refine viewI [some 0, some 1] rfl rfl ?_ rfl ?_ rfl ?_
      repeat' (first | exact trivial | rfl | exact .inl rfl | exact .inr rfl | exact id | exact (fun h => Bool.noConfusion h) | refine And.intro ?_ ?_)
  have h3 : i = l.length := by simp at h3; omega
  subst h3
  repeat ((conv => whnf); first | refine Cd.seq ?_ | refine Cd.cut ?_ | refine Cd.reg ?_ | refine Cd.block ?_ | refine Cd.cond ?_ | refine Cd.dreg ?_ | refine Cd.skip ?_ | refine Cd.ret ?_ | refine Cd.exit ?_ | refine Cd.loop ?_ | refine ⟨rfl, ?_⟩ | refine ⟨Nat.le_of_ble_eq_true rfl, ?_⟩ | refine ⟨.inl rfl, ?_⟩ | refine ⟨fun h => Bool.noConfusion h, ?_⟩)
  conv => whnf
  refine ⟨fun _ => ⟨by omega, by omega⟩, ?_⟩
  repeat ((conv => whnf); first | refine Cd.seq ?_ | refine Cd.cut ?_ | refine Cd.reg ?_ | refine Cd.block ?_ | refine Cd.cond ?_ | refine Cd.dreg ?_ | refine Cd.skip ?_ | refine Cd.ret ?_ | refine Cd.exit ?_ | refine Cd.loop ?_ | refine ⟨rfl, ?_⟩ | refine ⟨Nat.le_of_ble_eq_true rfl, ?_⟩ | refine ⟨.inl rfl, ?_⟩ | refine ⟨fun h => Bool.noConfusion h, ?_⟩)
  conv => whnf
  refine ⟨by rw [rowsS_len]; omega, ?_⟩
  repeat ((conv => whnf); first | refine Cd.seq ?_ | refine Cd.cut ?_ | refine Cd.reg ?_ | refine Cd.block ?_ | refine Cd.cond ?_ | refine Cd.dreg ?_ | refine Cd.skip ?_ | refine Cd.ret ?_ | refine Cd.exit ?_ | refine Cd.loop ?_ | refine ⟨rfl, ?_⟩ | refine ⟨Nat.le_of_ble_eq_true rfl, ?_⟩ | refine ⟨.inl rfl, ?_⟩ | refine ⟨fun h => Bool.noConfusion h, ?_⟩)
  conv => whnf
  refine ⟨[], ?_, rfl, trivial, rfl, ?_⟩
  · exact trivial
  try subst hk
  simp only [feedR, h1, h2, h5, h7, h8, cond_true, cond_false, Bool.not_true, Bool.not_false]
  repeat' (first | exact trivial | rfl | exact .inl rfl | exact .inr rfl | exact id | exact (fun h => Bool.noConfusion h) | refine And.intro ?_ ?_)
  · exact out_le' l _ _
  · exact out_set l _ ⟨1, a, b, 0, 0, stampR l l.length⟩
end Go.Proofs.YteelckbeekgfiaaDoor
