/- Zone: Free, Want, Low; the reference's. -/
import Derived.Test.YtcifhjkodbaghaaB5
set_option linter.unusedSimpArgs false
set_option linter.unusedVariables false
namespace Go.Proofs.Ytcifhjkodbaghaa
open Go Go.Sk Go.RowKit

/- pagecache/zone.Free -/
def rc25 : RC :=
  (.seq
  (.reg [⟨(some 2), none, (.mv (.c (.int .i64 0)))⟩] [])
  (.seq
  (.seq
  (.reg [⟨(some 6), none, (.mv (.t 0))⟩,
    ⟨(some 7), none, (.call 22 [(.t 6)])⟩,
    ⟨(some 8), none, (.un .not (.t 7))⟩] [6, 7])
  (.cond (.t 8)
   (.seq
   (.reg [⟨(some 2), none, (.mv (.c (.int .i64 0)))⟩] [])
   .ret)
   .skip))
  (.seq
  (.reg [⟨(some 3), none, (.mv (.c (.int .i64 0)))⟩] [])
  (.seq
  (.seq
  (.reg [⟨(some 9), none, (.mv (.t 0))⟩,
    ⟨(some 10), none, (.len (.t 9))⟩,
    ⟨(some 11), none, (.mv (.c (.int .i64 0)))⟩] [])
  (.block 0
   (.loop
    (.seq
    (.reg [⟨(some 12), none, (.bin .lss (.t 11) (.t 10))⟩] [])
    (.seq
    (.cond (.t 12)
     .skip
     (.exit 0))
    (.seq
    (.block 1
     (.seq
     (.reg [⟨(some 13), none, (.iaddr 6 (.t 9) (.t 11))⟩,
       ⟨(some 14), none, (.ld true 6 (.t 13))⟩,
       ⟨(some 5), none, (.alloc [(.int .i64 0), (.int .i64 0), (.int .i64 0), (.int .i64 0), (.int .i64 0), (.lst 0 true [])])⟩,
       ⟨none, none, (.st 6 (.t 5) (.t 14))⟩] [13, 14])
     (.reg [⟨(some 15), none, (.mv (.t 3))⟩,
       ⟨(some 16), none, (.faddr 5 (.t 5))⟩,
       ⟨(some 17), none, (.ld false 1 (.t 16))⟩,
       ⟨(some 18), none, (.len (.t 17))⟩,
       ⟨(some 19), none, (.bin .add (.t 15) (.t 18))⟩,
       ⟨(some 3), none, (.mv (.t 19))⟩] [15, 16, 17, 18, 19])))
    (.reg [⟨(some 20), none, (.bin .add (.t 11) (.c (.int .i64 1)))⟩,
      ⟨(some 11), none, (.mv (.t 20))⟩] [20])))))))
  (.seq
  (.reg [⟨(some 21), none, (.mv (.t 3))⟩,
    ⟨(some 2), none, (.mv (.t 21))⟩] [21])
  .ret)))))
theorem rcq25 : resC Go.Proofs.Try.prog Go.Proofs.Try.f25.ntmps ((Go.Proofs.Try.f25.body).getD .skip) = some (strip rc25) := by kernel_rfl
def rv25 : List RV := [(.tmp 2)]
theorem rvq25 : Go.Proofs.Try.f25.results.toList.mapM (resRV Go.Proofs.Try.prog) = some rv25 := by kernel_rfl

/- pagecache/pagecacheref10.Free -/
def rc26 : RC :=
  (.seq
  (.reg [⟨(some 2), none, (.mv (.c (.int .i64 0)))⟩] [])
  (.seq
  (.reg [⟨(some 3), none, (.mv (.c (.int .i64 0)))⟩] [])
  (.seq
  (.seq
  (.reg [⟨(some 5), none, (.mv (.t 0))⟩,
    ⟨(some 6), none, (.call 23 [(.t 5)])⟩] [5])
  (.cond (.t 6)
   (.seq
   (.reg [⟨(some 4), none, (.mv (.c (.int .i64 0)))⟩] [])
   (.block 0
    (.loop
     (.seq
     (.seq
     (.reg [⟨(some 7), none, (.mv (.t 4))⟩,
       ⟨(some 8), none, (.mv (.t 0))⟩,
       ⟨(some 9), none, (.len (.t 8))⟩,
       ⟨(some 10), none, (.bin .lss (.t 7) (.t 9))⟩] [7, 8, 9])
     (.cond (.t 10)
      .skip
      (.exit 0)))
     (.seq
     (.block 1
      (.reg [⟨(some 13), none, (.mv (.t 3))⟩,
        ⟨(some 14), none, (.mv (.t 0))⟩,
        ⟨(some 15), none, (.mv (.t 4))⟩,
        ⟨(some 16), none, (.iaddr 6 (.t 14) (.t 15))⟩,
        ⟨(some 17), none, (.faddr 5 (.t 16))⟩,
        ⟨(some 18), none, (.ld false 1 (.t 17))⟩,
        ⟨(some 19), none, (.len (.t 18))⟩,
        ⟨(some 20), none, (.bin .add (.t 13) (.t 19))⟩,
        ⟨(some 3), none, (.mv (.t 20))⟩] [13, 14, 15, 16, 17, 18, 19, 20]))
     (.reg [⟨(some 11), none, (.mv (.t 4))⟩,
       ⟨(some 12), none, (.bin .add (.t 11) (.c (.int .i64 1)))⟩,
       ⟨(some 4), none, (.mv (.t 12))⟩] [11, 12]))))))
   .skip))
  (.seq
  (.reg [⟨(some 21), none, (.mv (.t 3))⟩,
    ⟨(some 2), none, (.mv (.t 21))⟩] [21])
  .ret))))
theorem rcq26 : resC Go.Proofs.Try.prog Go.Proofs.Try.f26.ntmps ((Go.Proofs.Try.f26.body).getD .skip) = some (strip rc26) := by kernel_rfl
def rv26 : List RV := [(.tmp 2)]
theorem rvq26 : Go.Proofs.Try.f26.results.toList.mapM (resRV Go.Proofs.Try.prog) = some rv26 := by kernel_rfl

/- pagecache/zone.Want -/
def rc29 : RC :=
  (.seq
  (.reg [⟨(some 2), none, (.mv (.c (.int .i64 0)))⟩] [])
  (.seq
  (.seq
  (.reg [⟨(some 6), none, (.mv (.t 0))⟩,
    ⟨(some 7), none, (.call 22 [(.t 6)])⟩,
    ⟨(some 8), none, (.un .not (.t 7))⟩] [6, 7])
  (.cond (.t 8)
   (.seq
   (.reg [⟨(some 2), none, (.mv (.c (.int .i64 0)))⟩] [])
   .ret)
   .skip))
  (.seq
  (.reg [⟨(some 3), none, (.mv (.c (.int .i64 0)))⟩] [])
  (.seq
  (.seq
  (.reg [⟨(some 9), none, (.mv (.t 0))⟩,
    ⟨(some 10), none, (.len (.t 9))⟩,
    ⟨(some 11), none, (.mv (.c (.int .i64 0)))⟩] [])
  (.block 0
   (.loop
    (.seq
    (.reg [⟨(some 12), none, (.bin .lss (.t 11) (.t 10))⟩] [])
    (.seq
    (.cond (.t 12)
     .skip
     (.exit 0))
    (.seq
    (.block 1
     (.seq
     (.reg [⟨(some 13), none, (.iaddr 6 (.t 9) (.t 11))⟩,
       ⟨(some 14), none, (.ld true 6 (.t 13))⟩,
       ⟨(some 5), none, (.alloc [(.int .i64 0), (.int .i64 0), (.int .i64 0), (.int .i64 0), (.int .i64 0), (.lst 0 true [])])⟩,
       ⟨none, none, (.st 6 (.t 5) (.t 14))⟩] [13, 14])
     (.reg [⟨(some 15), none, (.mv (.t 3))⟩,
       ⟨(some 16), none, (.faddr 4 (.t 5))⟩,
       ⟨(some 17), none, (.ld false 1 (.t 16))⟩,
       ⟨(some 18), none, (.faddr 5 (.t 5))⟩,
       ⟨(some 19), none, (.ld false 1 (.t 18))⟩,
       ⟨(some 20), none, (.len (.t 19))⟩,
       ⟨(some 21), none, (.bin .sub (.t 17) (.t 20))⟩,
       ⟨(some 22), none, (.mx (.c (.int .i64 0)) (.t 21))⟩,
       ⟨(some 23), none, (.bin .add (.t 15) (.t 22))⟩,
       ⟨(some 3), none, (.mv (.t 23))⟩] [15, 16, 17, 18, 19, 20, 21, 22, 23])))
    (.reg [⟨(some 24), none, (.bin .add (.t 11) (.c (.int .i64 1)))⟩,
      ⟨(some 11), none, (.mv (.t 24))⟩] [24])))))))
  (.seq
  (.reg [⟨(some 25), none, (.mv (.t 3))⟩,
    ⟨(some 2), none, (.mv (.t 25))⟩] [25])
  .ret)))))
theorem rcq29 : resC Go.Proofs.Try.prog Go.Proofs.Try.f29.ntmps ((Go.Proofs.Try.f29.body).getD .skip) = some (strip rc29) := by kernel_rfl
def rv29 : List RV := [(.tmp 2)]
theorem rvq29 : Go.Proofs.Try.f29.results.toList.mapM (resRV Go.Proofs.Try.prog) = some rv29 := by kernel_rfl

/- pagecache/pagecacheref10.Want -/
def rc30 : RC :=
  (.seq
  (.reg [⟨(some 2), none, (.mv (.c (.int .i64 0)))⟩] [])
  (.seq
  (.reg [⟨(some 3), none, (.mv (.c (.int .i64 0)))⟩] [])
  (.seq
  (.seq
  (.reg [⟨(some 5), none, (.mv (.t 0))⟩,
    ⟨(some 6), none, (.call 23 [(.t 5)])⟩] [5])
  (.cond (.t 6)
   (.seq
   (.reg [⟨(some 4), none, (.mv (.c (.int .i64 0)))⟩] [])
   (.block 0
    (.loop
     (.seq
     (.seq
     (.reg [⟨(some 7), none, (.mv (.t 4))⟩,
       ⟨(some 8), none, (.mv (.t 0))⟩,
       ⟨(some 9), none, (.len (.t 8))⟩,
       ⟨(some 10), none, (.bin .lss (.t 7) (.t 9))⟩] [7, 8, 9])
     (.cond (.t 10)
      .skip
      (.exit 0)))
     (.seq
     (.block 1
      (.dreg 7168 7424 [⟨(some 13), none, (.mv (.t 3))⟩,
        ⟨(some 14), none, (.mv (.t 0))⟩,
        ⟨(some 15), none, (.mv (.t 4))⟩,
        ⟨(some 16), none, (.iaddr 6 (.t 14) (.t 15))⟩,
        ⟨(some 17), none, (.faddr 4 (.t 16))⟩,
        ⟨(some 18), none, (.ld false 1 (.t 17))⟩,
        ⟨(some 19), none, (.mv (.t 0))⟩,
        ⟨(some 20), none, (.mv (.t 4))⟩,
        ⟨(some 21), none, (.iaddr 6 (.t 19) (.t 20))⟩,
        ⟨(some 22), none, (.faddr 5 (.t 21))⟩,
        ⟨(some 23), none, (.ld false 1 (.t 22))⟩,
        ⟨(some 24), none, (.len (.t 23))⟩,
        ⟨(some 25), none, (.bin .sub (.t 18) (.t 24))⟩,
        ⟨(some 26), none, (.mx (.t 25) (.c (.int .i64 0)))⟩,
        ⟨(some 27), none, (.bin .add (.t 13) (.t 26))⟩,
        ⟨(some 3), none, (.mv (.t 27))⟩] [13, 14, 15, 16, 17, 18, 19, 20, 21, 22, 23, 24, 25, 26, 27] [[], [], [], [1, 2], [3, 2, 1], [4, 1, 2, 3], [], [], [6, 7], [8, 7, 6], [9, 6, 7, 8], [10, 8, 7, 6, 9], [5, 3, 2, 1, 4, 11, 9, 6, 7, 8, 10], [12, 10, 8, 7, 6, 9, 11, 4, 1, 2, 3, 5], [0, 13, 5, 3, 2, 1, 4, 11, 9, 6, 7, 8, 10, 12], [14, 12, 10, 8, 7, 6, 9, 11, 4, 1, 2, 3, 5, 13, 0]] [7168, 7184, 7200, 7216, 7232, 7248, 7264, 7280, 7296, 7312, 7328, 7344, 7360, 7376, 7392, 7408]))
     (.reg [⟨(some 11), none, (.mv (.t 4))⟩,
       ⟨(some 12), none, (.bin .add (.t 11) (.c (.int .i64 1)))⟩,
       ⟨(some 4), none, (.mv (.t 12))⟩] [11, 12]))))))
   .skip))
  (.seq
  (.reg [⟨(some 28), none, (.mv (.t 3))⟩,
    ⟨(some 2), none, (.mv (.t 28))⟩] [28])
  .ret))))
theorem rcq30 : resC Go.Proofs.Try.prog Go.Proofs.Try.f30.ntmps ((Go.Proofs.Try.f30.body).getD .skip) = some (strip rc30) := by kernel_rfl
def rv30 : List RV := [(.tmp 2)]
theorem rvq30 : Go.Proofs.Try.f30.results.toList.mapM (resRV Go.Proofs.Try.prog) = some rv30 := by kernel_rfl

/- pagecache/zone.Low -/
def rc27 : RC :=
  (.seq
  (.reg [⟨(some 2), none, (.mv (.c (.bool false)))⟩] [])
  (.seq
  (.reg [⟨(some 3), none, (.mv (.t 0))⟩,
    ⟨(some 4), none, (.call 22 [(.t 3)])⟩,
    ⟨(some 5), none, (.mv (.t 4))⟩,
    ⟨(some 6), (some (5, true)), (.mv (.t 0))⟩,
    ⟨(some 7), (some (5, true)), (.call 63 [(.t 6), (.c (.fn 64 []))])⟩,
    ⟨(some 8), none, (.pick (.t 5) (.t 7) (.c (.bool false)))⟩,
    ⟨(some 2), none, (.mv (.t 8))⟩] [3, 4, 5, 6, 7, 8])
  .ret))
theorem rcq27 : resC Go.Proofs.Try.prog Go.Proofs.Try.f27.ntmps ((Go.Proofs.Try.f27.body).getD .skip) = some (strip rc27) := by kernel_rfl
def rv27 : List RV := [(.tmp 2)]
theorem rvq27 : Go.Proofs.Try.f27.results.toList.mapM (resRV Go.Proofs.Try.prog) = some rv27 := by kernel_rfl

/- pagecache/zone.Low$1 -/
def rc64 : RC :=
  (.seq
  (.reg [⟨(some 1), none, (.box (.t 0))⟩,
    ⟨(some 2), none, (.mv (.c (.bool false)))⟩] [])
  (.seq
  (.reg [⟨(some 3), none, (.faddr 5 (.t 1))⟩,
    ⟨(some 4), none, (.ld false 1 (.t 3))⟩,
    ⟨(some 5), none, (.len (.t 4))⟩,
    ⟨(some 6), none, (.faddr 3 (.t 1))⟩,
    ⟨(some 7), none, (.ld false 1 (.t 6))⟩,
    ⟨(some 8), none, (.bin .lss (.t 5) (.t 7))⟩,
    ⟨(some 2), none, (.mv (.t 8))⟩] [3, 4, 5, 6, 7, 8])
  .ret))
theorem rcq64 : resC Go.Proofs.Try.prog Go.Proofs.Try.f64.ntmps ((Go.Proofs.Try.f64.body).getD .skip) = some (strip rc64) := by kernel_rfl
def rv64 : List RV := [(.tmp 2)]
theorem rvq64 : Go.Proofs.Try.f64.results.toList.mapM (resRV Go.Proofs.Try.prog) = some rv64 := by kernel_rfl

/- pagecache/pagecacheref10.Low -/
def rc28 : RC :=
  (.seq
  (.reg [⟨(some 2), none, (.mv (.c (.bool false)))⟩] [])
  (.seq
  (.seq
  (.reg [⟨(some 4), none, (.mv (.t 0))⟩,
    ⟨(some 5), none, (.call 23 [(.t 4)])⟩,
    ⟨(some 6), none, (.un .not (.t 5))⟩] [4, 5])
  (.cond (.t 6)
   (.seq
   (.reg [⟨(some 2), none, (.mv (.c (.bool false)))⟩] [])
   .ret)
   .skip))
  (.seq
  (.seq
  (.reg [⟨(some 3), none, (.mv (.c (.int .i64 0)))⟩] [])
  (.block 0
   (.loop
    (.seq
    (.seq
    (.reg [⟨(some 7), none, (.mv (.t 3))⟩,
      ⟨(some 8), none, (.mv (.t 0))⟩,
      ⟨(some 9), none, (.len (.t 8))⟩,
      ⟨(some 10), none, (.bin .lss (.t 7) (.t 9))⟩] [7, 8, 9])
    (.cond (.t 10)
     .skip
     (.exit 0)))
    (.seq
    (.block 1
     (.seq
     (.dreg 7168 7360 [⟨(some 13), none, (.mv (.t 0))⟩,
       ⟨(some 14), none, (.mv (.t 3))⟩,
       ⟨(some 15), none, (.iaddr 6 (.t 13) (.t 14))⟩,
       ⟨(some 16), none, (.faddr 5 (.t 15))⟩,
       ⟨(some 17), none, (.ld false 1 (.t 16))⟩,
       ⟨(some 18), none, (.len (.t 17))⟩,
       ⟨(some 19), none, (.mv (.t 0))⟩,
       ⟨(some 20), none, (.mv (.t 3))⟩,
       ⟨(some 21), none, (.iaddr 6 (.t 19) (.t 20))⟩,
       ⟨(some 22), none, (.faddr 3 (.t 21))⟩,
       ⟨(some 23), none, (.ld false 1 (.t 22))⟩,
       ⟨(some 24), none, (.bin .lss (.t 18) (.t 23))⟩] [13, 14, 15, 16, 17, 18, 19, 20, 21, 22, 23] [[], [], [0, 1], [2, 1, 0], [3, 0, 1, 2], [4, 2, 1, 0, 3], [], [], [6, 7], [8, 7, 6], [9, 6, 7, 8], [5, 3, 0, 1, 2, 4, 10, 8, 7, 6, 9]] [7168, 7184, 7200, 7216, 7232, 7248, 7264, 7280, 7296, 7312, 7328, 7344])
     (.cond (.t 24)
      (.seq
      (.reg [⟨(some 2), none, (.mv (.c (.bool true)))⟩] [])
      .ret)
      .skip)))
    (.reg [⟨(some 11), none, (.mv (.t 3))⟩,
      ⟨(some 12), none, (.bin .add (.t 11) (.c (.int .i64 1)))⟩,
      ⟨(some 3), none, (.mv (.t 12))⟩] [11, 12]))))))
  (.seq
  (.reg [⟨(some 2), none, (.mv (.c (.bool false)))⟩] [])
  .ret))))
theorem rcq28 : resC Go.Proofs.Try.prog Go.Proofs.Try.f28.ntmps ((Go.Proofs.Try.f28.body).getD .skip) = some (strip rc28) := by kernel_rfl
def rv28 : List RV := [(.tmp 2)]
theorem rvq28 : Go.Proofs.Try.f28.results.toList.mapM (resRV Go.Proofs.Try.prog) = some rv28 := by kernel_rfl

/- pagecache/zone.Give$1 -/
def rc58 : RC :=
  (.seq
  (.reg [⟨(some 2), none, (.box (.t 0))⟩,
    ⟨(some 3), none, (.mv (.c (.bool false)))⟩] [])
  (.seq
  (.dreg 2048 2224 [⟨(some 4), none, (.ld false 1 (.t 1))⟩,
    ⟨(some 5), none, (.faddr 0 (.t 2))⟩,
    ⟨(some 6), none, (.ld false 1 (.t 5))⟩,
    ⟨(some 7), none, (.bin .geq (.t 4) (.t 6))⟩,
    ⟨(some 8), none, (.mv (.t 7))⟩,
    ⟨(some 9), (some (8, true)), (.ld false 1 (.t 1))⟩,
    ⟨(some 10), (some (8, true)), (.ld true 6 (.t 2))⟩,
    ⟨(some 11), (some (8, true)), (.call 59 [(.t 10)])⟩,
    ⟨(some 12), (some (8, true)), (.bin .lss (.t 9) (.t 11))⟩,
    ⟨(some 13), none, (.pick (.t 8) (.t 12) (.c (.bool false)))⟩,
    ⟨(some 3), none, (.mv (.t 13))⟩] [4, 5, 6, 7, 8, 9, 10, 11, 12, 13] [[], [], [1], [0, 2, 1], [3, 1, 2, 0], [4, 0, 2, 1, 3], [4, 0, 2, 1, 3], [6, 4, 0, 2, 1, 3], [5, 7, 6, 4, 0, 2, 1, 3], [8, 3, 1, 2, 0, 4, 6, 7, 5], [9, 5, 7, 6, 4, 0, 2, 1, 3, 8]] [2048, 2064, 2080, 2096, 2112, 2128, 2144, 2160, 2176, 2192, 2208])
  .ret))
theorem rcq58 : resC Go.Proofs.Try.prog Go.Proofs.Try.f58.ntmps ((Go.Proofs.Try.f58.body).getD .skip) = some (strip rc58) := by kernel_rfl
def rv58 : List RV := [(.tmp 3)]
theorem rvq58 : Go.Proofs.Try.f58.results.toList.mapM (resRV Go.Proofs.Try.prog) = some rv58 := by kernel_rfl

structure GoodZ (z : Zn) : Prop where
  first : 1 ≤ z.first
  size : 1 ≤ z.size ∧ z.size ≤ 64
  stop : z.first + z.size ≤ 65
  marks : 0 ≤ z.min ∧ z.min ≤ z.low ∧ z.low ≤ z.high ∧ z.high ≤ z.size
  asc : ascN z.first (z.first + z.size) z.free z.free.length = true
theorem right_good {z : Zn} {f : Int} (hf : 1 ≤ f ∧ f ≤ 65) (h : rightZ z f = true) : GoodZ z ∧ z.first = f ∧ endZ z = f + z.size := by
  rw [rightZ] at h
  cases h1 : headBad z f with
  | true => rw [h1] at h; cases h
  | false =>
    cases h2 : markBad z with
    | true => rw [h1, h2] at h; cases h
    | false =>
      rw [h1, h2] at h
      simp only [cond_false] at h
      simp only [headBad, Bool.or_eq_false_iff, decide_eq_false_iff_not, bne_eq_false_iff_eq] at h1
      simp only [markBad, Bool.or_eq_false_iff, decide_eq_false_iff_not] at h2
      have he : endZ z = z.first + z.size := by rw [endZ, wrapI (by omega) (by omega)]
      rw [he] at h h1
      exact ⟨⟨by omega, by omega, by omega, by omega, h⟩, by omega, by omega⟩
theorem chkF_good : ∀ (l : List Zn) (f : Int), 1 ≤ f ∧ f ≤ 65 → chkF f l = true → ∀ z ∈ l, GoodZ z
  | [], _, _, _ => by simp
  | z :: r, f, hf, h => by
    simp only [chkF, Bool.and_eq_true] at h
    obtain ⟨g, h1, h2⟩ := right_good hf h.1
    have := g.stop
    have := g.size
    intro y hy
    rcases List.mem_cons.1 hy with rfl | hy
    · exact g
    · exact chkF_good r _ (by omega) h.2 y hy
theorem check_good {l : List Zn} (h : checkZ l = true) : ∀ z ∈ l, GoodZ z := by
  simp only [checkZ, Bool.and_eq_true] at h
  exact chkF_good l 1 (by decide) h.1
def sumZ (g : Zn → Int) : List Zn → Int
  | [] => 0
  | z :: r => g z + sumZ g r
def freeG (z : Zn) : Int := z.free.length
def wantG (z : Zn) : Int := max 0 (z.high - z.free.length)
def freeF (l : List Zn) : Int := bif checkZ l then sumZ freeG l else 0
def wantF (l : List Zn) : Int := bif checkZ l then sumZ wantG l else 0
def lowG (z : Zn) : Bool := decide ((z.free.length : Int) < z.low)
def lowF (l : List Zn) : Bool := bif checkZ l then decide (0 ≤ idxF lowG l) else false
theorem freeG_in {l : List Zn} (hl : SmallZ l) {i : Nat} (h : i < l.length) : 0 ≤ freeG l[i] ∧ freeG l[i] ≤ 100000 := by
  have := hl.free _ (List.getElem_mem h); unfold freeG; omega
set_option maxRecDepth 20000 in
theorem ok25 (l : List Zn) (t : Bool) (hl : SmallZ l) : FnC Try.prog 25 [] [.lst 6 t (rowsZ l)] (.int .i64 (freeF l)) [] := by
  have hlen := hl.len
  refine fn_okC (ob0 := []) (rc := rc25) (rvs := rv25) Try.func25 rfl rcq25 rvq25 (show 1 ≤ _ by decide) ?_
  generalize hk : freeF l = q
  repeat ((conv => whnf); first | refine Cd.seq ?_ | refine Cd.cut ?_ | refine Cd.reg ?_ | refine Cd.block ?_ | refine Cd.cond ?_ | refine Cd.dreg ?_ | refine Cd.skip ?_ | refine Cd.ret ?_ | refine Cd.exit ?_ | refine Cd.loop ?_ | refine ⟨rfl, ?_⟩ | refine ⟨Nat.le_of_ble_eq_true rfl, ?_⟩ | refine ⟨.inl rfl, ?_⟩ | refine ⟨fun h => Bool.noConfusion h, ?_⟩ | refine .inl ⟨_, fun _ => ⟨purA rfl, (by first | exact ok22 l t hl)⟩, .inl rfl, ?_⟩)
  conv => whnf
  refine ⟨fun h1 => ?_, fun h1 => ?_⟩ <;> try simp only [Bool.cond_true_left, Bool.cond_false_right, Bool.not_eq_true', Bool.not_eq_false', Bool.not_not] at h1
  · have h1 : checkZ l = false := by simpa using h1
    simp only [freeF, h1, cond_false] at hk
    subst hk
    repeat ((conv => whnf); first | refine Cd.seq ?_ | refine Cd.cut ?_ | refine Cd.reg ?_ | refine Cd.block ?_ | refine Cd.cond ?_ | refine Cd.dreg ?_ | refine Cd.skip ?_ | refine Cd.ret ?_ | refine Cd.exit ?_ | refine Cd.loop ?_ | refine ⟨rfl, ?_⟩ | refine ⟨Nat.le_of_ble_eq_true rfl, ?_⟩ | refine ⟨.inl rfl, ?_⟩ | refine ⟨fun h => Bool.noConfusion h, ?_⟩)
    conv => whnf
    refine ⟨[], ?_, rfl, trivial, rfl, ?_⟩
    · exact trivial
    try subst hk
    repeat' (first | exact trivial | rfl | exact .inl rfl | exact .inr rfl | exact id | exact (fun h => Bool.noConfusion h) | refine And.intro ?_ ?_)
  have h1 : checkZ l = true := by simpa using h1
  simp only [freeF, h1, cond_true] at hk
  repeat ((conv => whnf); first | refine Cd.seq ?_ | refine Cd.cut ?_ | refine Cd.reg ?_ | refine Cd.block ?_ | refine Cd.cond ?_ | refine Cd.dreg ?_ | refine Cd.skip ?_ | refine Cd.ret ?_ | refine Cd.exit ?_ | refine Cd.loop ?_ | refine ⟨rfl, ?_⟩ | refine ⟨Nat.le_of_ble_eq_true rfl, ?_⟩ | refine ⟨.inl rfl, ?_⟩ | refine ⟨fun h => Bool.noConfusion h, ?_⟩)
  conv => whnf
  rw [rowsZ_len]
  refine ⟨Nat × Int, fun p => p.1 ≤ l.length ∧ p.2 + sumZ freeG (l.drop p.1) = q ∧ 0 ≤ p.2 ∧ p.2 ≤ 100000 * (p.1 : Int), fun p => ⟨[(2, ⟨[], true, .int .i64 0⟩), (3, ⟨[], true, .int .i64 p.2⟩), (9, ⟨[], true, .lst 6 t (rowsZ l)⟩), (10, ⟨[], true, .int .i64 (l.length : Int)⟩), (11, ⟨[], true, .int .i64 (p.1 : Int)⟩)], [], 0⟩, fun p => l.length - p.1, ⟨(0, 0), ⟨by simp, by simpa using hk, by simp, by simp⟩, ?_⟩, fun p hI => ?_⟩
  · refine viewI [] rfl rfl ?_ rfl ?_ rfl ?_
    repeat' (first | exact trivial | rfl | exact .inl rfl | exact .inr rfl | exact id | exact (fun h => Bool.noConfusion h) | refine And.intro ?_ ?_)
  obtain ⟨i, s⟩ := p
  obtain ⟨hI1, hI2, hI3, hI4⟩ := hI
  simp only at hI1 hI2 hI3 hI4
  repeat ((conv => whnf); first | refine Cd.seq ?_ | refine Cd.cut ?_ | refine Cd.reg ?_ | refine Cd.block ?_ | refine Cd.cond ?_ | refine Cd.dreg ?_ | refine Cd.skip ?_ | refine Cd.ret ?_ | refine Cd.exit ?_ | refine Cd.loop ?_ | refine ⟨rfl, ?_⟩ | refine ⟨Nat.le_of_ble_eq_true rfl, ?_⟩ | refine ⟨.inl rfl, ?_⟩ | refine ⟨fun h => Bool.noConfusion h, ?_⟩)
  conv => whnf
  refine ⟨fun h3 => ?_, fun h3 => ?_⟩ <;> try simp only [Bool.cond_true_left, Bool.cond_false_right, Bool.not_eq_true', Bool.not_eq_false', Bool.not_not] at h3
  · have h3 : i < l.length := by simp at h3; omega
    have hf := freeG_in hl h3
    have hst : sumZ freeG (l.drop i) = freeG l[i] + sumZ freeG (l.drop (i + 1)) := by rw [List.drop_eq_getElem_cons h3]; rfl
    rw [hst] at hI2
    repeat ((conv => whnf); first | refine Cd.seq ?_ | refine Cd.cut ?_ | refine Cd.reg ?_ | refine Cd.block ?_ | refine Cd.cond ?_ | refine Cd.dreg ?_ | refine Cd.skip ?_ | refine Cd.ret ?_ | refine Cd.exit ?_ | refine Cd.loop ?_ | refine ⟨rfl, ?_⟩ | refine ⟨Nat.le_of_ble_eq_true rfl, ?_⟩ | refine ⟨.inl rfl, ?_⟩ | refine ⟨fun h => Bool.noConfusion h, ?_⟩)
    conv => whnf
    refine ⟨fun _ => ⟨rfl, by omega, by rw [rowsZ_len]; omega⟩, ?_⟩
    rw [Int.toNat_natCast, rowsZ_get l i h3]
    generalize l[i] = z at hI2 hf
    repeat ((conv => whnf); first | refine Cd.seq ?_ | refine Cd.cut ?_ | refine Cd.reg ?_ | refine Cd.block ?_ | refine Cd.cond ?_ | refine Cd.dreg ?_ | refine Cd.skip ?_ | refine Cd.ret ?_ | refine Cd.exit ?_ | refine Cd.loop ?_ | refine ⟨rfl, ?_⟩ | refine ⟨Nat.le_of_ble_eq_true rfl, ?_⟩ | refine ⟨.inl rfl, ?_⟩ | refine ⟨fun h => Bool.noConfusion h, ?_⟩)
    conv => whnf
    rw [rowsI_len]
    unfold freeG at hI2 hf
    rw [wrapI (n := s + (z.free.length : Int)) (by omega) (by omega), wrapI (n := (i : Int) + 1) (by omega) (by omega), show ((i : Int) + 1) = ((i + 1 : Nat) : Int) by omega]
    refine ⟨(i + 1, s + (z.free.length : Int)), ⟨by show i + 1 ≤ _; omega, by show s + (z.free.length : Int) + sumZ freeG (l.drop (i + 1)) = q; unfold freeG; omega, by show 0 ≤ s + (z.free.length : Int); omega, by show s + (z.free.length : Int) ≤ 100000 * ((i + 1 : Nat) : Int); omega⟩, ?_, by show l.length - (i + 1) < l.length - i; omega⟩
    refine viewI [] rfl rfl ?_ rfl ?_ rfl ?_
    repeat' (first | exact trivial | rfl | exact .inl rfl | exact .inr rfl | exact id | exact (fun h => Bool.noConfusion h) | refine And.intro ?_ ?_)
  have h3 : i = l.length := by simp at h3; omega
  rw [h3, List.drop_length, sumZ, Int.add_zero] at hI2
  subst hI2
  repeat ((conv => whnf); first | refine Cd.seq ?_ | refine Cd.cut ?_ | refine Cd.reg ?_ | refine Cd.block ?_ | refine Cd.cond ?_ | refine Cd.dreg ?_ | refine Cd.skip ?_ | refine Cd.ret ?_ | refine Cd.exit ?_ | refine Cd.loop ?_ | refine ⟨rfl, ?_⟩ | refine ⟨Nat.le_of_ble_eq_true rfl, ?_⟩ | refine ⟨.inl rfl, ?_⟩ | refine ⟨fun h => Bool.noConfusion h, ?_⟩)
  conv => whnf
  refine ⟨[], ?_, rfl, trivial, rfl, ?_⟩
  · exact trivial
  try subst hk
  repeat' (first | exact trivial | rfl | exact .inl rfl | exact .inr rfl | exact id | exact (fun h => Bool.noConfusion h) | refine And.intro ?_ ?_)
set_option maxRecDepth 20000 in
theorem ok26 (l : List Zn) (t : Bool) (hl : SmallZ l) : FnC Try.prog 26 [] [.lst 6 t (rowsZ l)] (.int .i64 (freeF l)) [] := by
  have hlen := hl.len
  refine fn_okC (ob0 := []) (rc := rc26) (rvs := rv26) Try.func26 rfl rcq26 rvq26 (show 1 ≤ _ by decide) ?_
  generalize hk : freeF l = q
  repeat ((conv => whnf); first | refine Cd.seq ?_ | refine Cd.cut ?_ | refine Cd.reg ?_ | refine Cd.block ?_ | refine Cd.cond ?_ | refine Cd.dreg ?_ | refine Cd.skip ?_ | refine Cd.ret ?_ | refine Cd.exit ?_ | refine Cd.loop ?_ | refine ⟨rfl, ?_⟩ | refine ⟨Nat.le_of_ble_eq_true rfl, ?_⟩ | refine ⟨.inl rfl, ?_⟩ | refine ⟨fun h => Bool.noConfusion h, ?_⟩ | refine .inl ⟨_, fun _ => ⟨purA rfl, (by first | exact ok23 l t hl)⟩, .inl rfl, ?_⟩)
  conv => whnf
  refine ⟨fun h1 => ?_, fun h1 => ?_⟩
  case' refine_2 =>
    simp only [freeF, h1, cond_false] at hk
    subst hk
    repeat ((conv => whnf); first | refine Cd.seq ?_ | refine Cd.cut ?_ | refine Cd.reg ?_ | refine Cd.block ?_ | refine Cd.cond ?_ | refine Cd.dreg ?_ | refine Cd.skip ?_ | refine Cd.ret ?_ | refine Cd.exit ?_ | refine Cd.loop ?_ | refine ⟨rfl, ?_⟩ | refine ⟨Nat.le_of_ble_eq_true rfl, ?_⟩ | refine ⟨.inl rfl, ?_⟩ | refine ⟨fun h => Bool.noConfusion h, ?_⟩)
    conv => whnf
    refine ⟨[], ?_, rfl, trivial, rfl, ?_⟩
    · exact trivial
    try subst hk
    repeat' (first | exact trivial | rfl | exact .inl rfl | exact .inr rfl | exact id | exact (fun h => Bool.noConfusion h) | refine And.intro ?_ ?_)
  simp only [freeF, h1, cond_true] at hk
  repeat ((conv => whnf); first | refine Cd.seq ?_ | refine Cd.cut ?_ | refine Cd.reg ?_ | refine Cd.block ?_ | refine Cd.cond ?_ | refine Cd.dreg ?_ | refine Cd.skip ?_ | refine Cd.ret ?_ | refine Cd.exit ?_ | refine Cd.loop ?_ | refine ⟨rfl, ?_⟩ | refine ⟨Nat.le_of_ble_eq_true rfl, ?_⟩ | refine ⟨.inl rfl, ?_⟩ | refine ⟨fun h => Bool.noConfusion h, ?_⟩)
  conv => whnf
  refine ⟨Nat × Int, fun p => p.1 ≤ l.length ∧ p.2 + sumZ freeG (l.drop p.1) = q ∧ 0 ≤ p.2 ∧ p.2 ≤ 100000 * (p.1 : Int), fun p => ⟨[(0, ⟨[], true, .lst 6 t (rowsZ l)⟩), (2, ⟨[], true, .int .i64 0⟩), (3, ⟨[], true, .int .i64 p.2⟩), (4, ⟨[], true, .int .i64 (p.1 : Int)⟩)], [], 0⟩, fun p => l.length - p.1, ⟨(0, 0), ⟨by simp, by simpa using hk, by simp, by simp⟩, ?_⟩, fun p hI => ?_⟩
  · refine viewI [] rfl rfl ?_ rfl ?_ rfl ?_
    repeat' (first | exact trivial | rfl | exact .inl rfl | exact .inr rfl | exact id | exact (fun h => Bool.noConfusion h) | refine And.intro ?_ ?_)
  obtain ⟨i, s⟩ := p
  obtain ⟨hI1, hI2, hI3, hI4⟩ := hI
  simp only at hI1 hI2 hI3 hI4
  repeat ((conv => whnf); first | refine Cd.seq ?_ | refine Cd.cut ?_ | refine Cd.reg ?_ | refine Cd.block ?_ | refine Cd.cond ?_ | refine Cd.dreg ?_ | refine Cd.skip ?_ | refine Cd.ret ?_ | refine Cd.exit ?_ | refine Cd.loop ?_ | refine ⟨rfl, ?_⟩ | refine ⟨Nat.le_of_ble_eq_true rfl, ?_⟩ | refine ⟨.inl rfl, ?_⟩ | refine ⟨fun h => Bool.noConfusion h, ?_⟩)
  conv => whnf
  rw [rowsZ_len]
  refine ⟨fun h3 => ?_, fun h3 => ?_⟩ <;> try simp only [Bool.cond_true_left, Bool.cond_false_right, Bool.not_eq_true', Bool.not_eq_false', Bool.not_not] at h3
  · have h3 : i < l.length := by simp at h3; omega
    have hf := freeG_in hl h3
    have hst : sumZ freeG (l.drop i) = freeG l[i] + sumZ freeG (l.drop (i + 1)) := by rw [List.drop_eq_getElem_cons h3]; rfl
    rw [hst] at hI2
    repeat ((conv => whnf); first | refine Cd.seq ?_ | refine Cd.cut ?_ | refine Cd.reg ?_ | refine Cd.block ?_ | refine Cd.cond ?_ | refine Cd.dreg ?_ | refine Cd.skip ?_ | refine Cd.ret ?_ | refine Cd.exit ?_ | refine Cd.loop ?_ | refine ⟨rfl, ?_⟩ | refine ⟨Nat.le_of_ble_eq_true rfl, ?_⟩ | refine ⟨.inl rfl, ?_⟩ | refine ⟨fun h => Bool.noConfusion h, ?_⟩)
    conv => whnf
    refine ⟨fun _ => ⟨rfl, by omega, by rw [rowsZ_len]; omega⟩, ?_⟩
    rw [Int.toNat_natCast, rowsZ_get l i h3]
    generalize l[i] = z at hI2 hf
    repeat ((conv => whnf); first | refine Cd.seq ?_ | refine Cd.cut ?_ | refine Cd.reg ?_ | refine Cd.block ?_ | refine Cd.cond ?_ | refine Cd.dreg ?_ | refine Cd.skip ?_ | refine Cd.ret ?_ | refine Cd.exit ?_ | refine Cd.loop ?_ | refine ⟨rfl, ?_⟩ | refine ⟨Nat.le_of_ble_eq_true rfl, ?_⟩ | refine ⟨.inl rfl, ?_⟩ | refine ⟨fun h => Bool.noConfusion h, ?_⟩)
    conv => whnf
    rw [rowsI_len]
    unfold freeG at hI2 hf
    rw [wrapI (n := s + (z.free.length : Int)) (by omega) (by omega), wrapI (n := (i : Int) + 1) (by omega) (by omega), show ((i : Int) + 1) = ((i + 1 : Nat) : Int) by omega]
    refine ⟨(i + 1, s + (z.free.length : Int)), ⟨by show i + 1 ≤ _; omega, by show s + (z.free.length : Int) + sumZ freeG (l.drop (i + 1)) = q; unfold freeG; omega, by show 0 ≤ s + (z.free.length : Int); omega, by show s + (z.free.length : Int) ≤ 100000 * ((i + 1 : Nat) : Int); omega⟩, ?_, by show l.length - (i + 1) < l.length - i; omega⟩
    refine viewI [] rfl rfl ?_ rfl ?_ rfl ?_
    repeat' (first | exact trivial | rfl | exact .inl rfl | exact .inr rfl | exact id | exact (fun h => Bool.noConfusion h) | refine And.intro ?_ ?_)
  have h3 : i = l.length := by simp at h3; omega
  rw [h3, List.drop_length, sumZ, Int.add_zero] at hI2
  subst hI2
  repeat ((conv => whnf); first | refine Cd.seq ?_ | refine Cd.cut ?_ | refine Cd.reg ?_ | refine Cd.block ?_ | refine Cd.cond ?_ | refine Cd.dreg ?_ | refine Cd.skip ?_ | refine Cd.ret ?_ | refine Cd.exit ?_ | refine Cd.loop ?_ | refine ⟨rfl, ?_⟩ | refine ⟨Nat.le_of_ble_eq_true rfl, ?_⟩ | refine ⟨.inl rfl, ?_⟩ | refine ⟨fun h => Bool.noConfusion h, ?_⟩)
  conv => whnf
  refine ⟨[], ?_, rfl, trivial, rfl, ?_⟩
  · exact trivial
  try subst hk
  repeat' (first | exact trivial | rfl | exact .inl rfl | exact .inr rfl | exact id | exact (fun h => Bool.noConfusion h) | refine And.intro ?_ ?_)
theorem wantG_in {l : List Zn} (hg : ∀ z ∈ l, GoodZ z) {i : Nat} (h : i < l.length) : 0 ≤ wantG l[i] ∧ wantG l[i] ≤ 64 ∧ l[i].high ≤ 64 ∧ 0 ≤ l[i].high := by
  have g := hg _ (List.getElem_mem h)
  have := g.marks
  have := g.size
  unfold wantG; omega
set_option maxRecDepth 20000 in
theorem ok29 (l : List Zn) (t : Bool) (hl : SmallZ l) : FnC Try.prog 29 [] [.lst 6 t (rowsZ l)] (.int .i64 (wantF l)) [] := by
  have hlen := hl.len
  refine fn_okC (ob0 := []) (rc := rc29) (rvs := rv29) Try.func29 rfl rcq29 rvq29 (show 1 ≤ _ by decide) ?_
  generalize hk : wantF l = q
  repeat ((conv => whnf); first | refine Cd.seq ?_ | refine Cd.cut ?_ | refine Cd.reg ?_ | refine Cd.block ?_ | refine Cd.cond ?_ | refine Cd.dreg ?_ | refine Cd.skip ?_ | refine Cd.ret ?_ | refine Cd.exit ?_ | refine Cd.loop ?_ | refine ⟨rfl, ?_⟩ | refine ⟨Nat.le_of_ble_eq_true rfl, ?_⟩ | refine ⟨.inl rfl, ?_⟩ | refine ⟨fun h => Bool.noConfusion h, ?_⟩ | refine .inl ⟨_, fun _ => ⟨purA rfl, (by first | exact ok22 l t hl)⟩, .inl rfl, ?_⟩)
  conv => whnf
  refine ⟨fun h1 => ?_, fun h1 => ?_⟩ <;> try simp only [Bool.cond_true_left, Bool.cond_false_right, Bool.not_eq_true', Bool.not_eq_false', Bool.not_not] at h1
  · have h1 : checkZ l = false := by simpa using h1
    simp only [wantF, h1, cond_false] at hk
    subst hk
    repeat ((conv => whnf); first | refine Cd.seq ?_ | refine Cd.cut ?_ | refine Cd.reg ?_ | refine Cd.block ?_ | refine Cd.cond ?_ | refine Cd.dreg ?_ | refine Cd.skip ?_ | refine Cd.ret ?_ | refine Cd.exit ?_ | refine Cd.loop ?_ | refine ⟨rfl, ?_⟩ | refine ⟨Nat.le_of_ble_eq_true rfl, ?_⟩ | refine ⟨.inl rfl, ?_⟩ | refine ⟨fun h => Bool.noConfusion h, ?_⟩)
    conv => whnf
    refine ⟨[], ?_, rfl, trivial, rfl, ?_⟩
    · exact trivial
    try subst hk
    repeat' (first | exact trivial | rfl | exact .inl rfl | exact .inr rfl | exact id | exact (fun h => Bool.noConfusion h) | refine And.intro ?_ ?_)
  have h1 : checkZ l = true := by simpa using h1
  have hg := check_good h1
  simp only [wantF, h1, cond_true] at hk
  repeat ((conv => whnf); first | refine Cd.seq ?_ | refine Cd.cut ?_ | refine Cd.reg ?_ | refine Cd.block ?_ | refine Cd.cond ?_ | refine Cd.dreg ?_ | refine Cd.skip ?_ | refine Cd.ret ?_ | refine Cd.exit ?_ | refine Cd.loop ?_ | refine ⟨rfl, ?_⟩ | refine ⟨Nat.le_of_ble_eq_true rfl, ?_⟩ | refine ⟨.inl rfl, ?_⟩ | refine ⟨fun h => Bool.noConfusion h, ?_⟩)
  conv => whnf
  rw [rowsZ_len]
  refine ⟨Nat × Int, fun p => p.1 ≤ l.length ∧ p.2 + sumZ wantG (l.drop p.1) = q ∧ 0 ≤ p.2 ∧ p.2 ≤ 100000 * (p.1 : Int), fun p => ⟨[(2, ⟨[], true, .int .i64 0⟩), (3, ⟨[], true, .int .i64 p.2⟩), (9, ⟨[], true, .lst 6 t (rowsZ l)⟩), (10, ⟨[], true, .int .i64 (l.length : Int)⟩), (11, ⟨[], true, .int .i64 (p.1 : Int)⟩)], [], 0⟩, fun p => l.length - p.1, ⟨(0, 0), ⟨by simp, by simpa using hk, by simp, by simp⟩, ?_⟩, fun p hI => ?_⟩
  · refine viewI [] rfl rfl ?_ rfl ?_ rfl ?_
    repeat' (first | exact trivial | rfl | exact .inl rfl | exact .inr rfl | exact id | exact (fun h => Bool.noConfusion h) | refine And.intro ?_ ?_)
  obtain ⟨i, s⟩ := p
  obtain ⟨hI1, hI2, hI3, hI4⟩ := hI
  simp only at hI1 hI2 hI3 hI4
  repeat ((conv => whnf); first | refine Cd.seq ?_ | refine Cd.cut ?_ | refine Cd.reg ?_ | refine Cd.block ?_ | refine Cd.cond ?_ | refine Cd.dreg ?_ | refine Cd.skip ?_ | refine Cd.ret ?_ | refine Cd.exit ?_ | refine Cd.loop ?_ | refine ⟨rfl, ?_⟩ | refine ⟨Nat.le_of_ble_eq_true rfl, ?_⟩ | refine ⟨.inl rfl, ?_⟩ | refine ⟨fun h => Bool.noConfusion h, ?_⟩)
  conv => whnf
  refine ⟨fun h3 => ?_, fun h3 => ?_⟩ <;> try simp only [Bool.cond_true_left, Bool.cond_false_right, Bool.not_eq_true', Bool.not_eq_false', Bool.not_not] at h3
  · have h3 : i < l.length := by simp at h3; omega
    have hf := wantG_in hg h3
    have hs := freeG_in hl h3
    have hst : sumZ wantG (l.drop i) = wantG l[i] + sumZ wantG (l.drop (i + 1)) := by rw [List.drop_eq_getElem_cons h3]; rfl
    rw [hst] at hI2
    repeat ((conv => whnf); first | refine Cd.seq ?_ | refine Cd.cut ?_ | refine Cd.reg ?_ | refine Cd.block ?_ | refine Cd.cond ?_ | refine Cd.dreg ?_ | refine Cd.skip ?_ | refine Cd.ret ?_ | refine Cd.exit ?_ | refine Cd.loop ?_ | refine ⟨rfl, ?_⟩ | refine ⟨Nat.le_of_ble_eq_true rfl, ?_⟩ | refine ⟨.inl rfl, ?_⟩ | refine ⟨fun h => Bool.noConfusion h, ?_⟩)
    conv => whnf
    refine ⟨fun _ => ⟨rfl, by omega, by rw [rowsZ_len]; omega⟩, ?_⟩
    rw [Int.toNat_natCast, rowsZ_get l i h3]
    generalize l[i] = z at hI2 hf hs
    unfold freeG at hs
    repeat ((conv => whnf); first | refine Cd.seq ?_ | refine Cd.cut ?_ | refine Cd.reg ?_ | refine Cd.block ?_ | refine Cd.cond ?_ | refine Cd.dreg ?_ | refine Cd.skip ?_ | refine Cd.ret ?_ | refine Cd.exit ?_ | refine Cd.loop ?_ | refine ⟨rfl, ?_⟩ | refine ⟨Nat.le_of_ble_eq_true rfl, ?_⟩ | refine ⟨.inl rfl, ?_⟩ | refine ⟨fun h => Bool.noConfusion h, ?_⟩)
    conv => whnf
    rw [rowsI_len, wrapI (n := z.high - (z.free.length : Int)) (by omega) (by omega)]
    have e : max 0 (z.high - (z.free.length : Int)) = wantG z := rfl
    rw [e, wrapI (n := s + wantG z) (by omega) (by omega), wrapI (n := (i : Int) + 1) (by omega) (by omega), show ((i : Int) + 1) = ((i + 1 : Nat) : Int) by omega]
    refine ⟨(i + 1, s + wantG z), ⟨by show i + 1 ≤ _; omega, by show s + wantG z + sumZ wantG (l.drop (i + 1)) = q; omega, by show 0 ≤ s + wantG z; omega, by show s + wantG z ≤ 100000 * ((i + 1 : Nat) : Int); omega⟩, ?_, by show l.length - (i + 1) < l.length - i; omega⟩
    refine viewI [] rfl rfl ?_ rfl ?_ rfl ?_
    repeat' (first | exact trivial | rfl | exact .inl rfl | exact .inr rfl | exact id | exact (fun h => Bool.noConfusion h) | refine And.intro ?_ ?_)
  have h3 : i = l.length := by simp at h3; omega
  rw [h3, List.drop_length, sumZ, Int.add_zero] at hI2
  subst hI2
  repeat ((conv => whnf); first | refine Cd.seq ?_ | refine Cd.cut ?_ | refine Cd.reg ?_ | refine Cd.block ?_ | refine Cd.cond ?_ | refine Cd.dreg ?_ | refine Cd.skip ?_ | refine Cd.ret ?_ | refine Cd.exit ?_ | refine Cd.loop ?_ | refine ⟨rfl, ?_⟩ | refine ⟨Nat.le_of_ble_eq_true rfl, ?_⟩ | refine ⟨.inl rfl, ?_⟩ | refine ⟨fun h => Bool.noConfusion h, ?_⟩)
  conv => whnf
  refine ⟨[], ?_, rfl, trivial, rfl, ?_⟩
  · exact trivial
  try subst hk
  repeat' (first | exact trivial | rfl | exact .inl rfl | exact .inr rfl | exact id | exact (fun h => Bool.noConfusion h) | refine And.intro ?_ ?_)
set_option maxRecDepth 20000 in
theorem ok30 (l : List Zn) (t : Bool) (hl : SmallZ l) : FnC Try.prog 30 [] [.lst 6 t (rowsZ l)] (.int .i64 (wantF l)) [] := by
  have hlen := hl.len
  refine fn_okC (ob0 := []) (rc := rc30) (rvs := rv30) Try.func30 rfl rcq30 rvq30 (show 1 ≤ _ by decide) ?_
  generalize hk : wantF l = q
  repeat ((conv => whnf); first | refine Cd.seq ?_ | refine Cd.cut ?_ | refine Cd.reg ?_ | refine Cd.block ?_ | refine Cd.cond ?_ | refine Cd.dreg ?_ | refine Cd.skip ?_ | refine Cd.ret ?_ | refine Cd.exit ?_ | refine Cd.loop ?_ | refine ⟨rfl, ?_⟩ | refine ⟨Nat.le_of_ble_eq_true rfl, ?_⟩ | refine ⟨.inl rfl, ?_⟩ | refine ⟨fun h => Bool.noConfusion h, ?_⟩ | refine .inl ⟨_, fun _ => ⟨purA rfl, (by first | exact ok23 l t hl)⟩, .inl rfl, ?_⟩)
  conv => whnf
  refine ⟨fun h1 => ?_, fun h1 => ?_⟩
  case' refine_2 =>
    simp only [wantF, h1, cond_false] at hk
    subst hk
    repeat ((conv => whnf); first | refine Cd.seq ?_ | refine Cd.cut ?_ | refine Cd.reg ?_ | refine Cd.block ?_ | refine Cd.cond ?_ | refine Cd.dreg ?_ | refine Cd.skip ?_ | refine Cd.ret ?_ | refine Cd.exit ?_ | refine Cd.loop ?_ | refine ⟨rfl, ?_⟩ | refine ⟨Nat.le_of_ble_eq_true rfl, ?_⟩ | refine ⟨.inl rfl, ?_⟩ | refine ⟨fun h => Bool.noConfusion h, ?_⟩)
    conv => whnf
    refine ⟨[], ?_, rfl, trivial, rfl, ?_⟩
    · exact trivial
    try subst hk
    repeat' (first | exact trivial | rfl | exact .inl rfl | exact .inr rfl | exact id | exact (fun h => Bool.noConfusion h) | refine And.intro ?_ ?_)
  have hg := check_good h1
  simp only [wantF, h1, cond_true] at hk
  repeat ((conv => whnf); first | refine Cd.seq ?_ | refine Cd.cut ?_ | refine Cd.reg ?_ | refine Cd.block ?_ | refine Cd.cond ?_ | refine Cd.dreg ?_ | refine Cd.skip ?_ | refine Cd.ret ?_ | refine Cd.exit ?_ | refine Cd.loop ?_ | refine ⟨rfl, ?_⟩ | refine ⟨Nat.le_of_ble_eq_true rfl, ?_⟩ | refine ⟨.inl rfl, ?_⟩ | refine ⟨fun h => Bool.noConfusion h, ?_⟩)
  conv => whnf
  refine ⟨Nat × Int, fun p => p.1 ≤ l.length ∧ p.2 + sumZ wantG (l.drop p.1) = q ∧ 0 ≤ p.2 ∧ p.2 ≤ 100000 * (p.1 : Int), fun p => ⟨[(0, ⟨[], true, .lst 6 t (rowsZ l)⟩), (2, ⟨[], true, .int .i64 0⟩), (3, ⟨[], true, .int .i64 p.2⟩), (4, ⟨[], true, .int .i64 (p.1 : Int)⟩)], [], 0⟩, fun p => l.length - p.1, ⟨(0, 0), ⟨by simp, by simpa using hk, by simp, by simp⟩, ?_⟩, fun p hI => ?_⟩
  · refine viewI [] rfl rfl ?_ rfl ?_ rfl ?_
    repeat' (first | exact trivial | rfl | exact .inl rfl | exact .inr rfl | exact id | exact (fun h => Bool.noConfusion h) | refine And.intro ?_ ?_)
  obtain ⟨i, s⟩ := p
  obtain ⟨hI1, hI2, hI3, hI4⟩ := hI
  simp only at hI1 hI2 hI3 hI4
  repeat ((conv => whnf); first | refine Cd.seq ?_ | refine Cd.cut ?_ | refine Cd.reg ?_ | refine Cd.block ?_ | refine Cd.cond ?_ | refine Cd.dreg ?_ | refine Cd.skip ?_ | refine Cd.ret ?_ | refine Cd.exit ?_ | refine Cd.loop ?_ | refine ⟨rfl, ?_⟩ | refine ⟨Nat.le_of_ble_eq_true rfl, ?_⟩ | refine ⟨.inl rfl, ?_⟩ | refine ⟨fun h => Bool.noConfusion h, ?_⟩)
  conv => whnf
  rw [rowsZ_len]
  refine ⟨fun h3 => ?_, fun h3 => ?_⟩ <;> try simp only [Bool.cond_true_left, Bool.cond_false_right, Bool.not_eq_true', Bool.not_eq_false', Bool.not_not] at h3
  · have h3 : i < l.length := by simp at h3; omega
    have hf := wantG_in hg h3
    have hs := freeG_in hl h3
    have hst : sumZ wantG (l.drop i) = wantG l[i] + sumZ wantG (l.drop (i + 1)) := by rw [List.drop_eq_getElem_cons h3]; rfl
    rw [hst] at hI2
    repeat ((conv => whnf); first | refine Cd.seq ?_ | refine Cd.cut ?_ | refine Cd.reg ?_ | refine Cd.block ?_ | refine Cd.cond ?_ | refine Cd.dreg ?_ | refine Cd.skip ?_ | refine Cd.ret ?_ | refine Cd.exit ?_ | refine Cd.loop ?_ | refine ⟨rfl, ?_⟩ | refine ⟨Nat.le_of_ble_eq_true rfl, ?_⟩ | refine ⟨.inl rfl, ?_⟩ | refine ⟨fun h => Bool.noConfusion h, ?_⟩)
    conv => whnf
    refine ⟨fun _ => ⟨rfl, by omega, by rw [rowsZ_len]; omega⟩, ?_⟩
    rw [Int.toNat_natCast, rowsZ_get l i h3]
    repeat ((conv => whnf); first | refine Cd.seq ?_ | refine Cd.cut ?_ | refine Cd.reg ?_ | refine Cd.block ?_ | refine Cd.cond ?_ | refine Cd.dreg ?_ | refine Cd.skip ?_ | refine Cd.ret ?_ | refine Cd.exit ?_ | refine Cd.loop ?_ | refine ⟨rfl, ?_⟩ | refine ⟨Nat.le_of_ble_eq_true rfl, ?_⟩ | refine ⟨.inl rfl, ?_⟩ | refine ⟨fun h => Bool.noConfusion h, ?_⟩)
    conv => whnf
    refine ⟨fun _ => ⟨rfl, by omega, by rw [rowsZ_len]; omega⟩, ?_⟩
    rw [Int.toNat_natCast, rowsZ_get l i h3]
    generalize l[i] = z at hI2 hf hs
    unfold freeG at hs
    repeat ((conv => whnf); first | refine Cd.seq ?_ | refine Cd.cut ?_ | refine Cd.reg ?_ | refine Cd.block ?_ | refine Cd.cond ?_ | refine Cd.dreg ?_ | refine Cd.skip ?_ | refine Cd.ret ?_ | refine Cd.exit ?_ | refine Cd.loop ?_ | refine ⟨rfl, ?_⟩ | refine ⟨Nat.le_of_ble_eq_true rfl, ?_⟩ | refine ⟨.inl rfl, ?_⟩ | refine ⟨fun h => Bool.noConfusion h, ?_⟩)
    conv => whnf
    rw [rowsI_len, wrapI (n := z.high - (z.free.length : Int)) (by omega) (by omega)]
    have e : max (z.high - (z.free.length : Int)) 0 = wantG z := Int.max_comm _ _
    rw [e, wrapI (n := s + wantG z) (by omega) (by omega), wrapI (n := (i : Int) + 1) (by omega) (by omega), show ((i : Int) + 1) = ((i + 1 : Nat) : Int) by omega]
    refine ⟨(i + 1, s + wantG z), ⟨by show i + 1 ≤ _; omega, by show s + wantG z + sumZ wantG (l.drop (i + 1)) = q; omega, by show 0 ≤ s + wantG z; omega, by show s + wantG z ≤ 100000 * ((i + 1 : Nat) : Int); omega⟩, ?_, by show l.length - (i + 1) < l.length - i; omega⟩
    refine viewI [] rfl rfl ?_ rfl ?_ rfl ?_
    repeat' (first | exact trivial | rfl | exact .inl rfl | exact .inr rfl | exact id | exact (fun h => Bool.noConfusion h) | refine And.intro ?_ ?_)
  have h3 : i = l.length := by simp at h3; omega
  rw [h3, List.drop_length, sumZ, Int.add_zero] at hI2
  subst hI2
  repeat ((conv => whnf); first | refine Cd.seq ?_ | refine Cd.cut ?_ | refine Cd.reg ?_ | refine Cd.block ?_ | refine Cd.cond ?_ | refine Cd.dreg ?_ | refine Cd.skip ?_ | refine Cd.ret ?_ | refine Cd.exit ?_ | refine Cd.loop ?_ | refine ⟨rfl, ?_⟩ | refine ⟨Nat.le_of_ble_eq_true rfl, ?_⟩ | refine ⟨.inl rfl, ?_⟩ | refine ⟨fun h => Bool.noConfusion h, ?_⟩)
  conv => whnf
  refine ⟨[], ?_, rfl, trivial, rfl, ?_⟩
  · exact trivial
  try subst hk
  repeat' (first | exact trivial | rfl | exact .inl rfl | exact .inr rfl | exact id | exact (fun h => Bool.noConfusion h) | refine And.intro ?_ ?_)
theorem ok64 (z : Zn) : FnC Try.prog 64 [] [.agg z.c] (.bool (lowG z)) [] := by
  refine fn_okC (ob0 := []) (rc := rc64) (rvs := rv64) Try.func64 rfl rcq64 rvq64 (show 1 ≤ _ by decide) ?_
  repeat ((conv => whnf); first | refine Cd.seq ?_ | refine Cd.cut ?_ | refine Cd.reg ?_ | refine Cd.block ?_ | refine Cd.cond ?_ | refine Cd.dreg ?_ | refine Cd.skip ?_ | refine Cd.ret ?_ | refine Cd.exit ?_ | refine Cd.loop ?_ | refine ⟨rfl, ?_⟩ | refine ⟨Nat.le_of_ble_eq_true rfl, ?_⟩ | refine ⟨.inl rfl, ?_⟩ | refine ⟨fun h => Bool.noConfusion h, ?_⟩)
  conv => whnf
  rw [rowsI_len]
  repeat ((conv => whnf); first | refine Cd.seq ?_ | refine Cd.cut ?_ | refine Cd.reg ?_ | refine Cd.block ?_ | refine Cd.cond ?_ | refine Cd.dreg ?_ | refine Cd.skip ?_ | refine Cd.ret ?_ | refine Cd.exit ?_ | refine Cd.loop ?_ | refine ⟨rfl, ?_⟩ | refine ⟨Nat.le_of_ble_eq_true rfl, ?_⟩ | refine ⟨.inl rfl, ?_⟩ | refine ⟨fun h => Bool.noConfusion h, ?_⟩)
  conv => whnf
  refine ⟨[], ?_, rfl, trivial, rfl, ?_⟩
  · exact trivial
  try subst hk
  repeat' (first | exact trivial | rfl | exact .inl rfl | exact .inr rfl | exact id | exact (fun h => Bool.noConfusion h) | refine And.intro ?_ ?_)
theorem call64 : Callable Try.prog 64 := ⟨_, Try.func64, rfl, rfl⟩
theorem ok27 (l : List Zn) (t : Bool) (hl : SmallZ l) : FnC Try.prog 27 [] [.lst 6 t (rowsZ l)] (.bool (lowF l)) [] := by
  have hlen := hl.len
  refine fn_okC (ob0 := []) (rc := rc27) (rvs := rv27) Try.func27 rfl rcq27 rvq27 (show 1 ≤ _ by decide) ?_
  repeat ((conv => whnf); first | refine Cd.seq ?_ | refine Cd.cut ?_ | refine Cd.reg ?_ | refine Cd.block ?_ | refine Cd.cond ?_ | refine Cd.dreg ?_ | refine Cd.skip ?_ | refine Cd.ret ?_ | refine Cd.exit ?_ | refine Cd.loop ?_ | refine ⟨rfl, ?_⟩ | refine ⟨Nat.le_of_ble_eq_true rfl, ?_⟩ | refine ⟨.inl rfl, ?_⟩ | refine ⟨fun h => Bool.noConfusion h, ?_⟩ | refine .inl ⟨_, fun _ => ⟨purA rfl, (by first | exact ok22 l t hl | exact ok63 l t 64 lowG call64 ok64 (by omega))⟩, .inl rfl, ?_⟩)
  conv => whnf
  refine ⟨[], ?_, rfl, trivial, rfl, ?_⟩
  · exact trivial
  try subst hk
  repeat' (first | exact trivial | rfl | exact .inl rfl | exact .inr rfl | exact id | exact (fun h => Bool.noConfusion h) | refine And.intro ?_ ?_)
set_option maxRecDepth 20000 in
theorem ok28 (l : List Zn) (t : Bool) (hl : SmallZ l) : FnC Try.prog 28 [] [.lst 6 t (rowsZ l)] (.bool (lowF l)) [] := by
  have hlen := hl.len
  refine fn_okC (ob0 := []) (rc := rc28) (rvs := rv28) Try.func28 rfl rcq28 rvq28 (show 1 ≤ _ by decide) ?_
  generalize hk : lowF l = q
  repeat ((conv => whnf); first | refine Cd.seq ?_ | refine Cd.cut ?_ | refine Cd.reg ?_ | refine Cd.block ?_ | refine Cd.cond ?_ | refine Cd.dreg ?_ | refine Cd.skip ?_ | refine Cd.ret ?_ | refine Cd.exit ?_ | refine Cd.loop ?_ | refine ⟨rfl, ?_⟩ | refine ⟨Nat.le_of_ble_eq_true rfl, ?_⟩ | refine ⟨.inl rfl, ?_⟩ | refine ⟨fun h => Bool.noConfusion h, ?_⟩ | refine .inl ⟨_, fun _ => ⟨purA rfl, (by first | exact ok23 l t hl)⟩, .inl rfl, ?_⟩)
  conv => whnf
  refine ⟨fun h1 => ?_, fun h1 => ?_⟩ <;> try simp only [Bool.cond_true_left, Bool.cond_false_right, Bool.not_eq_true', Bool.not_eq_false', Bool.not_not] at h1
  · have h1 : checkZ l = false := by simpa using h1
    simp only [lowF, h1, cond_false] at hk
    subst hk
    repeat ((conv => whnf); first | refine Cd.seq ?_ | refine Cd.cut ?_ | refine Cd.reg ?_ | refine Cd.block ?_ | refine Cd.cond ?_ | refine Cd.dreg ?_ | refine Cd.skip ?_ | refine Cd.ret ?_ | refine Cd.exit ?_ | refine Cd.loop ?_ | refine ⟨rfl, ?_⟩ | refine ⟨Nat.le_of_ble_eq_true rfl, ?_⟩ | refine ⟨.inl rfl, ?_⟩ | refine ⟨fun h => Bool.noConfusion h, ?_⟩)
    conv => whnf
    refine ⟨[], ?_, rfl, trivial, rfl, ?_⟩
    · exact trivial
    try subst hk
    repeat' (first | exact trivial | rfl | exact .inl rfl | exact .inr rfl | exact id | exact (fun h => Bool.noConfusion h) | refine And.intro ?_ ?_)
  have h1 : checkZ l = true := by simpa using h1
  simp only [lowF, h1, cond_true] at hk
  repeat ((conv => whnf); first | refine Cd.seq ?_ | refine Cd.cut ?_ | refine Cd.reg ?_ | refine Cd.block ?_ | refine Cd.cond ?_ | refine Cd.dreg ?_ | refine Cd.skip ?_ | refine Cd.ret ?_ | refine Cd.exit ?_ | refine Cd.loop ?_ | refine ⟨rfl, ?_⟩ | refine ⟨Nat.le_of_ble_eq_true rfl, ?_⟩ | refine ⟨.inl rfl, ?_⟩ | refine ⟨fun h => Bool.noConfusion h, ?_⟩)
  conv => whnf
  refine ⟨Nat, fun i => i ≤ l.length ∧ ∀ j (hj : j < i) (h : j < l.length), lowG l[j] = false, fun i => ⟨[(0, ⟨[], true, .lst 6 t (rowsZ l)⟩), (2, ⟨[], true, .bool false⟩), (3, ⟨[], true, .int .i64 (i : Int)⟩)], [], 0⟩, fun i => l.length - i, ⟨0, ⟨by omega, fun j hj => by omega⟩, ?_⟩, fun i hI => ?_⟩
  · refine viewI [] rfl rfl ?_ rfl ?_ rfl ?_
    repeat' (first | exact trivial | rfl | exact .inl rfl | exact .inr rfl | exact id | exact (fun h => Bool.noConfusion h) | refine And.intro ?_ ?_)
  obtain ⟨hI1, hI2⟩ := hI
  repeat ((conv => whnf); first | refine Cd.seq ?_ | refine Cd.cut ?_ | refine Cd.reg ?_ | refine Cd.block ?_ | refine Cd.cond ?_ | refine Cd.dreg ?_ | refine Cd.skip ?_ | refine Cd.ret ?_ | refine Cd.exit ?_ | refine Cd.loop ?_ | refine ⟨rfl, ?_⟩ | refine ⟨Nat.le_of_ble_eq_true rfl, ?_⟩ | refine ⟨.inl rfl, ?_⟩ | refine ⟨fun h => Bool.noConfusion h, ?_⟩)
  conv => whnf
  rw [rowsZ_len]
  refine ⟨fun h3 => ?_, fun h3 => ?_⟩ <;> try simp only [Bool.cond_true_left, Bool.cond_false_right, Bool.not_eq_true', Bool.not_eq_false', Bool.not_not] at h3
  · have h3 : i < l.length := by simp at h3; omega
    repeat ((conv => whnf); first | refine Cd.seq ?_ | refine Cd.cut ?_ | refine Cd.reg ?_ | refine Cd.block ?_ | refine Cd.cond ?_ | refine Cd.dreg ?_ | refine Cd.skip ?_ | refine Cd.ret ?_ | refine Cd.exit ?_ | refine Cd.loop ?_ | refine ⟨rfl, ?_⟩ | refine ⟨Nat.le_of_ble_eq_true rfl, ?_⟩ | refine ⟨.inl rfl, ?_⟩ | refine ⟨fun h => Bool.noConfusion h, ?_⟩)
    conv => whnf
    refine ⟨fun _ => ⟨rfl, by omega, by rw [rowsZ_len]; omega⟩, ?_⟩
    rw [Int.toNat_natCast, rowsZ_get l i h3]
    repeat ((conv => whnf); first | refine Cd.seq ?_ | refine Cd.cut ?_ | refine Cd.reg ?_ | refine Cd.block ?_ | refine Cd.cond ?_ | refine Cd.dreg ?_ | refine Cd.skip ?_ | refine Cd.ret ?_ | refine Cd.exit ?_ | refine Cd.loop ?_ | refine ⟨rfl, ?_⟩ | refine ⟨Nat.le_of_ble_eq_true rfl, ?_⟩ | refine ⟨.inl rfl, ?_⟩ | refine ⟨fun h => Bool.noConfusion h, ?_⟩)
    conv => whnf
    refine ⟨fun _ => ⟨rfl, by omega, by rw [rowsZ_len]; omega⟩, ?_⟩
    rw [Int.toNat_natCast, rowsZ_get l i h3]
    repeat ((conv => whnf); first | refine Cd.seq ?_ | refine Cd.cut ?_ | refine Cd.reg ?_ | refine Cd.block ?_ | refine Cd.cond ?_ | refine Cd.dreg ?_ | refine Cd.skip ?_ | refine Cd.ret ?_ | refine Cd.exit ?_ | refine Cd.loop ?_ | refine ⟨rfl, ?_⟩ | refine ⟨Nat.le_of_ble_eq_true rfl, ?_⟩ | refine ⟨.inl rfl, ?_⟩ | refine ⟨fun h => Bool.noConfusion h, ?_⟩)
    conv => whnf
    rw [rowsI_len]
    refine ⟨fun h4 => ?_, fun h4 => ?_⟩ <;> try simp only [Bool.cond_true_left, Bool.cond_false_right, Bool.not_eq_true', Bool.not_eq_false', Bool.not_not] at h4
    · have h4 : lowG l[i] = true := h4
      rw [idxF_at lowG l i h3 (fun j hj => hI2 j hj (by omega)) h4, decide_eq_true (by omega)] at hk
      subst hk
      repeat ((conv => whnf); first | refine Cd.seq ?_ | refine Cd.cut ?_ | refine Cd.reg ?_ | refine Cd.block ?_ | refine Cd.cond ?_ | refine Cd.dreg ?_ | refine Cd.skip ?_ | refine Cd.ret ?_ | refine Cd.exit ?_ | refine Cd.loop ?_ | refine ⟨rfl, ?_⟩ | refine ⟨Nat.le_of_ble_eq_true rfl, ?_⟩ | refine ⟨.inl rfl, ?_⟩ | refine ⟨fun h => Bool.noConfusion h, ?_⟩)
      conv => whnf
      refine ⟨[], ?_, rfl, trivial, rfl, ?_⟩
      · exact trivial
      try subst hk
      repeat' (first | exact trivial | rfl | exact .inl rfl | exact .inr rfl | exact id | exact (fun h => Bool.noConfusion h) | refine And.intro ?_ ?_)
    have h4 : lowG l[i] = false := h4
    repeat ((conv => whnf); first | refine Cd.seq ?_ | refine Cd.cut ?_ | refine Cd.reg ?_ | refine Cd.block ?_ | refine Cd.cond ?_ | refine Cd.dreg ?_ | refine Cd.skip ?_ | refine Cd.ret ?_ | refine Cd.exit ?_ | refine Cd.loop ?_ | refine ⟨rfl, ?_⟩ | refine ⟨Nat.le_of_ble_eq_true rfl, ?_⟩ | refine ⟨.inl rfl, ?_⟩ | refine ⟨fun h => Bool.noConfusion h, ?_⟩)
    conv => whnf
    rw [wrapI (n := (i : Int) + 1) (by omega) (by omega), show ((i : Int) + 1) = ((i + 1 : Nat) : Int) by omega]
    refine ⟨i + 1, ⟨by omega, fun j hj h => ?_⟩, ?_, by show l.length - (i + 1) < l.length - i; omega⟩
    · by_cases e : j = i
      · subst e; exact h4
      · exact hI2 j (by omega) h
    refine viewI [] rfl rfl ?_ rfl ?_ rfl ?_
    repeat' (first | exact trivial | rfl | exact .inl rfl | exact .inr rfl | exact id | exact (fun h => Bool.noConfusion h) | refine And.intro ?_ ?_)
  have h3 : i = l.length := by simp at h3; omega
  rw [idxF_none lowG l fun y hy => by obtain ⟨j, hj, rfl⟩ := List.getElem_of_mem hy; exact hI2 j (by omega) hj, decide_eq_false (by omega)] at hk
  subst hk
  repeat ((conv => whnf); first | refine Cd.seq ?_ | refine Cd.cut ?_ | refine Cd.reg ?_ | refine Cd.block ?_ | refine Cd.cond ?_ | refine Cd.dreg ?_ | refine Cd.skip ?_ | refine Cd.ret ?_ | refine Cd.exit ?_ | refine Cd.loop ?_ | refine ⟨rfl, ?_⟩ | refine ⟨Nat.le_of_ble_eq_true rfl, ?_⟩ | refine ⟨.inl rfl, ?_⟩ | refine ⟨fun h => Bool.noConfusion h, ?_⟩)
  conv => whnf
  refine ⟨[], ?_, rfl, trivial, rfl, ?_⟩
  · exact trivial
  try subst hk
  repeat' (first | exact trivial | rfl | exact .inl rfl | exact .inr rfl | exact id | exact (fun h => Bool.noConfusion h) | refine And.intro ?_ ?_)
def inG (f : Int) (z : Zn) : Bool := bif decide (z.first ≤ f) then decide (f < endZ z) else false
set_option maxRecDepth 20000 in
theorem ok58 (z : Zn) (f : Int) : FnC Try.prog 58 [] [.agg z.c, .rp 1 [.int .i64 f] 0] (.bool (inG f z)) [] := by
  refine fn_okC (ob0 := []) (rc := rc58) (rvs := rv58) Try.func58 rfl rcq58 rvq58 (show 2 ≤ _ by decide) ?_
  repeat ((conv => whnf); first | refine Cd.seq ?_ | refine Cd.cut ?_ | refine Cd.reg ?_ | refine Cd.block ?_ | refine Cd.cond ?_ | refine Cd.dreg ?_ | refine Cd.skip ?_ | refine Cd.ret ?_ | refine Cd.exit ?_ | refine Cd.loop ?_ | refine ⟨rfl, ?_⟩ | refine ⟨Nat.le_of_ble_eq_true rfl, ?_⟩ | refine ⟨.inl rfl, ?_⟩ | refine ⟨fun h => Bool.noConfusion h, ?_⟩ | refine .inl ⟨_, fun _ => ⟨purA rfl, (by first | exact ok59 z)⟩, .inl rfl, ?_⟩)
  conv => whnf
  refine ⟨[], ?_, rfl, trivial, rfl, ?_⟩
  · exact trivial
  try subst hk
  repeat' (first | exact trivial | rfl | exact .inl rfl | exact .inr rfl | exact id | exact (fun h => Bool.noConfusion h) | refine And.intro ?_ ?_)
theorem call58 : Callable Try.prog 58 := ⟨_, Try.func58, rfl, rfl⟩
end Go.Proofs.Ytcifhjkodbaghaa
