/- Lru: LruKeeps as a contract. -/
import Derived.Test.YtcifhjkodbaghaaL7
set_option linter.unusedSimpArgs false
set_option linter.unusedVariables false
namespace Go.Proofs.Ytcifhjkodbaghaa
open Go Go.Sk Go.RowKit

/- pagecache/pagecachelaw08.LruKeeps -/
def rc11 : RC :=
  (.seq
  (.reg [⟨(some 4), none, (.mv (.c (.bool false)))⟩] [])
  (.seq
  (.reg [⟨(some 14), none, (.mv (.t 0))⟩,
    ⟨(some 15), none, (.build [(.lst 0 true []), (.int .i64 0)] [(0, (1, (.t 14)))])⟩,
    ⟨(some 16), none, (.box (.t 15))⟩,
    ⟨(some 17), none, (.call 53 [(.t 16)])⟩,
    ⟨(some 5), none, (.alloc [(.lst 0 true []), (.lst 0 true []), (.lst 0 true [])])⟩,
    ⟨none, none, (.st 3 (.t 5) (.t 17))⟩] [14, 15, 16, 17])
  (.cut
  (.reg [⟨(some 18), none, (.mv (.t 1))⟩,
    ⟨(some 19), none, (.build [(.lst 0 true []), (.int .i64 0)] [(0, (1, (.t 18)))])⟩,
    ⟨(some 20), none, (.box (.t 19))⟩,
    ⟨(some 6), none, (.mv (.t 20))⟩] [18, 19, 20])
  (.seq
  (.reg [⟨(some 7), none, (.alloc [(.bool false), (.bool false), (.bool false), (.bool false), (.bool false), (.bool false), (.bool false), (.bool false), (.bool false), (.bool false), (.bool false), (.bool false), (.bool false), (.bool false), (.bool false), (.bool false), (.bool false), (.bool false), (.bool false), (.bool false), (.bool false), (.bool false), (.bool false), (.bool false), (.bool false), (.bool false), (.bool false), (.bool false), (.bool false), (.bool false), (.bool false), (.bool false), (.bool false), (.bool false), (.bool false), (.bool false), (.bool false), (.bool false), (.bool false), (.bool false), (.bool false), (.bool false), (.bool false), (.bool false), (.bool false), (.bool false), (.bool false), (.bool false), (.bool false), (.bool false), (.bool false), (.bool false), (.bool false), (.bool false), (.bool false), (.bool false), (.bool false), (.bool false), (.bool false), (.bool false), (.bool false), (.bool false), (.bool false), (.bool false), (.bool false)])⟩] [])
  (.seq
  (.reg [⟨(some 21), none, (.faddr 0 (.t 5))⟩,
    ⟨(some 22), none, (.ld false 1 (.t 21))⟩,
    ⟨(some 23), none, (.len (.t 22))⟩,
    ⟨(some 24), none, (.faddr 1 (.t 5))⟩,
    ⟨(some 25), none, (.ld false 1 (.t 24))⟩,
    ⟨(some 26), none, (.len (.t 25))⟩,
    ⟨(some 27), none, (.bin .add (.t 23) (.t 26))⟩,
    ⟨(some 8), none, (.mv (.t 27))⟩] [21, 22, 23, 24, 25, 26, 27])
  (.seq
  (.seq
  (.reg [⟨(some 9), none, (.mv (.c (.int .i64 0)))⟩] [])
  (.block 0
   (.loop
    (.seq
    (.seq
    (.reg [⟨(some 28), none, (.mv (.t 9))⟩,
      ⟨(some 29), none, (.faddr 0 (.t 5))⟩,
      ⟨(some 30), none, (.ld false 1 (.t 29))⟩,
      ⟨(some 31), none, (.len (.t 30))⟩,
      ⟨(some 32), none, (.bin .lss (.t 28) (.t 31))⟩] [28, 29, 30, 31])
    (.cond (.t 32)
     .skip
     (.exit 0)))
    (.seq
    (.block 1
     (.reg [⟨(some 35), none, (.faddr 0 (.t 5))⟩,
       ⟨(some 36), none, (.ld false 1 (.t 35))⟩,
       ⟨(some 37), none, (.mv (.t 9))⟩,
       ⟨(some 38), none, (.iaddr 1 (.t 36) (.t 37))⟩,
       ⟨(some 39), none, (.ld false 1 (.t 38))⟩,
       ⟨(some 40), none, (.iarr 65 1 (.t 7) (.t 39))⟩,
       ⟨none, none, (.st 1 (.t 40) (.c (.bool true)))⟩] [35, 36, 37, 38, 39, 40]))
    (.reg [⟨(some 33), none, (.mv (.t 9))⟩,
      ⟨(some 34), none, (.bin .add (.t 33) (.c (.int .i64 1)))⟩,
      ⟨(some 9), none, (.mv (.t 34))⟩] [33, 34]))))))
  (.seq
  (.seq
  (.reg [⟨(some 10), none, (.mv (.c (.int .i64 0)))⟩] [])
  (.block 2
   (.loop
    (.seq
    (.seq
    (.reg [⟨(some 41), none, (.mv (.t 10))⟩,
      ⟨(some 42), none, (.faddr 1 (.t 5))⟩,
      ⟨(some 43), none, (.ld false 1 (.t 42))⟩,
      ⟨(some 44), none, (.len (.t 43))⟩,
      ⟨(some 45), none, (.bin .lss (.t 41) (.t 44))⟩] [41, 42, 43, 44])
    (.cond (.t 45)
     .skip
     (.exit 2)))
    (.seq
    (.block 3
     (.reg [⟨(some 48), none, (.faddr 1 (.t 5))⟩,
       ⟨(some 49), none, (.ld false 1 (.t 48))⟩,
       ⟨(some 50), none, (.mv (.t 10))⟩,
       ⟨(some 51), none, (.iaddr 1 (.t 49) (.t 50))⟩,
       ⟨(some 52), none, (.ld false 1 (.t 51))⟩,
       ⟨(some 53), none, (.iarr 65 1 (.t 7) (.t 52))⟩,
       ⟨none, none, (.st 1 (.t 53) (.c (.bool true)))⟩] [48, 49, 50, 51, 52, 53]))
    (.reg [⟨(some 46), none, (.mv (.t 10))⟩,
      ⟨(some 47), none, (.bin .add (.t 46) (.c (.int .i64 1)))⟩,
      ⟨(some 10), none, (.mv (.t 47))⟩] [46, 47]))))))
  (.seq
  (.seq
  (.reg [⟨(some 11), none, (.mv (.c (.int .i64 0)))⟩] [])
  (.block 4
   (.loop
    (.seq
    (.seq
    (.reg [⟨(some 54), none, (.mv (.t 11))⟩,
      ⟨(some 55), none, (.bin .lss (.t 54) (.c (.int .i64 8)))⟩] [54])
    (.cond (.t 55)
     .skip
     (.exit 4)))
    (.seq
    (.block 5
     (.cut
     (.seq
     (.reg [⟨(some 58), none, (.mv (.t 6))⟩,
       ⟨(some 59), none, (.call 16 [(.t 58), (.c (.int .i64 3))])⟩] [58])
     (.block 6
      (.seq
      (.reg [⟨(some 61), none, (.bin .eql (.t 59) (.c (.int .i64 0)))⟩,
        ⟨(some 60), none, (.mv (.t 61))⟩] [61])
      (.cond (.t 60)
       (.dreg 19456 19600 [⟨(some 63), none, (.ld true 3 (.t 5))⟩,
         ⟨(some 64), none, (.mv (.t 6))⟩,
         ⟨(some 65), none, (.call 16 [(.t 64), (.c (.int .i64 10))])⟩,
         ⟨(some 66), none, (.bin .add (.c (.int .i64 1)) (.t 65))⟩,
         ⟨(some 67), none, (.call 40 [(.t 63), (.t 66)])⟩,
         ⟨(some 62), none, (.mv (.t 67))⟩,
         ⟨(some 68), none, (.extr 0 (.t 62))⟩,
         ⟨(some 69), none, (.extr 1 (.t 62))⟩,
         ⟨none, none, (.st 3 (.t 5) (.t 68))⟩] [63, 64, 65, 66, 67, 62, 68, 69] [[], [], [1], [2, 1], [0, 3, 2, 1], [4, 1, 2, 3, 0], [5, 0, 3, 2, 1, 4], [5, 0, 3, 2, 1, 4], [6, 4, 1, 2, 3, 0, 5]] [19456, 19472, 19488, 19504, 19520, 19536, 19552, 19568, 19584])
       (.seq
       (.reg [⟨(some 71), none, (.bin .eql (.t 59) (.c (.int .i64 1)))⟩,
         ⟨(some 70), none, (.mv (.t 71))⟩] [71])
       (.cond (.t 70)
        (.reg [⟨(some 72), none, (.ld true 3 (.t 5))⟩,
          ⟨(some 73), none, (.call 45 [(.t 72)])⟩,
          ⟨none, none, (.st 3 (.t 5) (.t 73))⟩] [72, 73])
        (.seq
        (.reg [⟨(some 75), none, (.bin .eql (.t 59) (.c (.int .i64 2)))⟩,
          ⟨(some 74), none, (.mv (.t 75))⟩] [75])
        (.cond (.t 74)
         (.dreg 23552 23760 [⟨(some 77), none, (.ld true 3 (.t 5))⟩,
           ⟨(some 78), none, (.mv (.t 6))⟩,
           ⟨(some 79), none, (.call 16 [(.t 78), (.c (.int .i64 4))])⟩,
           ⟨(some 80), none, (.bin .add (.c (.int .i64 1)) (.t 79))⟩,
           ⟨(some 81), none, (.mv (.t 6))⟩,
           ⟨(some 82), none, (.call 16 [(.t 81), (.c (.int .i64 10))])⟩,
           ⟨(some 83), none, (.bin .add (.c (.int .i64 1)) (.t 82))⟩,
           ⟨(some 84), none, (.bslice 1 [(.int .i64 0)] 1 [(0, (.t 83))])⟩,
           ⟨(some 85), none, (.call 50 [(.t 77), (.t 80), (.t 84)])⟩,
           ⟨(some 76), none, (.mv (.t 85))⟩,
           ⟨(some 86), none, (.extr 0 (.t 76))⟩,
           ⟨(some 87), none, (.extr 1 (.t 76))⟩,
           ⟨none, none, (.st 3 (.t 5) (.t 86))⟩] [77, 78, 79, 80, 81, 82, 83, 84, 85, 76, 86, 87] [[], [], [1], [2, 1], [], [4, 2, 1], [5, 1, 2, 4], [6, 4, 2, 1, 5], [0, 3, 7, 6, 5, 1, 2, 4], [8, 4, 2, 1, 5, 6, 7, 3, 0], [9, 0, 3, 7, 6, 5, 1, 2, 4, 8], [9, 0, 3, 7, 6, 5, 1, 2, 4, 8], [10, 8, 4, 2, 1, 5, 6, 7, 3, 0, 9]] [23552, 23568, 23584, 23600, 23616, 23632, 23648, 23664, 23680, 23696, 23712, 23728, 23744])
         .skip))))))))
     (.seq
     (.seq
     (.reg [⟨(some 88), none, (.ld true 3 (.t 5))⟩,
       ⟨(some 89), none, (.call 42 [(.t 88)])⟩,
       ⟨(some 90), none, (.un .not (.t 89))⟩,
       ⟨(some 91), none, (.mv (.t 90))⟩,
       ⟨(some 92), (some (91, false)), (.faddr 0 (.t 5))⟩,
       ⟨(some 93), (some (91, false)), (.ld false 1 (.t 92))⟩,
       ⟨(some 94), (some (91, false)), (.len (.t 93))⟩,
       ⟨(some 95), (some (91, false)), (.faddr 1 (.t 5))⟩,
       ⟨(some 96), (some (91, false)), (.ld false 1 (.t 95))⟩,
       ⟨(some 97), (some (91, false)), (.len (.t 96))⟩,
       ⟨(some 98), (some (91, false)), (.bin .add (.t 94) (.t 97))⟩,
       ⟨(some 99), (some (91, false)), (.mv (.t 8))⟩,
       ⟨(some 100), (some (91, false)), (.bin .neq (.t 98) (.t 99))⟩,
       ⟨(some 101), none, (.pick (.t 91) (.c (.bool true)) (.t 100))⟩] [88, 89, 90, 91, 92, 93, 94, 95, 96, 97, 98, 99, 100])
     (.cond (.t 101)
      (.seq
      (.reg [⟨(some 4), none, (.mv (.c (.bool false)))⟩] [])
      .ret)
      .skip))
     (.seq
     (.seq
     (.reg [⟨(some 12), none, (.mv (.c (.int .i64 0)))⟩] [])
     (.block 7
      (.loop
       (.seq
       (.seq
       (.reg [⟨(some 102), none, (.mv (.t 12))⟩,
         ⟨(some 103), none, (.faddr 0 (.t 5))⟩,
         ⟨(some 104), none, (.ld false 1 (.t 103))⟩,
         ⟨(some 105), none, (.len (.t 104))⟩,
         ⟨(some 106), none, (.bin .lss (.t 102) (.t 105))⟩] [102, 103, 104, 105])
       (.cond (.t 106)
        .skip
        (.exit 7)))
       (.seq
       (.block 8
        (.seq
        (.reg [⟨(some 109), none, (.faddr 0 (.t 5))⟩,
          ⟨(some 110), none, (.ld false 1 (.t 109))⟩,
          ⟨(some 111), none, (.mv (.t 12))⟩,
          ⟨(some 112), none, (.iaddr 1 (.t 110) (.t 111))⟩,
          ⟨(some 113), none, (.ld false 1 (.t 112))⟩,
          ⟨(some 114), none, (.bin .lss (.t 113) (.c (.int .i64 1)))⟩,
          ⟨(some 115), none, (.mv (.t 114))⟩,
          ⟨(some 116), (some (115, false)), (.faddr 0 (.t 5))⟩,
          ⟨(some 117), (some (115, false)), (.ld false 1 (.t 116))⟩,
          ⟨(some 118), (some (115, false)), (.mv (.t 12))⟩,
          ⟨(some 119), (some (115, false)), (.iaddr 1 (.t 117) (.t 118))⟩,
          ⟨(some 120), (some (115, false)), (.ld false 1 (.t 119))⟩,
          ⟨(some 121), (some (115, false)), (.bin .gtr (.t 120) (.c (.int .i64 64)))⟩,
          ⟨(some 122), none, (.pick (.t 115) (.c (.bool true)) (.t 121))⟩,
          ⟨(some 123), none, (.mv (.t 122))⟩,
          ⟨(some 124), (some (123, false)), (.faddr 0 (.t 5))⟩,
          ⟨(some 125), (some (123, false)), (.ld false 1 (.t 124))⟩,
          ⟨(some 126), (some (123, false)), (.mv (.t 12))⟩,
          ⟨(some 127), (some (123, false)), (.iaddr 1 (.t 125) (.t 126))⟩,
          ⟨(some 128), (some (123, false)), (.ld false 1 (.t 127))⟩,
          ⟨(some 129), (some (123, false)), (.iarr 65 1 (.t 7) (.t 128))⟩,
          ⟨(some 130), (some (123, false)), (.ld false 1 (.t 129))⟩,
          ⟨(some 131), (some (123, false)), (.un .not (.t 130))⟩,
          ⟨(some 132), none, (.pick (.t 123) (.c (.bool true)) (.t 131))⟩] [109, 110, 111, 112, 113, 114, 115, 116, 117, 118, 119, 120, 121, 122, 123, 124, 125, 126, 127, 128, 129, 130, 131])
        (.cond (.t 132)
         (.seq
         (.reg [⟨(some 4), none, (.mv (.c (.bool false)))⟩] [])
         .ret)
         .skip)))
       (.reg [⟨(some 107), none, (.mv (.t 12))⟩,
         ⟨(some 108), none, (.bin .add (.t 107) (.c (.int .i64 1)))⟩,
         ⟨(some 12), none, (.mv (.t 108))⟩] [107, 108]))))))
     (.seq
     (.reg [⟨(some 13), none, (.mv (.c (.int .i64 0)))⟩] [])
     (.block 9
      (.loop
       (.seq
       (.seq
       (.reg [⟨(some 133), none, (.mv (.t 13))⟩,
         ⟨(some 134), none, (.faddr 1 (.t 5))⟩,
         ⟨(some 135), none, (.ld false 1 (.t 134))⟩,
         ⟨(some 136), none, (.len (.t 135))⟩,
         ⟨(some 137), none, (.bin .lss (.t 133) (.t 136))⟩] [133, 134, 135, 136])
       (.cond (.t 137)
        .skip
        (.exit 9)))
       (.seq
       (.block 10
        (.seq
        (.reg [⟨(some 140), none, (.faddr 1 (.t 5))⟩,
          ⟨(some 141), none, (.ld false 1 (.t 140))⟩,
          ⟨(some 142), none, (.mv (.t 13))⟩,
          ⟨(some 143), none, (.iaddr 1 (.t 141) (.t 142))⟩,
          ⟨(some 144), none, (.ld false 1 (.t 143))⟩,
          ⟨(some 145), none, (.bin .lss (.t 144) (.c (.int .i64 1)))⟩,
          ⟨(some 146), none, (.mv (.t 145))⟩,
          ⟨(some 147), (some (146, false)), (.faddr 1 (.t 5))⟩,
          ⟨(some 148), (some (146, false)), (.ld false 1 (.t 147))⟩,
          ⟨(some 149), (some (146, false)), (.mv (.t 13))⟩,
          ⟨(some 150), (some (146, false)), (.iaddr 1 (.t 148) (.t 149))⟩,
          ⟨(some 151), (some (146, false)), (.ld false 1 (.t 150))⟩,
          ⟨(some 152), (some (146, false)), (.bin .gtr (.t 151) (.c (.int .i64 64)))⟩,
          ⟨(some 153), none, (.pick (.t 146) (.c (.bool true)) (.t 152))⟩,
          ⟨(some 154), none, (.mv (.t 153))⟩,
          ⟨(some 155), (some (154, false)), (.faddr 1 (.t 5))⟩,
          ⟨(some 156), (some (154, false)), (.ld false 1 (.t 155))⟩,
          ⟨(some 157), (some (154, false)), (.mv (.t 13))⟩,
          ⟨(some 158), (some (154, false)), (.iaddr 1 (.t 156) (.t 157))⟩,
          ⟨(some 159), (some (154, false)), (.ld false 1 (.t 158))⟩,
          ⟨(some 160), (some (154, false)), (.iarr 65 1 (.t 7) (.t 159))⟩,
          ⟨(some 161), (some (154, false)), (.ld false 1 (.t 160))⟩,
          ⟨(some 162), (some (154, false)), (.un .not (.t 161))⟩,
          ⟨(some 163), none, (.pick (.t 154) (.c (.bool true)) (.t 162))⟩] [140, 141, 142, 143, 144, 145, 146, 147, 148, 149, 150, 151, 152, 153, 154, 155, 156, 157, 158, 159, 160, 161, 162])
        (.cond (.t 163)
         (.seq
         (.reg [⟨(some 4), none, (.mv (.c (.bool false)))⟩] [])
         .ret)
         .skip)))
       (.reg [⟨(some 138), none, (.mv (.t 13))⟩,
         ⟨(some 139), none, (.bin .add (.t 138) (.c (.int .i64 1)))⟩,
         ⟨(some 13), none, (.mv (.t 139))⟩] [138, 139]))))))))))
    (.reg [⟨(some 56), none, (.mv (.t 11))⟩,
      ⟨(some 57), none, (.bin .add (.t 56) (.c (.int .i64 1)))⟩,
      ⟨(some 11), none, (.mv (.t 57))⟩] [56, 57]))))))
  (.seq
  (.reg [⟨(some 164), none, (.call 47 [])⟩,
    ⟨(some 4), none, (.mv (.t 164))⟩] [164])
  .ret)))))))))
theorem rcq11 : resC Go.Proofs.Try.prog Go.Proofs.Try.f11.ntmps ((Go.Proofs.Try.f11.body).getD .skip) = some (strip rc11) := by kernel_rfl
def rv11 : List RV := [(.tmp 4)]
theorem rvq11 : Go.Proofs.Try.f11.results.toList.mapM (resRV Go.Proofs.Try.prog) = some rv11 := by kernel_rfl

/-- The frames that are noted, as an array of 65 truth values. -/
def barr (S : List Int) : List V := (List.range 65).map fun (i : Nat) => .bool (decide ((i : Int) ∈ S))
theorem barr_len (S : List Int) : (barr S).length = 65 := by simp [barr]
theorem barr_get (S : List Int) (j : Nat) (h : j < 65) : (barr S)[j]? = some (.bool (decide ((j : Int) ∈ S))) := by
  rw [barr, List.getElem?_map, List.getElem?_range h]; rfl
theorem barr_flat (S : List Int) : (barr S).all flatV = true := by
  rw [List.all_eq_true]
  intro v hv
  simp only [barr, List.mem_map] at hv
  obtain ⟨i, -, rfl⟩ := hv
  rfl
theorem barr_nil : barr [] = List.replicate 65 (.bool false) := by
  refine List.ext_getElem? fun j => ?_
  by_cases h : j < 65
  · rw [barr_get _ _ h, List.getElem?_replicate, if_pos h]; simp
  · rw [List.getElem?_eq_none (by rw [barr_len]; omega), List.getElem?_eq_none (by simp; omega)]
theorem put_barr (S : List Int) (j : Int) (h : 1 ≤ j ∧ j ≤ 64) : [barr S].set 0 (putCells 65 ([barr S].getD 0 []) (0 + j.toNat * 1) [.bool true]) = [barr (S ++ [j])] := by
  show [putCells 65 (barr S) (0 + j.toNat * 1) [.bool true]] = _
  congr 1
  obtain ⟨h1, h2⟩ := putCells_eq (c := 0 + j.toNat * 1) (cs := [V.bool true]) (barr_len S) (by simp; omega)
  refine List.ext_getElem? fun k => ?_
  rw [h2]
  by_cases hk : k < 65
  · by_cases e : (k : Int) = j
    · rw [if_pos (by simp; omega), show k - (0 + j.toNat * 1) = 0 by omega, barr_get _ _ hk, show decide ((k : Int) ∈ S ++ [j]) = true by simp [e]]; rfl
    · rw [if_neg (by simp; omega), barr_get _ _ hk, barr_get _ _ hk]
      congr 2
      exact decide_eq_decide.2 (by simp [e])
  · rw [if_neg (by simp; omega), List.getElem?_eq_none (by rw [barr_len]; omega), List.getElem?_eq_none (by rw [barr_len]; omega)]
theorem get_barr (S : List Int) (j : Int) (h : 1 ≤ j ∧ j ≤ 64) : partV false 65 ([barr S].getD 0 []) (0 + j.toNat * 1) 1 = .bool (decide (j ∈ S)) := by
  show (barr S).getD (0 + j.toNat * 1) .any = _
  rw [List.getD_eq_getElem?_getD, barr_get _ _ (by omega)]
  show V.bool _ = _
  congr 1
  rw [show ((0 + j.toNat * 1 : Nat) : Int) = j by omega]
set_option maxRecDepth 20000 in
set_option maxHeartbeats 1000000 in
theorem ok11 (L M : List Int) (hL : (L.length : Int) < 2 ^ 62) (hM : (M.length : Int) < 2 ^ 62) : FnC Try.prog 11 [] [.lst 1 false (rowsI L), .lst 1 false (rowsI M)] (.bool true) [] := by
  refine fn_okC (ob0 := []) (rc := rc11) (rvs := rv11) Try.func11 rfl rcq11 rvq11 (show 2 ≤ _ by decide) ?_
  obtain ⟨hP, -⟩ := lruF_ok L 0 (by omega)
  repeat ((conv => whnf); first | refine Cd.seq ?_ | refine Cd.cut ?_ | refine Cd.reg ?_ | refine Cd.block ?_ | refine Cd.cond ?_ | refine Cd.dreg ?_ | refine Cd.skip ?_ | refine Cd.ret ?_ | refine Cd.exit ?_ | refine Cd.loop ?_ | refine ⟨rfl, ?_⟩ | refine ⟨Nat.le_of_ble_eq_true rfl, ?_⟩ | refine ⟨.inl rfl, ?_⟩ | refine ⟨fun h => Bool.noConfusion h, ?_⟩)
  conv => whnf
  refine .inr ⟨fun _ => ⟨[0], _, _, _, ok53 L 0 hL (by omega), ⟨rfl, rfl, trivial⟩, rfl, rfl, rfl, rfl, ?_⟩, (by intro h; cases h)⟩
  generalize (lruF L 0).1 = x at hP ⊢
  generalize (lruF L 0).2 = J
  have hal := hP.len
  have hkn := hP.known
  rw [List.length_append] at hal
  repeat ((conv => whnf); first | refine Cd.seq ?_ | refine Cd.cut ?_ | refine Cd.reg ?_ | refine Cd.block ?_ | refine Cd.cond ?_ | refine Cd.dreg ?_ | refine Cd.skip ?_ | refine Cd.ret ?_ | refine Cd.exit ?_ | refine Cd.loop ?_ | refine ⟨rfl, ?_⟩ | refine ⟨Nat.le_of_ble_eq_true rfl, ?_⟩ | refine ⟨.inl rfl, ?_⟩ | refine ⟨fun h => Bool.noConfusion h, ?_⟩)
  conv => whnf
  refine ⟨Unit, fun _ => True, fun _ => ⟨[(5, ⟨[], true, .ptr 1 0 0⟩), (6, ⟨[], true, .ptr 0 0 0⟩)], [(0, tpO M 0), (1, .box x.c)], 2⟩, ?_, fun _ _ => ?_⟩
  · repeat ((conv => whnf); first | refine Cd.seq ?_ | refine Cd.cut ?_ | refine Cd.reg ?_ | refine Cd.block ?_ | refine Cd.cond ?_ | refine Cd.dreg ?_ | refine Cd.skip ?_ | refine Cd.ret ?_ | refine Cd.exit ?_ | refine Cd.loop ?_ | refine ⟨rfl, ?_⟩ | refine ⟨Nat.le_of_ble_eq_true rfl, ?_⟩ | refine ⟨.inl rfl, ?_⟩ | refine ⟨fun h => Bool.noConfusion h, ?_⟩)
    conv => whnf
    refine ⟨(), trivial, ?_⟩
    refine viewI [some 18, some 17] rfl rfl ?_ rfl ?_ rfl ?_
    repeat' (first | exact trivial | rfl | exact .inl rfl | exact .inr rfl | exact id | exact (fun h => Bool.noConfusion h) | refine And.intro ?_ ?_)
  repeat ((conv => whnf); first | refine Cd.seq ?_ | refine Cd.cut ?_ | refine Cd.reg ?_ | refine Cd.block ?_ | refine Cd.cond ?_ | refine Cd.dreg ?_ | refine Cd.skip ?_ | refine Cd.ret ?_ | refine Cd.exit ?_ | refine Cd.loop ?_ | refine ⟨rfl, ?_⟩ | refine ⟨Nat.le_of_ble_eq_true rfl, ?_⟩ | refine ⟨.inl rfl, ?_⟩ | refine ⟨fun h => Bool.noConfusion h, ?_⟩)
  conv => whnf
  rw [rowsI_len, rowsI_len, wrapI (n := (x.A.length : Int) + x.I.length) (by omega) (by omega)]
  refine ⟨Nat, fun i => i ≤ x.A.length, fun i => ⟨[(5, ⟨[], true, .ptr 1 0 0⟩), (6, ⟨[], true, .ptr 0 0 0⟩), (7, ⟨[], true, .ptr 2 0 0⟩), (8, ⟨[], true, .int .i64 ((x.A.length : Int) + x.I.length)⟩), (9, ⟨[], true, .int .i64 (i : Int)⟩)],
    [(0, tpO M 0), (1, .box x.c), (2, .row 65 [barr (x.A.take i)])], 3⟩, fun i => x.A.length - i, ⟨0, by omega, ?_⟩, fun i hi => ?_⟩
  · refine viewI [some 0, some 1, some 2] rfl rfl ?_ rfl ?_ rfl ?_
    repeat' (first | exact trivial | rfl | exact .inl rfl | exact .inr rfl | exact id | exact (fun h => Bool.noConfusion h) | refine And.intro ?_ ?_)
  have hi : i ≤ x.A.length := hi
  repeat ((conv => whnf); first | refine Cd.seq ?_ | refine Cd.cut ?_ | refine Cd.reg ?_ | refine Cd.block ?_ | refine Cd.cond ?_ | refine Cd.dreg ?_ | refine Cd.skip ?_ | refine Cd.ret ?_ | refine Cd.exit ?_ | refine Cd.loop ?_ | refine ⟨rfl, ?_⟩ | refine ⟨Nat.le_of_ble_eq_true rfl, ?_⟩ | refine ⟨.inl rfl, ?_⟩ | refine ⟨fun h => Bool.noConfusion h, ?_⟩)
  conv => whnf
  rw [rowsI_len]
  refine ⟨fun h1 => ?_, fun h1 => ?_⟩ <;> try simp only [Bool.cond_true_left, Bool.cond_false_right, Bool.not_eq_true', Bool.not_eq_false', Bool.not_not] at h1
  · have h1 : i < x.A.length := by simp at h1; omega
    have hi1 : IntKind.i64.wrap ((i : Int) + 1) = ((i + 1 : Nat) : Int) := by rw [wrapI (by omega) (by omega)]; omega
    have hj := hkn x.A[i] (List.mem_append_left _ (List.getElem_mem h1))
    repeat ((conv => whnf); first | refine Cd.seq ?_ | refine Cd.cut ?_ | refine Cd.reg ?_ | refine Cd.block ?_ | refine Cd.cond ?_ | refine Cd.dreg ?_ | refine Cd.skip ?_ | refine Cd.ret ?_ | refine Cd.exit ?_ | refine Cd.loop ?_ | refine ⟨rfl, ?_⟩ | refine ⟨Nat.le_of_ble_eq_true rfl, ?_⟩ | refine ⟨.inl rfl, ?_⟩ | refine ⟨fun h => Bool.noConfusion h, ?_⟩)
    conv => whnf
    refine ⟨fun _ => ⟨rfl, by omega, by rw [rowsI_len]; omega⟩, ?_⟩
    rw [rowsI_getK x.A i h1, ← getI x.A i h1]
    have hts := List.take_succ_eq_append_getElem h1
    generalize x.A[i] = f at hj hts ⊢
    repeat ((conv => whnf); first | refine Cd.seq ?_ | refine Cd.cut ?_ | refine Cd.reg ?_ | refine Cd.block ?_ | refine Cd.cond ?_ | refine Cd.dreg ?_ | refine Cd.skip ?_ | refine Cd.ret ?_ | refine Cd.exit ?_ | refine Cd.loop ?_ | refine ⟨rfl, ?_⟩ | refine ⟨Nat.le_of_ble_eq_true rfl, ?_⟩ | refine ⟨.inl rfl, ?_⟩ | refine ⟨fun h => Bool.noConfusion h, ?_⟩)
    conv => whnf
    refine ⟨fun _ => ⟨by omega, by show f < (65 : Int); omega⟩, ?_⟩
    repeat ((conv => whnf); first | refine Cd.seq ?_ | refine Cd.cut ?_ | refine Cd.reg ?_ | refine Cd.block ?_ | refine Cd.cond ?_ | refine Cd.dreg ?_ | refine Cd.skip ?_ | refine Cd.ret ?_ | refine Cd.exit ?_ | refine Cd.loop ?_ | refine ⟨rfl, ?_⟩ | refine ⟨Nat.le_of_ble_eq_true rfl, ?_⟩ | refine ⟨.inl rfl, ?_⟩ | refine ⟨fun h => Bool.noConfusion h, ?_⟩)
    conv => whnf
    refine ⟨by omega, rfl, rfl, ?_⟩
    repeat ((conv => whnf); first | refine Cd.seq ?_ | refine Cd.cut ?_ | refine Cd.reg ?_ | refine Cd.block ?_ | refine Cd.cond ?_ | refine Cd.dreg ?_ | refine Cd.skip ?_ | refine Cd.ret ?_ | refine Cd.exit ?_ | refine Cd.loop ?_ | refine ⟨rfl, ?_⟩ | refine ⟨Nat.le_of_ble_eq_true rfl, ?_⟩ | refine ⟨.inl rfl, ?_⟩ | refine ⟨fun h => Bool.noConfusion h, ?_⟩)
    conv => whnf
    rw [hi1]
    refine ⟨i + 1, by show i + 1 ≤ _; omega, ?_, by show x.A.length - (i + 1) < x.A.length - i; omega⟩
    refine viewI [some 0, some 1, some 2] rfl rfl ?_ rfl ?_ rfl ?_
    repeat' (first | exact trivial | rfl | exact .inl rfl | exact .inr rfl | exact id | exact (fun h => Bool.noConfusion h) | refine And.intro ?_ ?_)
    exact (put_barr _ f hj).trans (by rw [← hts])
  have h1 : i = x.A.length := by simp at h1; omega
  subst h1
  rw [List.take_length]
  clear hi
  repeat ((conv => whnf); first | refine Cd.seq ?_ | refine Cd.cut ?_ | refine Cd.reg ?_ | refine Cd.block ?_ | refine Cd.cond ?_ | refine Cd.dreg ?_ | refine Cd.skip ?_ | refine Cd.ret ?_ | refine Cd.exit ?_ | refine Cd.loop ?_ | refine ⟨rfl, ?_⟩ | refine ⟨Nat.le_of_ble_eq_true rfl, ?_⟩ | refine ⟨.inl rfl, ?_⟩ | refine ⟨fun h => Bool.noConfusion h, ?_⟩)
  conv => whnf
  refine ⟨Nat, fun i => i ≤ x.I.length, fun i => ⟨[(5, ⟨[], true, .ptr 1 0 0⟩), (6, ⟨[], true, .ptr 0 0 0⟩), (7, ⟨[], true, .ptr 2 0 0⟩), (8, ⟨[], true, .int .i64 ((x.A.length : Int) + x.I.length)⟩), (10, ⟨[], true, .int .i64 (i : Int)⟩)],
    [(0, tpO M 0), (1, .box x.c), (2, .row 65 [barr (x.A ++ x.I.take i)])], 3⟩, fun i => x.I.length - i, ⟨0, by omega, ?_⟩, fun i hi => ?_⟩
  · refine viewI [some 0, some 1, some 2] rfl rfl ?_ rfl ?_ rfl ?_
    repeat' (first | exact trivial | rfl | exact .inl rfl | exact .inr rfl | exact id | exact (fun h => Bool.noConfusion h) | refine And.intro ?_ ?_)
    rw [List.take_zero, List.append_nil]
  have hi : i ≤ x.I.length := hi
  repeat ((conv => whnf); first | refine Cd.seq ?_ | refine Cd.cut ?_ | refine Cd.reg ?_ | refine Cd.block ?_ | refine Cd.cond ?_ | refine Cd.dreg ?_ | refine Cd.skip ?_ | refine Cd.ret ?_ | refine Cd.exit ?_ | refine Cd.loop ?_ | refine ⟨rfl, ?_⟩ | refine ⟨Nat.le_of_ble_eq_true rfl, ?_⟩ | refine ⟨.inl rfl, ?_⟩ | refine ⟨fun h => Bool.noConfusion h, ?_⟩)
  conv => whnf
  rw [rowsI_len]
  refine ⟨fun h1 => ?_, fun h1 => ?_⟩ <;> try simp only [Bool.cond_true_left, Bool.cond_false_right, Bool.not_eq_true', Bool.not_eq_false', Bool.not_not] at h1
  · have h1 : i < x.I.length := by simp at h1; omega
    have hi1 : IntKind.i64.wrap ((i : Int) + 1) = ((i + 1 : Nat) : Int) := by rw [wrapI (by omega) (by omega)]; omega
    have hj := hkn x.I[i] (List.mem_append_right _ (List.getElem_mem h1))
    repeat ((conv => whnf); first | refine Cd.seq ?_ | refine Cd.cut ?_ | refine Cd.reg ?_ | refine Cd.block ?_ | refine Cd.cond ?_ | refine Cd.dreg ?_ | refine Cd.skip ?_ | refine Cd.ret ?_ | refine Cd.exit ?_ | refine Cd.loop ?_ | refine ⟨rfl, ?_⟩ | refine ⟨Nat.le_of_ble_eq_true rfl, ?_⟩ | refine ⟨.inl rfl, ?_⟩ | refine ⟨fun h => Bool.noConfusion h, ?_⟩)
    conv => whnf
    refine ⟨fun _ => ⟨rfl, by omega, by rw [rowsI_len]; omega⟩, ?_⟩
    rw [rowsI_getK x.I i h1, ← getI x.I i h1]
    have hts := List.take_succ_eq_append_getElem h1
    generalize x.I[i] = f at hj hts ⊢
    repeat ((conv => whnf); first | refine Cd.seq ?_ | refine Cd.cut ?_ | refine Cd.reg ?_ | refine Cd.block ?_ | refine Cd.cond ?_ | refine Cd.dreg ?_ | refine Cd.skip ?_ | refine Cd.ret ?_ | refine Cd.exit ?_ | refine Cd.loop ?_ | refine ⟨rfl, ?_⟩ | refine ⟨Nat.le_of_ble_eq_true rfl, ?_⟩ | refine ⟨.inl rfl, ?_⟩ | refine ⟨fun h => Bool.noConfusion h, ?_⟩)
    conv => whnf
    refine ⟨fun _ => ⟨by omega, by show f < (65 : Int); omega⟩, ?_⟩
    repeat ((conv => whnf); first | refine Cd.seq ?_ | refine Cd.cut ?_ | refine Cd.reg ?_ | refine Cd.block ?_ | refine Cd.cond ?_ | refine Cd.dreg ?_ | refine Cd.skip ?_ | refine Cd.ret ?_ | refine Cd.exit ?_ | refine Cd.loop ?_ | refine ⟨rfl, ?_⟩ | refine ⟨Nat.le_of_ble_eq_true rfl, ?_⟩ | refine ⟨.inl rfl, ?_⟩ | refine ⟨fun h => Bool.noConfusion h, ?_⟩)
    conv => whnf
    refine ⟨by omega, rfl, rfl, ?_⟩
    repeat ((conv => whnf); first | refine Cd.seq ?_ | refine Cd.cut ?_ | refine Cd.reg ?_ | refine Cd.block ?_ | refine Cd.cond ?_ | refine Cd.dreg ?_ | refine Cd.skip ?_ | refine Cd.ret ?_ | refine Cd.exit ?_ | refine Cd.loop ?_ | refine ⟨rfl, ?_⟩ | refine ⟨Nat.le_of_ble_eq_true rfl, ?_⟩ | refine ⟨.inl rfl, ?_⟩ | refine ⟨fun h => Bool.noConfusion h, ?_⟩)
    conv => whnf
    rw [hi1]
    refine ⟨i + 1, by show i + 1 ≤ _; omega, ?_, by show x.I.length - (i + 1) < x.I.length - i; omega⟩
    refine viewI [some 0, some 1, some 2] rfl rfl ?_ rfl ?_ rfl ?_
    repeat' (first | exact trivial | rfl | exact .inl rfl | exact .inr rfl | exact id | exact (fun h => Bool.noConfusion h) | refine And.intro ?_ ?_)
    exact (put_barr _ f hj).trans (by rw [List.append_assoc, ← hts])
  have h1 : i = x.I.length := by simp at h1; omega
  subst h1
  rw [List.take_length]
  clear hi
  repeat ((conv => whnf); first | refine Cd.seq ?_ | refine Cd.cut ?_ | refine Cd.reg ?_ | refine Cd.block ?_ | refine Cd.cond ?_ | refine Cd.dreg ?_ | refine Cd.skip ?_ | refine Cd.ret ?_ | refine Cd.exit ?_ | refine Cd.loop ?_ | refine ⟨rfl, ?_⟩ | refine ⟨Nat.le_of_ble_eq_true rfl, ?_⟩ | refine ⟨.inl rfl, ?_⟩ | refine ⟨fun h => Bool.noConfusion h, ?_⟩)
  conv => whnf
  refine ⟨Nat × Ls × Nat, fun p => (p.1 ≤ 8 ∧ p.2.2 ≤ M.length) ∧ ChkP p.2.1 ∧ (p.2.1.A ++ p.2.1.I).Perm (x.A ++ x.I), fun p => ⟨[(5, ⟨[], true, .ptr 1 0 0⟩), (6, ⟨[], true, .ptr 0 0 0⟩), (7, ⟨[], true, .ptr 2 0 0⟩), (8, ⟨[], true, .int .i64 ((x.A.length : Int) + x.I.length)⟩), (11, ⟨[], true, .int .i64 (p.1 : Int)⟩)],
    [(0, tpO M p.2.2), (1, .box p.2.1.c), (2, .row 65 [barr (x.A ++ x.I)])], 3⟩, fun p => 8 - p.1, ⟨(0, x, 0), ⟨⟨by simp, by simp⟩, hP, List.Perm.refl _⟩, ?_⟩, fun p hp => ?_⟩
  · refine viewI [some 0, some 1, some 2] rfl rfl ?_ rfl ?_ rfl ?_
    repeat' (first | exact trivial | rfl | exact .inl rfl | exact .inr rfl | exact id | exact (fun h => Bool.noConfusion h) | refine And.intro ?_ ?_)
  obtain ⟨k, m, J⟩ := p
  obtain ⟨⟨hk, hJ⟩, hm, hp⟩ := hp
  dsimp only at hk hJ hm hp ⊢
  repeat ((conv => whnf); first | refine Cd.seq ?_ | refine Cd.cut ?_ | refine Cd.reg ?_ | refine Cd.block ?_ | refine Cd.cond ?_ | refine Cd.dreg ?_ | refine Cd.skip ?_ | refine Cd.ret ?_ | refine Cd.exit ?_ | refine Cd.loop ?_ | refine ⟨rfl, ?_⟩ | refine ⟨Nat.le_of_ble_eq_true rfl, ?_⟩ | refine ⟨.inl rfl, ?_⟩ | refine ⟨fun h => Bool.noConfusion h, ?_⟩)
  conv => whnf
  refine ⟨fun h1 => ?_, fun h1 => ?_⟩ <;> try simp only [Bool.cond_true_left, Bool.cond_false_right, Bool.not_eq_true', Bool.not_eq_false', Bool.not_not] at h1
  · have h1 : k < 8 := by simp at h1; omega
    have hk1 : IntKind.i64.wrap ((k : Int) + 1) = ((k + 1 : Nat) : Int) := by rw [wrapI (by omega) (by omega)]; omega
    have hJ1 := nxI_in M J hJ
    have hJ2 := nxI_in M _ hJ1
    have hJ3 := nxI_in M _ hJ2
    have hc := nxV_in M J 3 (by decide) (by decide)
    have hsm := hm.small
    repeat ((conv => whnf); first | refine Cd.seq ?_ | refine Cd.cut ?_ | refine Cd.reg ?_ | refine Cd.block ?_ | refine Cd.cond ?_ | refine Cd.dreg ?_ | refine Cd.skip ?_ | refine Cd.ret ?_ | refine Cd.exit ?_ | refine Cd.loop ?_ | refine ⟨rfl, ?_⟩ | refine ⟨Nat.le_of_ble_eq_true rfl, ?_⟩ | refine ⟨.inl rfl, ?_⟩ | refine ⟨fun h => Bool.noConfusion h, ?_⟩)
    conv => whnf
    refine ⟨Ls × Nat, fun p => p.2 ≤ M.length ∧ ChkP p.1 ∧ (p.1.A ++ p.1.I).Perm (x.A ++ x.I), fun p => ⟨[(5, ⟨[], true, .ptr 1 0 0⟩), (6, ⟨[], true, .ptr 0 0 0⟩), (7, ⟨[], true, .ptr 2 0 0⟩), (8, ⟨[], true, .int .i64 ((x.A.length : Int) + x.I.length)⟩), (11, ⟨[], true, .int .i64 (k : Int)⟩)],
      [(0, tpO M p.2), (1, .box p.1.c), (2, .row 65 [barr (x.A ++ x.I)])], 3⟩, ?_, fun p hp => ?_⟩
    · repeat ((conv => whnf); first | refine Cd.seq ?_ | refine Cd.cut ?_ | refine Cd.reg ?_ | refine Cd.block ?_ | refine Cd.cond ?_ | refine Cd.dreg ?_ | refine Cd.skip ?_ | refine Cd.ret ?_ | refine Cd.exit ?_ | refine Cd.loop ?_ | refine ⟨rfl, ?_⟩ | refine ⟨Nat.le_of_ble_eq_true rfl, ?_⟩ | refine ⟨.inl rfl, ?_⟩ | refine ⟨fun h => Bool.noConfusion h, ?_⟩)
      conv => whnf
      refine .inr ⟨fun _ => ⟨[0], _, _, _, ok16n M J 3 hM (by omega) (by decide) (by decide), ⟨rfl, rfl, trivial⟩, rfl, rfl, rfl, rfl, ?_⟩, (by intro h; cases h)⟩
      repeat ((conv => whnf); first | refine Cd.seq ?_ | refine Cd.cut ?_ | refine Cd.reg ?_ | refine Cd.block ?_ | refine Cd.cond ?_ | refine Cd.dreg ?_ | refine Cd.skip ?_ | refine Cd.ret ?_ | refine Cd.exit ?_ | refine Cd.loop ?_ | refine ⟨rfl, ?_⟩ | refine ⟨Nat.le_of_ble_eq_true rfl, ?_⟩ | refine ⟨.inl rfl, ?_⟩ | refine ⟨fun h => Bool.noConfusion h, ?_⟩)
      conv => whnf
      generalize nxV M J 3 = c at hc ⊢
      obtain rfl | rfl | rfl : c = 0 ∨ c = 1 ∨ c = 2 := by omega
      · repeat ((conv => whnf); first | refine Cd.seq ?_ | refine Cd.cut ?_ | refine Cd.reg ?_ | refine Cd.block ?_ | refine Cd.cond ?_ | refine Cd.dreg ?_ | refine Cd.skip ?_ | refine Cd.ret ?_ | refine Cd.exit ?_ | refine Cd.loop ?_ | refine ⟨rfl, ?_⟩ | refine ⟨Nat.le_of_ble_eq_true rfl, ?_⟩ | refine ⟨.inl rfl, ?_⟩ | refine ⟨fun h => Bool.noConfusion h, ?_⟩ | refine ⟨?_, fun h => Bool.noConfusion h⟩ | refine fun (_ : false = false) => ?_ | refine fun (_ : true = true) => ?_)
        conv => whnf
        refine .inr ⟨fun _ => ⟨[0], _, _, _, ok16n M (nxI M J) 10 hM (by omega) (by decide) (by decide), ⟨rfl, rfl, trivial⟩, rfl, rfl, rfl, rfl, ?_⟩, (by intro h; cases h)⟩
        repeat ((conv => whnf); first | refine Cd.seq ?_ | refine Cd.cut ?_ | refine Cd.reg ?_ | refine Cd.block ?_ | refine Cd.cond ?_ | refine Cd.dreg ?_ | refine Cd.skip ?_ | refine Cd.ret ?_ | refine Cd.exit ?_ | refine Cd.loop ?_ | refine ⟨rfl, ?_⟩ | refine ⟨Nat.le_of_ble_eq_true rfl, ?_⟩ | refine ⟨.inl rfl, ?_⟩ | refine ⟨fun h => Bool.noConfusion h, ?_⟩ | refine ⟨?_, fun h => Bool.noConfusion h⟩ | refine fun (_ : false = false) => ?_ | refine fun (_ : true = true) => ?_)
        conv => whnf
        generalize IntKind.i64.wrap (1 + nxV M (nxI M J) 10) = f
        have ht := hm.tou f
        repeat ((conv => whnf); first | refine Cd.seq ?_ | refine Cd.cut ?_ | refine Cd.reg ?_ | refine Cd.block ?_ | refine Cd.cond ?_ | refine Cd.dreg ?_ | refine Cd.skip ?_ | refine Cd.ret ?_ | refine Cd.exit ?_ | refine Cd.loop ?_ | refine ⟨rfl, ?_⟩ | refine ⟨Nat.le_of_ble_eq_true rfl, ?_⟩ | refine ⟨.inl rfl, ?_⟩ | refine ⟨fun h => Bool.noConfusion h, ?_⟩ | refine ⟨?_, fun h => Bool.noConfusion h⟩ | refine fun (_ : false = false) => ?_ | refine fun (_ : true = true) => ?_ | refine .inl ⟨_, fun _ => ⟨purA rfl, (by first | exact ok40 m f hsm)⟩, .inl rfl, ?_⟩)
        conv => whnf
        refine ⟨((touF m f).1, nxI M (nxI M J)), ⟨hJ2, ht.1, ht.2.trans hp⟩, ?_⟩
        refine viewI [some 0, some 1, some 2] rfl rfl ?_ rfl ?_ rfl ?_
        repeat' (first | exact trivial | rfl | exact .inl rfl | exact .inr rfl | exact id | exact (fun h => Bool.noConfusion h) | refine And.intro ?_ ?_)
      · have ht := hm.balF
        repeat ((conv => whnf); first | refine Cd.seq ?_ | refine Cd.cut ?_ | refine Cd.reg ?_ | refine Cd.block ?_ | refine Cd.cond ?_ | refine Cd.dreg ?_ | refine Cd.skip ?_ | refine Cd.ret ?_ | refine Cd.exit ?_ | refine Cd.loop ?_ | refine ⟨rfl, ?_⟩ | refine ⟨Nat.le_of_ble_eq_true rfl, ?_⟩ | refine ⟨.inl rfl, ?_⟩ | refine ⟨fun h => Bool.noConfusion h, ?_⟩ | refine ⟨?_, fun h => Bool.noConfusion h⟩ | refine fun (_ : false = false) => ?_ | refine fun (_ : true = true) => ?_ | refine .inl ⟨_, fun _ => ⟨purA rfl, (by first | exact ok45 m hsm)⟩, .inl rfl, ?_⟩)
        conv => whnf
        refine ⟨(balF m, nxI M J), ⟨hJ1, ht.1, ht.2.trans hp⟩, ?_⟩
        refine viewI [some 0, some 1, some 2] rfl rfl ?_ rfl ?_ rfl ?_
        repeat' (first | exact trivial | rfl | exact .inl rfl | exact .inr rfl | exact id | exact (fun h => Bool.noConfusion h) | refine And.intro ?_ ?_)
      · repeat ((conv => whnf); first | refine Cd.seq ?_ | refine Cd.cut ?_ | refine Cd.reg ?_ | refine Cd.block ?_ | refine Cd.cond ?_ | refine Cd.dreg ?_ | refine Cd.skip ?_ | refine Cd.ret ?_ | refine Cd.exit ?_ | refine Cd.loop ?_ | refine ⟨rfl, ?_⟩ | refine ⟨Nat.le_of_ble_eq_true rfl, ?_⟩ | refine ⟨.inl rfl, ?_⟩ | refine ⟨fun h => Bool.noConfusion h, ?_⟩ | refine ⟨?_, fun h => Bool.noConfusion h⟩ | refine fun (_ : false = false) => ?_ | refine fun (_ : true = true) => ?_)
        conv => whnf
        refine .inr ⟨fun _ => ⟨[0], _, _, _, ok16n M (nxI M J) 4 hM (by omega) (by decide) (by decide), ⟨rfl, rfl, trivial⟩, rfl, rfl, rfl, rfl, ?_⟩, (by intro h; cases h)⟩
        repeat ((conv => whnf); first | refine Cd.seq ?_ | refine Cd.cut ?_ | refine Cd.reg ?_ | refine Cd.block ?_ | refine Cd.cond ?_ | refine Cd.dreg ?_ | refine Cd.skip ?_ | refine Cd.ret ?_ | refine Cd.exit ?_ | refine Cd.loop ?_ | refine ⟨rfl, ?_⟩ | refine ⟨Nat.le_of_ble_eq_true rfl, ?_⟩ | refine ⟨.inl rfl, ?_⟩ | refine ⟨fun h => Bool.noConfusion h, ?_⟩ | refine ⟨?_, fun h => Bool.noConfusion h⟩ | refine fun (_ : false = false) => ?_ | refine fun (_ : true = true) => ?_)
        conv => whnf
        refine .inr ⟨fun _ => ⟨[0], _, _, _, ok16n M (nxI M (nxI M J)) 10 hM (by omega) (by decide) (by decide), ⟨rfl, rfl, trivial⟩, rfl, rfl, rfl, rfl, ?_⟩, (by intro h; cases h)⟩
        repeat ((conv => whnf); first | refine Cd.seq ?_ | refine Cd.cut ?_ | refine Cd.reg ?_ | refine Cd.block ?_ | refine Cd.cond ?_ | refine Cd.dreg ?_ | refine Cd.skip ?_ | refine Cd.ret ?_ | refine Cd.exit ?_ | refine Cd.loop ?_ | refine ⟨rfl, ?_⟩ | refine ⟨Nat.le_of_ble_eq_true rfl, ?_⟩ | refine ⟨.inl rfl, ?_⟩ | refine ⟨fun h => Bool.noConfusion h, ?_⟩ | refine ⟨?_, fun h => Bool.noConfusion h⟩ | refine fun (_ : false = false) => ?_ | refine fun (_ : true = true) => ?_)
        conv => whnf
        generalize IntKind.i64.wrap (1 + nxV M (nxI M J) 4) = n
        generalize IntKind.i64.wrap (1 + nxV M (nxI M (nxI M J)) 10) = held
        have ht := hm.scan n [held]
        have k50 := ok50 m n [held] false hsm (by simp)
        refine .frz ⟨fun _ => ⟨[23664], _, k50, ⟨⟨purB_OK rfl, rfl⟩, ⟨trivial, rfl⟩, ⟨Nat.le_refl 1, rfl⟩, trivial⟩, ?_⟩, (by intro h; cases h)⟩
        repeat ((conv => whnf); first | refine Cd.seq ?_ | refine Cd.cut ?_ | refine Cd.reg ?_ | refine Cd.block ?_ | refine Cd.cond ?_ | refine Cd.dreg ?_ | refine Cd.skip ?_ | refine Cd.ret ?_ | refine Cd.exit ?_ | refine Cd.loop ?_ | refine ⟨rfl, ?_⟩ | refine ⟨Nat.le_of_ble_eq_true rfl, ?_⟩ | refine ⟨.inl rfl, ?_⟩ | refine ⟨fun h => Bool.noConfusion h, ?_⟩ | refine ⟨?_, fun h => Bool.noConfusion h⟩ | refine fun (_ : false = false) => ?_ | refine fun (_ : true = true) => ?_)
        conv => whnf
        refine ⟨((scanF m n [held]).1, nxI M (nxI M (nxI M J))), ⟨hJ3, ht.1, ht.2.trans hp⟩, ?_⟩
        refine viewI [some 0, some 1, some 2] rfl rfl ?_ rfl ?_ rfl ?_
        repeat' (first | exact trivial | rfl | exact .inl rfl | exact .inr rfl | exact id | exact (fun h => Bool.noConfusion h) | refine And.intro ?_ ?_)
    obtain ⟨m', J'⟩ := p
    obtain ⟨hJ', hm', hp'⟩ := hp
    dsimp only at hJ' hm' hp' ⊢
    have hlen' := hp'.length_eq
    rw [List.length_append, List.length_append] at hlen'
    have hck := (chk_iff' m').2 hm'
    repeat ((conv => whnf); first | refine Cd.seq ?_ | refine Cd.cut ?_ | refine Cd.reg ?_ | refine Cd.block ?_ | refine Cd.cond ?_ | refine Cd.dreg ?_ | refine Cd.skip ?_ | refine Cd.ret ?_ | refine Cd.exit ?_ | refine Cd.loop ?_ | refine ⟨rfl, ?_⟩ | refine ⟨Nat.le_of_ble_eq_true rfl, ?_⟩ | refine ⟨.inl rfl, ?_⟩ | refine ⟨fun h => Bool.noConfusion h, ?_⟩ | refine .inl ⟨_, fun _ => ⟨purA rfl, (by first | exact ok42 m' hm'.small)⟩, .inl rfl, ?_⟩)
    conv => whnf
    rw [hck, rowsI_len, rowsI_len, wrapI (n := (m'.A.length : Int) + m'.I.length) (by omega) (by omega), show ((m'.A.length : Int) + m'.I.length) = (x.A.length : Int) + x.I.length by omega]
    refine ⟨fun h2 => ?_, fun h2 => ?_⟩ <;> try simp only [Bool.cond_true_left, Bool.cond_false_right, Bool.not_eq_true', Bool.not_eq_false', Bool.not_not] at h2
    · simp at h2
    repeat ((conv => whnf); first | refine Cd.seq ?_ | refine Cd.cut ?_ | refine Cd.reg ?_ | refine Cd.block ?_ | refine Cd.cond ?_ | refine Cd.dreg ?_ | refine Cd.skip ?_ | refine Cd.ret ?_ | refine Cd.exit ?_ | refine Cd.loop ?_ | refine ⟨rfl, ?_⟩ | refine ⟨Nat.le_of_ble_eq_true rfl, ?_⟩ | refine ⟨.inl rfl, ?_⟩ | refine ⟨fun h => Bool.noConfusion h, ?_⟩)
    conv => whnf
    refine ⟨Nat, fun i => i ≤ m'.A.length, fun i => ⟨[(5, ⟨[], true, .ptr 1 0 0⟩), (6, ⟨[], true, .ptr 0 0 0⟩), (7, ⟨[], true, .ptr 2 0 0⟩), (8, ⟨[], true, .int .i64 ((x.A.length : Int) + x.I.length)⟩), (11, ⟨[], true, .int .i64 (k : Int)⟩), (12, ⟨[], true, .int .i64 (i : Int)⟩)],
      [(0, tpO M J'), (1, .box m'.c), (2, .row 65 [barr (x.A ++ x.I)])], 3⟩, fun i => m'.A.length - i, ⟨0, by omega, ?_⟩, fun i hi => ?_⟩
    · refine viewI [some 0, some 1, some 2] rfl rfl ?_ rfl ?_ rfl ?_
      repeat' (first | exact trivial | rfl | exact .inl rfl | exact .inr rfl | exact id | exact (fun h => Bool.noConfusion h) | refine And.intro ?_ ?_)
    have hi : i ≤ m'.A.length := hi
    repeat ((conv => whnf); first | refine Cd.seq ?_ | refine Cd.cut ?_ | refine Cd.reg ?_ | refine Cd.block ?_ | refine Cd.cond ?_ | refine Cd.dreg ?_ | refine Cd.skip ?_ | refine Cd.ret ?_ | refine Cd.exit ?_ | refine Cd.loop ?_ | refine ⟨rfl, ?_⟩ | refine ⟨Nat.le_of_ble_eq_true rfl, ?_⟩ | refine ⟨.inl rfl, ?_⟩ | refine ⟨fun h => Bool.noConfusion h, ?_⟩)
    conv => whnf
    rw [rowsI_len]
    refine ⟨fun g1 => ?_, fun g1 => ?_⟩ <;> try simp only [Bool.cond_true_left, Bool.cond_false_right, Bool.not_eq_true', Bool.not_eq_false', Bool.not_not] at g1
    · have g1 : i < m'.A.length := by simp at g1; omega
      have hi1 : IntKind.i64.wrap ((i : Int) + 1) = ((i + 1 : Nat) : Int) := by rw [wrapI (by omega) (by omega)]; omega
      have hmem : m'.A[i] ∈ m'.A ++ m'.I := List.mem_append_left _ (List.getElem_mem g1)
      have hj := hm'.known _ hmem
      have hin := hp'.mem_iff.1 hmem
      repeat ((conv => whnf); first | refine Cd.seq ?_ | refine Cd.cut ?_ | refine Cd.reg ?_ | refine Cd.block ?_ | refine Cd.cond ?_ | refine Cd.dreg ?_ | refine Cd.skip ?_ | refine Cd.ret ?_ | refine Cd.exit ?_ | refine Cd.loop ?_ | refine ⟨rfl, ?_⟩ | refine ⟨Nat.le_of_ble_eq_true rfl, ?_⟩ | refine ⟨.inl rfl, ?_⟩ | refine ⟨fun h => Bool.noConfusion h, ?_⟩)
      conv => whnf
      refine ⟨fun _ => ⟨rfl, by omega, by rw [rowsI_len]; omega⟩, ?_⟩
      rw [rowsI_getK m'.A i g1]
      repeat ((conv => whnf); first | refine Cd.seq ?_ | refine Cd.cut ?_ | refine Cd.reg ?_ | refine Cd.block ?_ | refine Cd.cond ?_ | refine Cd.dreg ?_ | refine Cd.skip ?_ | refine Cd.ret ?_ | refine Cd.exit ?_ | refine Cd.loop ?_ | refine ⟨rfl, ?_⟩ | refine ⟨Nat.le_of_ble_eq_true rfl, ?_⟩ | refine ⟨.inl rfl, ?_⟩ | refine ⟨fun h => Bool.noConfusion h, ?_⟩)
      conv => whnf
      refine ⟨fun _ => ⟨rfl, by omega, by rw [rowsI_len]; omega⟩, ?_⟩
      rw [rowsI_getK m'.A i g1]
      repeat ((conv => whnf); first | refine Cd.seq ?_ | refine Cd.cut ?_ | refine Cd.reg ?_ | refine Cd.block ?_ | refine Cd.cond ?_ | refine Cd.dreg ?_ | refine Cd.skip ?_ | refine Cd.ret ?_ | refine Cd.exit ?_ | refine Cd.loop ?_ | refine ⟨rfl, ?_⟩ | refine ⟨Nat.le_of_ble_eq_true rfl, ?_⟩ | refine ⟨.inl rfl, ?_⟩ | refine ⟨fun h => Bool.noConfusion h, ?_⟩)
      conv => whnf
      refine ⟨fun _ => ⟨rfl, by omega, by rw [rowsI_len]; omega⟩, ?_⟩
      rw [rowsI_getK m'.A i g1, ← getI m'.A i g1]
      generalize m'.A[i] = f at hj hin ⊢
      repeat ((conv => whnf); first | refine Cd.seq ?_ | refine Cd.cut ?_ | refine Cd.reg ?_ | refine Cd.block ?_ | refine Cd.cond ?_ | refine Cd.dreg ?_ | refine Cd.skip ?_ | refine Cd.ret ?_ | refine Cd.exit ?_ | refine Cd.loop ?_ | refine ⟨rfl, ?_⟩ | refine ⟨Nat.le_of_ble_eq_true rfl, ?_⟩ | refine ⟨.inl rfl, ?_⟩ | refine ⟨fun h => Bool.noConfusion h, ?_⟩)
      conv => whnf
      refine ⟨fun _ => ⟨by omega, by show f < (65 : Int); omega⟩, ?_⟩
      repeat ((conv => whnf); first | refine Cd.seq ?_ | refine Cd.cut ?_ | refine Cd.reg ?_ | refine Cd.block ?_ | refine Cd.cond ?_ | refine Cd.dreg ?_ | refine Cd.skip ?_ | refine Cd.ret ?_ | refine Cd.exit ?_ | refine Cd.loop ?_ | refine ⟨rfl, ?_⟩ | refine ⟨Nat.le_of_ble_eq_true rfl, ?_⟩ | refine ⟨.inl rfl, ?_⟩ | refine ⟨fun h => Bool.noConfusion h, ?_⟩)
      conv => whnf
      refine ⟨fun _ => by show 0 < 1; decide, by omega, ?_⟩
      rw [get_barr _ f hj, show decide (f ∈ x.A ++ x.I) = true by simpa using hin]
      repeat ((conv => whnf); first | refine Cd.seq ?_ | refine Cd.cut ?_ | refine Cd.reg ?_ | refine Cd.block ?_ | refine Cd.cond ?_ | refine Cd.dreg ?_ | refine Cd.skip ?_ | refine Cd.ret ?_ | refine Cd.exit ?_ | refine Cd.loop ?_ | refine ⟨rfl, ?_⟩ | refine ⟨Nat.le_of_ble_eq_true rfl, ?_⟩ | refine ⟨.inl rfl, ?_⟩ | refine ⟨fun h => Bool.noConfusion h, ?_⟩)
      conv => whnf
      rw [show decide (f < 1) = false by rw [decide_eq_false_iff_not]; omega, show decide (64 < f) = false by rw [decide_eq_false_iff_not]; omega]
      repeat ((conv => whnf); first | refine Cd.seq ?_ | refine Cd.cut ?_ | refine Cd.reg ?_ | refine Cd.block ?_ | refine Cd.cond ?_ | refine Cd.dreg ?_ | refine Cd.skip ?_ | refine Cd.ret ?_ | refine Cd.exit ?_ | refine Cd.loop ?_ | refine ⟨rfl, ?_⟩ | refine ⟨Nat.le_of_ble_eq_true rfl, ?_⟩ | refine ⟨.inl rfl, ?_⟩ | refine ⟨fun h => Bool.noConfusion h, ?_⟩ | refine ⟨?_, fun h => Bool.noConfusion h⟩ | refine fun (_ : false = false) => ?_ | refine fun (_ : true = true) => ?_)
      conv => whnf
      rw [hi1]
      refine ⟨i + 1, by show i + 1 ≤ _; omega, ?_, by show m'.A.length - (i + 1) < m'.A.length - i; omega⟩
      refine viewI [some 0, some 1, some 2] rfl rfl ?_ rfl ?_ rfl ?_
      repeat' (first | exact trivial | rfl | exact .inl rfl | exact .inr rfl | exact id | exact (fun h => Bool.noConfusion h) | refine And.intro ?_ ?_)
    have g1 : i = m'.A.length := by simp at g1; omega
    clear g1
    repeat ((conv => whnf); first | refine Cd.seq ?_ | refine Cd.cut ?_ | refine Cd.reg ?_ | refine Cd.block ?_ | refine Cd.cond ?_ | refine Cd.dreg ?_ | refine Cd.skip ?_ | refine Cd.ret ?_ | refine Cd.exit ?_ | refine Cd.loop ?_ | refine ⟨rfl, ?_⟩ | refine ⟨Nat.le_of_ble_eq_true rfl, ?_⟩ | refine ⟨.inl rfl, ?_⟩ | refine ⟨fun h => Bool.noConfusion h, ?_⟩)
    conv => whnf
    refine ⟨Nat, fun i => i ≤ m'.I.length, fun i => ⟨[(5, ⟨[], true, .ptr 1 0 0⟩), (6, ⟨[], true, .ptr 0 0 0⟩), (7, ⟨[], true, .ptr 2 0 0⟩), (8, ⟨[], true, .int .i64 ((x.A.length : Int) + x.I.length)⟩), (11, ⟨[], true, .int .i64 (k : Int)⟩), (13, ⟨[], true, .int .i64 (i : Int)⟩)],
      [(0, tpO M J'), (1, .box m'.c), (2, .row 65 [barr (x.A ++ x.I)])], 3⟩, fun i => m'.I.length - i, ⟨0, by omega, ?_⟩, fun i hi => ?_⟩
    · refine viewI [some 0, some 1, some 2] rfl rfl ?_ rfl ?_ rfl ?_
      repeat' (first | exact trivial | rfl | exact .inl rfl | exact .inr rfl | exact id | exact (fun h => Bool.noConfusion h) | refine And.intro ?_ ?_)
    have hi : i ≤ m'.I.length := hi
    repeat ((conv => whnf); first | refine Cd.seq ?_ | refine Cd.cut ?_ | refine Cd.reg ?_ | refine Cd.block ?_ | refine Cd.cond ?_ | refine Cd.dreg ?_ | refine Cd.skip ?_ | refine Cd.ret ?_ | refine Cd.exit ?_ | refine Cd.loop ?_ | refine ⟨rfl, ?_⟩ | refine ⟨Nat.le_of_ble_eq_true rfl, ?_⟩ | refine ⟨.inl rfl, ?_⟩ | refine ⟨fun h => Bool.noConfusion h, ?_⟩)
    conv => whnf
    rw [rowsI_len]
    refine ⟨fun g1 => ?_, fun g1 => ?_⟩ <;> try simp only [Bool.cond_true_left, Bool.cond_false_right, Bool.not_eq_true', Bool.not_eq_false', Bool.not_not] at g1
    · have g1 : i < m'.I.length := by simp at g1; omega
      have hi1 : IntKind.i64.wrap ((i : Int) + 1) = ((i + 1 : Nat) : Int) := by rw [wrapI (by omega) (by omega)]; omega
      have hmem : m'.I[i] ∈ m'.A ++ m'.I := List.mem_append_right _ (List.getElem_mem g1)
      have hj := hm'.known _ hmem
      have hin := hp'.mem_iff.1 hmem
      repeat ((conv => whnf); first | refine Cd.seq ?_ | refine Cd.cut ?_ | refine Cd.reg ?_ | refine Cd.block ?_ | refine Cd.cond ?_ | refine Cd.dreg ?_ | refine Cd.skip ?_ | refine Cd.ret ?_ | refine Cd.exit ?_ | refine Cd.loop ?_ | refine ⟨rfl, ?_⟩ | refine ⟨Nat.le_of_ble_eq_true rfl, ?_⟩ | refine ⟨.inl rfl, ?_⟩ | refine ⟨fun h => Bool.noConfusion h, ?_⟩)
      conv => whnf
      refine ⟨fun _ => ⟨rfl, by omega, by rw [rowsI_len]; omega⟩, ?_⟩
      rw [rowsI_getK m'.I i g1]
      repeat ((conv => whnf); first | refine Cd.seq ?_ | refine Cd.cut ?_ | refine Cd.reg ?_ | refine Cd.block ?_ | refine Cd.cond ?_ | refine Cd.dreg ?_ | refine Cd.skip ?_ | refine Cd.ret ?_ | refine Cd.exit ?_ | refine Cd.loop ?_ | refine ⟨rfl, ?_⟩ | refine ⟨Nat.le_of_ble_eq_true rfl, ?_⟩ | refine ⟨.inl rfl, ?_⟩ | refine ⟨fun h => Bool.noConfusion h, ?_⟩)
      conv => whnf
      refine ⟨fun _ => ⟨rfl, by omega, by rw [rowsI_len]; omega⟩, ?_⟩
      rw [rowsI_getK m'.I i g1]
      repeat ((conv => whnf); first | refine Cd.seq ?_ | refine Cd.cut ?_ | refine Cd.reg ?_ | refine Cd.block ?_ | refine Cd.cond ?_ | refine Cd.dreg ?_ | refine Cd.skip ?_ | refine Cd.ret ?_ | refine Cd.exit ?_ | refine Cd.loop ?_ | refine ⟨rfl, ?_⟩ | refine ⟨Nat.le_of_ble_eq_true rfl, ?_⟩ | refine ⟨.inl rfl, ?_⟩ | refine ⟨fun h => Bool.noConfusion h, ?_⟩)
      conv => whnf
      refine ⟨fun _ => ⟨rfl, by omega, by rw [rowsI_len]; omega⟩, ?_⟩
      rw [rowsI_getK m'.I i g1, ← getI m'.I i g1]
      generalize m'.I[i] = f at hj hin ⊢
      repeat ((conv => whnf); first | refine Cd.seq ?_ | refine Cd.cut ?_ | refine Cd.reg ?_ | refine Cd.block ?_ | refine Cd.cond ?_ | refine Cd.dreg ?_ | refine Cd.skip ?_ | refine Cd.ret ?_ | refine Cd.exit ?_ | refine Cd.loop ?_ | refine ⟨rfl, ?_⟩ | refine ⟨Nat.le_of_ble_eq_true rfl, ?_⟩ | refine ⟨.inl rfl, ?_⟩ | refine ⟨fun h => Bool.noConfusion h, ?_⟩)
      conv => whnf
      refine ⟨fun _ => ⟨by omega, by show f < (65 : Int); omega⟩, ?_⟩
      repeat ((conv => whnf); first | refine Cd.seq ?_ | refine Cd.cut ?_ | refine Cd.reg ?_ | refine Cd.block ?_ | refine Cd.cond ?_ | refine Cd.dreg ?_ | refine Cd.skip ?_ | refine Cd.ret ?_ | refine Cd.exit ?_ | refine Cd.loop ?_ | refine ⟨rfl, ?_⟩ | refine ⟨Nat.le_of_ble_eq_true rfl, ?_⟩ | refine ⟨.inl rfl, ?_⟩ | refine ⟨fun h => Bool.noConfusion h, ?_⟩)
      conv => whnf
      refine ⟨fun _ => by show 0 < 1; decide, by omega, ?_⟩
      rw [get_barr _ f hj, show decide (f ∈ x.A ++ x.I) = true by simpa using hin]
      repeat ((conv => whnf); first | refine Cd.seq ?_ | refine Cd.cut ?_ | refine Cd.reg ?_ | refine Cd.block ?_ | refine Cd.cond ?_ | refine Cd.dreg ?_ | refine Cd.skip ?_ | refine Cd.ret ?_ | refine Cd.exit ?_ | refine Cd.loop ?_ | refine ⟨rfl, ?_⟩ | refine ⟨Nat.le_of_ble_eq_true rfl, ?_⟩ | refine ⟨.inl rfl, ?_⟩ | refine ⟨fun h => Bool.noConfusion h, ?_⟩)
      conv => whnf
      rw [show decide (f < 1) = false by rw [decide_eq_false_iff_not]; omega, show decide (64 < f) = false by rw [decide_eq_false_iff_not]; omega]
      repeat ((conv => whnf); first | refine Cd.seq ?_ | refine Cd.cut ?_ | refine Cd.reg ?_ | refine Cd.block ?_ | refine Cd.cond ?_ | refine Cd.dreg ?_ | refine Cd.skip ?_ | refine Cd.ret ?_ | refine Cd.exit ?_ | refine Cd.loop ?_ | refine ⟨rfl, ?_⟩ | refine ⟨Nat.le_of_ble_eq_true rfl, ?_⟩ | refine ⟨.inl rfl, ?_⟩ | refine ⟨fun h => Bool.noConfusion h, ?_⟩ | refine ⟨?_, fun h => Bool.noConfusion h⟩ | refine fun (_ : false = false) => ?_ | refine fun (_ : true = true) => ?_)
      conv => whnf
      rw [hi1]
      refine ⟨i + 1, by show i + 1 ≤ _; omega, ?_, by show m'.I.length - (i + 1) < m'.I.length - i; omega⟩
      refine viewI [some 0, some 1, some 2] rfl rfl ?_ rfl ?_ rfl ?_
      repeat' (first | exact trivial | rfl | exact .inl rfl | exact .inr rfl | exact id | exact (fun h => Bool.noConfusion h) | refine And.intro ?_ ?_)
    have g1 : i = m'.I.length := by simp at g1; omega
    clear g1
    repeat ((conv => whnf); first | refine Cd.seq ?_ | refine Cd.cut ?_ | refine Cd.reg ?_ | refine Cd.block ?_ | refine Cd.cond ?_ | refine Cd.dreg ?_ | refine Cd.skip ?_ | refine Cd.ret ?_ | refine Cd.exit ?_ | refine Cd.loop ?_ | refine ⟨rfl, ?_⟩ | refine ⟨Nat.le_of_ble_eq_true rfl, ?_⟩ | refine ⟨.inl rfl, ?_⟩ | refine ⟨fun h => Bool.noConfusion h, ?_⟩)
    conv => whnf
    rw [hk1]
    refine ⟨(k + 1, m', J'), ⟨⟨by show k + 1 ≤ 8; omega, hJ'⟩, hm', hp'⟩, ?_, by show 8 - (k + 1) < 8 - k; omega⟩
    refine viewI [some 0, some 1, some 2] rfl rfl ?_ rfl ?_ rfl ?_
    repeat' (first | exact trivial | rfl | exact .inl rfl | exact .inr rfl | exact id | exact (fun h => Bool.noConfusion h) | refine And.intro ?_ ?_)
  repeat ((conv => whnf); first | refine Cd.seq ?_ | refine Cd.cut ?_ | refine Cd.reg ?_ | refine Cd.block ?_ | refine Cd.cond ?_ | refine Cd.dreg ?_ | refine Cd.skip ?_ | refine Cd.ret ?_ | refine Cd.exit ?_ | refine Cd.loop ?_ | refine ⟨rfl, ?_⟩ | refine ⟨Nat.le_of_ble_eq_true rfl, ?_⟩ | refine ⟨.inl rfl, ?_⟩ | refine ⟨fun h => Bool.noConfusion h, ?_⟩ | refine .inl ⟨_, fun _ => ⟨purA rfl, (by first | exact ok47)⟩, .inl rfl, ?_⟩)
  conv => whnf
  refine ⟨[], ?_, rfl, trivial, rfl, ?_⟩
  · exact trivial
  try subst hk
  repeat' (first | exact trivial | rfl | exact .inl rfl | exact .inr rfl | exact id | exact (fun h => Bool.noConfusion h) | refine And.intro ?_ ?_)
end Go.Proofs.Ytcifhjkodbaghaa

