/- Stream: kind, Matches. -/
import Derived.Test.YteelckbeekgfiaaDoorW3
set_option linter.unusedSimpArgs false
set_option linter.unusedVariables false
namespace Go.Proofs.YteelckbeekgfiaaDoor
open Go Go.Sk Go.RowKit

/- pagecache/stream.kind -/
def rc46 : RC :=
  (.seq
  (.reg [⟨(some 3), none, (.box (.t 0))⟩,
    ⟨(some 6), none, (.mv (.c (.int .i64 0)))⟩,
    ⟨(some 7), none, (.mv (.c (.bool false)))⟩] [])
  (.seq
  (.reg [⟨(some 10), none, (.faddr 0 (.t 3))⟩,
    ⟨(some 11), none, (.ld false 1 (.t 10))⟩,
    ⟨(some 12), none, (.bin .eql (.t 11) (.c (.int .i64 1)))⟩,
    ⟨(some 8), none, (.mv (.t 12))⟩] [10, 11, 12])
  (.seq
  (.seq
  (.reg [⟨(some 13), none, (.mv (.t 8))⟩,
    ⟨(some 14), none, (.mv (.t 13))⟩,
    ⟨(some 15), (some (14, false)), (.faddr 0 (.t 3))⟩,
    ⟨(some 16), (some (14, false)), (.ld false 1 (.t 15))⟩,
    ⟨(some 17), (some (14, false)), (.bin .eql (.t 16) (.c (.int .i64 2)))⟩,
    ⟨(some 18), none, (.pick (.t 14) (.c (.bool true)) (.t 17))⟩,
    ⟨(some 19), none, (.mv (.t 18))⟩,
    ⟨(some 20), (some (19, true)), (.mv (.t 1))⟩,
    ⟨(some 21), (some (19, true)), (.faddr 2 (.t 3))⟩,
    ⟨(some 22), (some (19, true)), (.ld false 1 (.t 21))⟩,
    ⟨(some 23), (some (19, true)), (.bin .eql (.t 20) (.t 22))⟩,
    ⟨(some 24), (some (19, true)), (.mv (.t 23))⟩,
    ⟨(some 25), (some (24, false)), (.mv (.t 1))⟩,
    ⟨(some 26), (some (24, false)), (.faddr 2 (.t 3))⟩,
    ⟨(some 27), (some (24, false)), (.ld false 1 (.t 26))⟩,
    ⟨(some 28), (some (24, false)), (.bin .sub (.t 27) (.c (.int .i64 1)))⟩,
    ⟨(some 29), (some (24, false)), (.bin .eql (.t 25) (.t 28))⟩,
    ⟨(some 30), (some (19, true)), (.pick (.t 24) (.c (.bool true)) (.t 29))⟩,
    ⟨(some 31), none, (.pick (.t 19) (.t 30) (.c (.bool false)))⟩,
    ⟨(some 32), none, (.mv (.t 31))⟩,
    ⟨(some 33), (some (32, true)), (.mv (.t 2))⟩,
    ⟨(some 34), (some (32, true)), (.faddr 2 (.t 3))⟩,
    ⟨(some 35), (some (32, true)), (.ld false 1 (.t 34))⟩,
    ⟨(some 36), (some (32, true)), (.bin .gtr (.t 33) (.t 35))⟩,
    ⟨(some 37), none, (.pick (.t 32) (.t 36) (.c (.bool false)))⟩] [13, 14, 15, 16, 17, 18, 19, 20, 21, 22, 23, 24, 25, 26, 27, 28, 29, 30, 31, 32, 33, 34, 35, 36])
  (.cond (.t 37)
   (.seq
   (.reg [⟨(some 6), none, (.mv (.c (.int .i64 2)))⟩,
     ⟨(some 7), none, (.mv (.c (.bool true)))⟩] [])
   .ret)
   .skip))
  (.seq
  (.seq
  (.reg [⟨(some 38), none, (.mv (.t 8))⟩,
    ⟨(some 39), none, (.mv (.t 38))⟩,
    ⟨(some 40), (some (39, false)), (.faddr 0 (.t 3))⟩,
    ⟨(some 41), (some (39, false)), (.ld false 1 (.t 40))⟩,
    ⟨(some 42), (some (39, false)), (.bin .eql (.t 41) (.c (.int .i64 3)))⟩,
    ⟨(some 43), none, (.pick (.t 39) (.c (.bool true)) (.t 42))⟩,
    ⟨(some 44), none, (.mv (.t 43))⟩,
    ⟨(some 45), (some (44, true)), (.mv (.t 2))⟩,
    ⟨(some 46), (some (44, true)), (.faddr 1 (.t 3))⟩,
    ⟨(some 47), (some (44, true)), (.ld false 1 (.t 46))⟩,
    ⟨(some 48), (some (44, true)), (.bin .eql (.t 45) (.t 47))⟩,
    ⟨(some 49), (some (44, true)), (.mv (.t 48))⟩,
    ⟨(some 50), (some (49, false)), (.mv (.t 2))⟩,
    ⟨(some 51), (some (49, false)), (.faddr 1 (.t 3))⟩,
    ⟨(some 52), (some (49, false)), (.ld false 1 (.t 51))⟩,
    ⟨(some 53), (some (49, false)), (.bin .add (.t 52) (.c (.int .i64 1)))⟩,
    ⟨(some 54), (some (49, false)), (.bin .eql (.t 50) (.t 53))⟩,
    ⟨(some 55), (some (44, true)), (.pick (.t 49) (.c (.bool true)) (.t 54))⟩,
    ⟨(some 56), none, (.pick (.t 44) (.t 55) (.c (.bool false)))⟩,
    ⟨(some 57), none, (.mv (.t 56))⟩,
    ⟨(some 58), (some (57, true)), (.mv (.t 1))⟩,
    ⟨(some 59), (some (57, true)), (.faddr 1 (.t 3))⟩,
    ⟨(some 60), (some (57, true)), (.ld false 1 (.t 59))⟩,
    ⟨(some 61), (some (57, true)), (.bin .lss (.t 58) (.t 60))⟩,
    ⟨(some 62), none, (.pick (.t 57) (.t 61) (.c (.bool false)))⟩] [38, 39, 40, 41, 42, 43, 44, 45, 46, 47, 48, 49, 50, 51, 52, 53, 54, 55, 56, 57, 58, 59, 60, 61])
  (.cond (.t 62)
   (.seq
   (.reg [⟨(some 6), none, (.mv (.c (.int .i64 3)))⟩,
     ⟨(some 7), none, (.mv (.c (.bool true)))⟩] [])
   .ret)
   .skip))
  (.seq
  (.reg [⟨(some 63), none, (.mv (.t 1))⟩,
    ⟨(some 64), none, (.faddr 1 (.t 3))⟩,
    ⟨(some 65), none, (.ld false 1 (.t 64))⟩,
    ⟨(some 66), none, (.bin .sub (.t 63) (.t 65))⟩,
    ⟨(some 9), none, (.mv (.t 66))⟩] [63, 64, 65, 66])
  (.seq
  (.seq
  (.dreg 8192 8688 [⟨(some 67), none, (.mv (.t 8))⟩,
    ⟨(some 68), none, (.mv (.t 67))⟩,
    ⟨(some 69), (some (68, true)), (.mv (.t 9))⟩,
    ⟨(some 70), (some (68, true)), (.call 44 [(.t 69)])⟩,
    ⟨(some 71), (some (68, true)), (.un .not (.t 70))⟩,
    ⟨(some 72), (some (68, true)), (.mv (.t 71))⟩,
    ⟨(some 73), (some (72, false)), (.faddr 2 (.t 3))⟩,
    ⟨(some 74), (some (72, false)), (.ld false 1 (.t 73))⟩,
    ⟨(some 75), (some (72, false)), (.faddr 1 (.t 3))⟩,
    ⟨(some 76), (some (72, false)), (.ld false 1 (.t 75))⟩,
    ⟨(some 77), (some (72, false)), (.bin .sub (.t 74) (.t 76))⟩,
    ⟨(some 78), (some (72, false)), (.mv (.t 9))⟩,
    ⟨(some 79), (some (72, false)), (.call 45 [(.t 78)])⟩,
    ⟨(some 80), (some (72, false)), (.bin .gtr (.t 77) (.t 79))⟩,
    ⟨(some 81), (some (68, true)), (.pick (.t 72) (.c (.bool true)) (.t 80))⟩,
    ⟨(some 82), none, (.pick (.t 68) (.t 81) (.c (.bool false)))⟩,
    ⟨(some 83), none, (.mv (.t 82))⟩,
    ⟨(some 84), (some (83, false)), (.mv (.t 8))⟩,
    ⟨(some 85), (some (83, false)), (.un .not (.t 84))⟩,
    ⟨(some 86), (some (83, false)), (.mv (.t 85))⟩,
    ⟨(some 87), (some (86, true)), (.faddr 0 (.t 3))⟩,
    ⟨(some 88), (some (86, true)), (.ld false 1 (.t 87))⟩,
    ⟨(some 89), (some (86, true)), (.bin .neq (.t 88) (.c (.int .i64 4)))⟩,
    ⟨(some 90), (some (86, true)), (.mv (.t 89))⟩,
    ⟨(some 91), (some (90, false)), (.mv (.t 9))⟩,
    ⟨(some 92), (some (90, false)), (.faddr 3 (.t 3))⟩,
    ⟨(some 93), (some (90, false)), (.ld false 1 (.t 92))⟩,
    ⟨(some 94), (some (90, false)), (.bin .neq (.t 91) (.t 93))⟩,
    ⟨(some 95), (some (86, true)), (.pick (.t 90) (.c (.bool true)) (.t 94))⟩,
    ⟨(some 96), (some (83, false)), (.pick (.t 86) (.t 95) (.c (.bool false)))⟩,
    ⟨(some 97), none, (.pick (.t 83) (.c (.bool true)) (.t 96))⟩] [67, 68, 69, 70, 71, 72, 73, 74, 75, 76, 77, 78, 79, 80, 81, 82, 83, 84, 85, 86, 87, 88, 89, 90, 91, 92, 93, 94, 95, 96] [[], [0], [1, 0], [2, 1, 0], [3, 2, 1, 0], [4, 3, 2, 1, 0], [5, 0, 1, 2, 3, 4], [6, 5, 0, 1, 2, 3, 4], [5, 0, 1, 2, 3, 4], [8, 5, 0, 1, 2, 3, 4], [7, 6, 9, 8, 5, 0, 1, 2, 3, 4], [5, 0, 1, 2, 3, 4], [11, 5, 0, 1, 2, 3, 4], [10, 8, 9, 6, 7, 12, 11, 5, 0, 1, 2, 3, 4], [13, 4, 3, 2, 5, 11, 12, 7, 6, 9, 8, 10, 1, 0], [14, 0, 1, 10, 8, 9, 6, 7, 12, 11, 5, 2, 3, 4, 13], [15, 13, 7, 6, 9, 8, 10, 14, 12, 4, 3, 2, 1, 0, 5, 11], [16, 11, 5, 0, 1, 2, 3, 4, 12, 14, 10, 8, 9, 6, 7, 13, 15], [17, 16, 11, 5, 0, 1, 2, 3, 4, 12, 14, 10, 8, 9, 6, 7, 13, 15], [18, 17, 16, 11, 5, 0, 1, 2, 3, 4, 12, 14, 10, 8, 9, 6, 7, 13, 15], [19, 15, 13, 7, 6, 9, 8, 10, 14, 12, 4, 3, 2, 1, 0, 5, 11, 16, 17, 18], [20, 19, 15, 13, 7, 6, 9, 8, 10, 14, 12, 4, 3, 2, 1, 0, 5, 11, 16, 17, 18], [21, 20, 19, 15, 13, 7, 6, 9, 8, 10, 14, 12, 4, 3, 2, 1, 0, 5, 11, 16, 17, 18], [22, 20, 21, 19, 15, 13, 7, 6, 9, 8, 10, 14, 12, 4, 3, 2, 1, 0, 5, 11, 16, 17, 18], [23, 18, 17, 16, 11, 5, 0, 1, 2, 3, 4, 12, 14, 10, 8, 9, 6, 7, 13, 15, 19, 21, 20, 22], [23, 18, 17, 16, 11, 5, 0, 1, 2, 3, 4, 12, 14, 10, 8, 9, 6, 7, 13, 15, 19, 21, 20, 22], [25, 23, 18, 17, 16, 11, 5, 0, 1, 2, 3, 4, 12, 14, 10, 8, 9, 6, 7, 13, 15, 19, 21, 20, 22], [24, 26, 25, 23, 18, 17, 16, 11, 5, 0, 1, 2, 3, 4, 12, 14, 10, 8, 9, 6, 7, 13, 15, 19, 21, 20, 22], [27, 22, 20, 21, 23, 25, 26, 24, 19, 15, 13, 7, 6, 9, 8, 10, 14, 12, 4, 3, 2, 1, 0, 5, 11, 16, 17, 18], [28, 18, 17, 19, 24, 26, 25, 23, 21, 20, 22, 27, 16, 11, 5, 0, 1, 2, 3, 4, 12, 14, 10, 8, 9, 6, 7, 13, 15], [29, 15, 13, 7, 6, 9, 8, 10, 14, 12, 4, 3, 2, 1, 0, 5, 11, 16, 27, 22, 20, 21, 23, 25, 26, 24, 19, 17, 18, 28]] [8192, 8208, 8224, 8240, 8256, 8272, 8288, 8304, 8320, 8336, 8352, 8368, 8384, 8400, 8416, 8432, 8448, 8464, 8480, 8496, 8512, 8528, 8544, 8560, 8576, 8592, 8608, 8624, 8640, 8656, 8672])
  (.cond (.t 97)
   (.seq
   (.reg [⟨(some 6), none, (.mv (.c (.int .i64 0)))⟩,
     ⟨(some 7), none, (.mv (.c (.bool false)))⟩] [])
   .ret)
   .skip))
  (.seq
  (.reg [⟨(some 98), none, (.mv (.t 2))⟩,
    ⟨(some 99), none, (.mv (.t 1))⟩,
    ⟨(some 100), none, (.bin .sub (.t 98) (.t 99))⟩,
    ⟨(some 101), none, (.mv (.t 9))⟩,
    ⟨(some 102), none, (.call 45 [(.t 101)])⟩,
    ⟨(some 103), none, (.bin .leq (.t 100) (.t 102))⟩,
    ⟨(some 6), none, (.mv (.c (.int .i64 4)))⟩,
    ⟨(some 7), none, (.mv (.t 103))⟩] [98, 99, 100, 101, 102, 103])
  .ret)))))))
theorem rcq46 : resC Go.Proofs.Tryd.prog Go.Proofs.Tryd.f46.ntmps ((Go.Proofs.Tryd.f46.body).getD .skip) = some (strip rc46) := by kernel_rfl
def rv46 : List RV := [(.tmp 6), (.tmp 7)]
theorem rvq46 : Go.Proofs.Tryd.f46.results.toList.mapM (resRV Go.Proofs.Tryd.prog) = some rv46 := by kernel_rfl


def kc1 (s : Stm) (a b : Int) : Bool := bif bif bif s.kind == 1 then true else s.kind == 2 then bif a == s.stop then true else a == IntKind.i64.wrap (s.stop - 1) else false then decide (s.stop < b) else false
def kc2 (s : Stm) (a b : Int) : Bool := bif bif bif s.kind == 1 then true else s.kind == 3 then bif b == s.start then true else b == IntKind.i64.wrap (s.start + 1) else false then decide (a < s.start) else false
def kc3 (s : Stm) (a : Int) : Bool := bif bif s.kind == 1 then bif !strideF (IntKind.i64.wrap (a - s.start)) then true else decide (sizeF (IntKind.i64.wrap (a - s.start)) < IntKind.i64.wrap (s.stop - s.start)) else false then true
  else bif !(s.kind == 1) then bif s.kind != 4 then true else IntKind.i64.wrap (a - s.start) != s.step else false
def kindF (s : Stm) (a b : Int) : Int × Bool :=
  if kc1 s a b = true then (2, true) else if kc2 s a b = true then (3, true) else if kc3 s a = true then (0, false) else (4, decide (IntKind.i64.wrap (b - a) ≤ sizeF (IntKind.i64.wrap (a - s.start))))
theorem ok46 (s : Stm) (a b : Int) : FnC Tryd.prog 46 [] [.agg s.c, .int .i64 a, .int .i64 b] (.tup [.int .i64 (kindF s a b).1, .bool (kindF s a b).2]) [] := by
  refine fn_okF (ob0 := []) (rc := rc46) (rvs := rv46) Tryd.func46 rfl rcq46 rvq46 (show 3 ≤ _ by decide) ?_
  generalize hk : kindF s a b = q
  repeat ((conv => whnf); first | refine ⟨rfl, ?_⟩ | refine ⟨Nat.le_of_ble_eq_true rfl, ?_⟩)
  conv => whnf
  refine ⟨fun h1 => ?_, fun h1 => ?_⟩
  · have h1 : kc1 s a b = true := h1
    obtain rfl : q = (2, true) := by rw [← hk, kindF, if_pos h1]
    repeat ((conv => whnf); first | refine ⟨rfl, ?_⟩ | refine ⟨Nat.le_of_ble_eq_true rfl, ?_⟩)
    conv => whnf
    refine ⟨[], trivial, rfl, trivial, rfl, ?_⟩
    exact ⟨⟨rfl, rfl⟩, rfl, trivial⟩
  have h1 : kc1 s a b = false := h1
  repeat ((conv => whnf); first | refine ⟨rfl, ?_⟩ | refine ⟨Nat.le_of_ble_eq_true rfl, ?_⟩)
  conv => whnf
  refine ⟨fun h2 => ?_, fun h2 => ?_⟩
  · have h2 : kc2 s a b = true := h2
    obtain rfl : q = (3, true) := by rw [← hk, kindF, if_neg (by rw [h1]; simp), if_pos h2]
    repeat ((conv => whnf); first | refine ⟨rfl, ?_⟩ | refine ⟨Nat.le_of_ble_eq_true rfl, ?_⟩)
    conv => whnf
    refine ⟨[], trivial, rfl, trivial, rfl, ?_⟩
    exact ⟨⟨rfl, rfl⟩, rfl, trivial⟩
  have h2 : kc2 s a b = false := h2
  repeat ((conv => whnf); first | refine ⟨rfl, ?_⟩ | refine ⟨Nat.le_of_ble_eq_true rfl, ?_⟩)
  conv => whnf
  refine .inl ⟨_, fun _ => ⟨pur0 rfl, ok44 _⟩, .inl rfl, ?_⟩
  repeat ((conv => whnf); first | refine ⟨rfl, ?_⟩ | refine ⟨Nat.le_of_ble_eq_true rfl, ?_⟩)
  conv => whnf
  refine .inl ⟨_, fun _ => ⟨pur0 rfl, ok45 _⟩, .inl rfl, ?_⟩
  repeat ((conv => whnf); first | refine ⟨rfl, ?_⟩ | refine ⟨Nat.le_of_ble_eq_true rfl, ?_⟩)
  conv => whnf
  refine ⟨fun h3 => ?_, fun h3 => ?_⟩
  · have h3 : kc3 s a = true := h3
    obtain rfl : q = (0, false) := by rw [← hk, kindF, if_neg (by rw [h1]; simp), if_neg (by rw [h2]; simp), if_pos h3]
    repeat ((conv => whnf); first | refine ⟨rfl, ?_⟩ | refine ⟨Nat.le_of_ble_eq_true rfl, ?_⟩)
    conv => whnf
    refine ⟨[], trivial, rfl, trivial, rfl, ?_⟩
    exact ⟨⟨rfl, rfl⟩, rfl, trivial⟩
  have h3 : kc3 s a = false := h3
  obtain rfl : q = (4, decide (IntKind.i64.wrap (b - a) ≤ sizeF (IntKind.i64.wrap (a - s.start)))) := by rw [← hk, kindF, if_neg (by rw [h1]; simp), if_neg (by rw [h2]; simp), if_neg (by rw [h3]; simp)]
  repeat ((conv => whnf); first | refine ⟨rfl, ?_⟩ | refine ⟨Nat.le_of_ble_eq_true rfl, ?_⟩)
  conv => whnf
  refine .inl ⟨_, fun _ => ⟨pur0 rfl, ok45 _⟩, .inl rfl, ?_⟩
  repeat ((conv => whnf); first | refine ⟨rfl, ?_⟩ | refine ⟨Nat.le_of_ble_eq_true rfl, ?_⟩)
  conv => whnf
  refine ⟨[], trivial, rfl, trivial, rfl, ?_⟩
  exact ⟨⟨rfl, rfl⟩, rfl, trivial⟩
end Go.Proofs.YteelckbeekgfiaaDoor
