/- Readahead: the reference's Plan. -/
import Derived.Test.YteelckbeekgfiaaDoorR5
import Derived.Test.YteelckbeekgfiaaDoorW12b
set_option linter.unusedSimpArgs false
set_option linter.unusedVariables false
namespace Go.Proofs.YteelckbeekgfiaaDoor
open Go Go.Sk Go.RowKit

/- pagecache/pagecacheref07.Plan -/
def rc10 : RC :=
  (.seq
  (.reg [⟨(some 5), none, (.box (.t 0))⟩,
    ⟨(some 6), none, (.box (.t 1))⟩,
    ⟨(some 10), none, (.alloc [(.int .i64 0), (.int .i64 0), (.int .i64 0)])⟩,
    ⟨(some 11), none, (.mv (.c (.lst 0 true [])))⟩,
    ⟨(some 12), none, (.mv (.c (.int .i64 0)))⟩] [])
  (.seq
  (.seq
  (.reg [⟨(some 18), none, (.ld true 3 (.t 5))⟩,
    ⟨(some 19), none, (.call 15 [(.t 18)])⟩,
    ⟨(some 20), none, (.un .not (.t 19))⟩,
    ⟨(some 21), none, (.mv (.t 20))⟩,
    ⟨(some 22), (some (21, false)), (.ld true 6 (.t 6))⟩,
    ⟨(some 23), (some (21, false)), (.call 29 [(.t 22)])⟩,
    ⟨(some 24), (some (21, false)), (.un .not (.t 23))⟩,
    ⟨(some 25), none, (.pick (.t 21) (.c (.bool true)) (.t 24))⟩] [18, 19, 20, 21, 22, 23, 24])
  (.cond (.t 25)
   (.seq
   (.reg [⟨(some 26), none, (.build [(.int .i64 0), (.int .i64 0), (.int .i64 0)] [])⟩,
     ⟨none, none, (.st 3 (.t 10) (.t 26))⟩,
     ⟨(some 11), none, (.mv (.c (.lst 0 true [])))⟩,
     ⟨(some 12), none, (.mv (.c (.int .i64 1)))⟩] [26])
   .ret)
   .skip))
  (.seq
  (.seq
  (.reg [⟨(some 27), none, (.mv (.t 2))⟩,
    ⟨(some 28), none, (.mv (.t 3))⟩,
    ⟨(some 29), none, (.call 30 [(.t 27), (.t 28)])⟩,
    ⟨(some 30), none, (.un .not (.t 29))⟩,
    ⟨(some 31), none, (.mv (.t 30))⟩,
    ⟨(some 32), (some (31, false)), (.mv (.t 4))⟩,
    ⟨(some 33), (some (31, false)), (.bin .lss (.t 32) (.c (.int .i64 0)))⟩,
    ⟨(some 34), none, (.pick (.t 31) (.c (.bool true)) (.t 33))⟩,
    ⟨(some 35), none, (.mv (.t 34))⟩,
    ⟨(some 36), (some (35, false)), (.mv (.t 4))⟩,
    ⟨(some 37), (some (35, false)), (.bin .gtr (.t 36) (.c (.int .i64 256)))⟩,
    ⟨(some 38), none, (.pick (.t 35) (.c (.bool true)) (.t 37))⟩] [27, 28, 29, 30, 31, 32, 33, 34, 35, 36, 37])
  (.cond (.t 38)
   (.seq
   (.reg [⟨(some 39), none, (.build [(.int .i64 0), (.int .i64 0), (.int .i64 0)] [])⟩,
     ⟨none, none, (.st 3 (.t 10) (.t 39))⟩,
     ⟨(some 11), none, (.mv (.c (.lst 0 true [])))⟩,
     ⟨(some 12), none, (.mv (.c (.int .i64 2)))⟩] [39])
   .ret)
   .skip))
  (.seq
  (.seq
  (.reg [⟨(some 40), none, (.ld true 6 (.t 6))⟩,
    ⟨(some 41), none, (.call 31 [(.t 40)])⟩,
    ⟨(some 42), none, (.un .not (.t 41))⟩] [40, 41])
  (.cond (.t 42)
   (.seq
   (.reg [⟨(some 43), none, (.build [(.int .i64 0), (.int .i64 0), (.int .i64 0)] [])⟩,
     ⟨none, none, (.st 3 (.t 10) (.t 43))⟩,
     ⟨(some 11), none, (.mv (.c (.lst 0 true [])))⟩,
     ⟨(some 12), none, (.mv (.c (.int .i64 0)))⟩] [43])
   .ret)
   .skip))
  (.seq
  (.seq
  (.reg [⟨(some 44), none, (.faddr 0 (.t 6))⟩,
    ⟨(some 45), none, (.ld false 1 (.t 44))⟩,
    ⟨(some 46), none, (.bin .neq (.t 45) (.c (.int .i64 2)))⟩] [44, 45])
  (.cond (.t 46)
   (.seq
   (.dreg 9216 9408 [⟨(some 47), none, (.build [(.int .i64 0), (.int .i64 0), (.int .i64 0)] [])⟩,
     ⟨(some 48), none, (.ld true 6 (.t 6))⟩,
     ⟨(some 49), none, (.mv (.t 3))⟩,
     ⟨(some 50), none, (.mv (.t 2))⟩,
     ⟨(some 51), none, (.bin .sub (.t 49) (.t 50))⟩,
     ⟨(some 52), none, (.call 17 [(.t 51)])⟩,
     ⟨(some 53), none, (.call 22 [(.t 48), (.t 52)])⟩,
     ⟨(some 54), none, (.mv (.t 4))⟩,
     ⟨(some 55), none, (.call 32 [(.t 53), (.t 54)])⟩,
     ⟨none, none, (.st 3 (.t 10) (.t 47))⟩,
     ⟨(some 11), none, (.mv (.t 55))⟩,
     ⟨(some 12), none, (.mv (.c (.int .i64 0)))⟩] [47, 48, 49, 50, 51, 52, 53, 54, 55] [[], [], [], [], [2, 3], [4, 3, 2], [1, 5, 2, 3, 4], [], [7, 6, 4, 3, 2, 5, 1], [8, 1, 5, 2, 3, 4, 6, 7, 0], [9, 0, 7, 6, 4, 3, 2, 5, 1, 8], [10, 8, 1, 5, 2, 3, 4, 6, 7, 0, 9]] [9216, 9232, 9248, 9264, 9280, 9296, 9312, 9328, 9344, 9360, 9376, 9392])
   .ret)
   .skip))
  (.seq
  (.reg [⟨(some 56), none, (.mv (.t 3))⟩,
    ⟨(some 57), none, (.mv (.t 3))⟩,
    ⟨(some 58), none, (.mv (.t 2))⟩,
    ⟨(some 59), none, (.bin .sub (.t 57) (.t 58))⟩,
    ⟨(some 60), none, (.call 17 [(.t 59)])⟩,
    ⟨(some 61), none, (.build [(.int .i64 0), (.int .i64 0), (.int .i64 0)] [(0, (1, (.t 56))), (1, (1, (.t 60)))])⟩,
    ⟨(some 13), none, (.alloc [(.int .i64 0), (.int .i64 0), (.int .i64 0)])⟩,
    ⟨none, none, (.st 3 (.t 13) (.t 61))⟩] [56, 57, 58, 59, 60, 61])
  (.seq
  (.reg [⟨(some 63), none, (.ld true 3 (.t 5))⟩,
    ⟨(some 64), none, (.call 12 [(.t 63)])⟩,
    ⟨(some 62), none, (.mv (.t 64))⟩,
    ⟨(some 65), none, (.extr 0 (.t 62))⟩,
    ⟨(some 66), none, (.extr 1 (.t 62))⟩,
    ⟨(some 14), none, (.mv (.t 65))⟩,
    ⟨(some 15), none, (.mv (.t 66))⟩] [63, 64, 62, 65, 66])
  (.seq
  (.reg [⟨(some 67), none, (.faddr 0 (.t 5))⟩,
    ⟨(some 68), none, (.ld false 1 (.t 67))⟩,
    ⟨(some 69), none, (.faddr 1 (.t 5))⟩,
    ⟨(some 70), none, (.ld false 1 (.t 69))⟩,
    ⟨(some 71), none, (.bin .add (.t 68) (.t 70))⟩,
    ⟨(some 72), none, (.bin .sub (.t 71) (.c (.int .i64 1)))⟩,
    ⟨(some 16), none, (.mv (.t 72))⟩] [67, 68, 69, 70, 71, 72])
  (.seq
  (.block 0
   (.seq
   (.reg [⟨(some 75), none, (.ld true 3 (.t 5))⟩,
     ⟨(some 76), none, (.build [(.int .i64 0), (.int .i64 0), (.int .i64 0)] [])⟩,
     ⟨(some 77), none, (.eqs true [(0, false), (1, false), (2, false)] (.t 75) (.t 76))⟩,
     ⟨(some 78), none, (.mv (.t 77))⟩,
     ⟨(some 79), (some (78, true)), (.mv (.t 15))⟩,
     ⟨(some 80), (some (78, true)), (.mv (.t 79))⟩,
     ⟨(some 81), (some (80, true)), (.mv (.t 14))⟩,
     ⟨(some 82), (some (80, true)), (.mv (.t 2))⟩,
     ⟨(some 83), (some (80, true)), (.bin .geq (.t 81) (.t 82))⟩,
     ⟨(some 84), (some (78, true)), (.pick (.t 80) (.t 83) (.c (.bool false)))⟩,
     ⟨(some 85), (some (78, true)), (.mv (.t 84))⟩,
     ⟨(some 86), (some (85, true)), (.mv (.t 14))⟩,
     ⟨(some 87), (some (85, true)), (.mv (.t 3))⟩,
     ⟨(some 88), (some (85, true)), (.bin .lss (.t 86) (.t 87))⟩,
     ⟨(some 89), (some (78, true)), (.pick (.t 85) (.t 88) (.c (.bool false)))⟩,
     ⟨(some 90), (some (78, true)), (.mv (.t 89))⟩,
     ⟨(some 91), (some (90, false)), (.mv (.t 16))⟩,
     ⟨(some 92), (some (90, false)), (.mv (.t 2))⟩,
     ⟨(some 93), (some (90, false)), (.bin .geq (.t 91) (.t 92))⟩,
     ⟨(some 94), (some (90, false)), (.mv (.t 93))⟩,
     ⟨(some 95), (some (94, true)), (.mv (.t 16))⟩,
     ⟨(some 96), (some (94, true)), (.mv (.t 3))⟩,
     ⟨(some 97), (some (94, true)), (.bin .lss (.t 95) (.t 96))⟩,
     ⟨(some 98), (some (90, false)), (.pick (.t 94) (.t 97) (.c (.bool false)))⟩,
     ⟨(some 99), (some (78, true)), (.pick (.t 90) (.c (.bool true)) (.t 98))⟩,
     ⟨(some 100), none, (.pick (.t 78) (.t 99) (.c (.bool false)))⟩,
     ⟨(some 74), none, (.mv (.t 100))⟩] [75, 76, 77, 78, 79, 80, 81, 82, 83, 84, 85, 86, 87, 88, 89, 90, 91, 92, 93, 94, 95, 96, 97, 98, 99, 100])
   (.cond (.t 74)
    (.dreg 15360 15552 [⟨(some 101), none, (.faddr 0 (.t 5))⟩,
      ⟨(some 102), none, (.ld false 1 (.t 101))⟩,
      ⟨(some 103), none, (.faddr 1 (.t 5))⟩,
      ⟨(some 104), none, (.ld false 1 (.t 103))⟩,
      ⟨(some 105), none, (.bin .add (.t 102) (.t 104))⟩,
      ⟨(some 106), none, (.mv (.t 3))⟩,
      ⟨(some 107), none, (.mx (.t 105) (.t 106))⟩,
      ⟨(some 108), none, (.faddr 1 (.t 5))⟩,
      ⟨(some 109), none, (.ld false 1 (.t 108))⟩,
      ⟨(some 110), none, (.call 19 [(.t 109)])⟩,
      ⟨(some 111), none, (.build [(.int .i64 0), (.int .i64 0), (.int .i64 0)] [(0, (1, (.t 107))), (1, (1, (.t 110)))])⟩,
      ⟨none, none, (.st 3 (.t 13) (.t 111))⟩] [101, 102, 103, 104, 105, 106, 107, 108, 109, 110, 111] [[], [0], [], [2], [1, 0, 3, 2], [], [4, 2, 3, 0, 1, 5], [], [7], [8, 7], [6, 5, 1, 0, 3, 2, 4, 9, 7, 8], [10, 8, 7, 9, 4, 2, 3, 0, 1, 5, 6]] [15360, 15376, 15392, 15408, 15424, 15440, 15456, 15472, 15488, 15504, 15520, 15536])
    (.seq
    (.reg [⟨(some 113), none, (.ld true 3 (.t 5))⟩,
      ⟨(some 114), none, (.build [(.int .i64 0), (.int .i64 0), (.int .i64 0)] [])⟩,
      ⟨(some 115), none, (.eqs false [(0, false), (1, false), (2, false)] (.t 113) (.t 114))⟩,
      ⟨(some 116), none, (.mv (.t 115))⟩,
      ⟨(some 117), (some (116, false)), (.mv (.t 3))⟩,
      ⟨(some 118), (some (116, false)), (.faddr 0 (.t 5))⟩,
      ⟨(some 119), (some (116, false)), (.ld false 1 (.t 118))⟩,
      ⟨(some 120), (some (116, false)), (.faddr 1 (.t 5))⟩,
      ⟨(some 121), (some (116, false)), (.ld false 1 (.t 120))⟩,
      ⟨(some 122), (some (116, false)), (.bin .sub (.t 119) (.t 121))⟩,
      ⟨(some 123), (some (116, false)), (.bin .leq (.t 117) (.t 122))⟩,
      ⟨(some 124), none, (.pick (.t 116) (.c (.bool true)) (.t 123))⟩,
      ⟨(some 125), none, (.mv (.t 124))⟩,
      ⟨(some 126), (some (125, false)), (.mv (.t 2))⟩,
      ⟨(some 127), (some (125, false)), (.faddr 0 (.t 5))⟩,
      ⟨(some 128), (some (125, false)), (.ld false 1 (.t 127))⟩,
      ⟨(some 129), (some (125, false)), (.faddr 1 (.t 5))⟩,
      ⟨(some 130), (some (125, false)), (.ld false 1 (.t 129))⟩,
      ⟨(some 131), (some (125, false)), (.bin .add (.t 128) (.t 130))⟩,
      ⟨(some 132), (some (125, false)), (.bin .gtr (.t 126) (.t 131))⟩,
      ⟨(some 133), none, (.pick (.t 125) (.c (.bool true)) (.t 132))⟩,
      ⟨(some 112), none, (.mv (.t 133))⟩] [113, 114, 115, 116, 117, 118, 119, 120, 121, 122, 123, 124, 125, 126, 127, 128, 129, 130, 131, 132, 133])
    (.cond (.t 112)
     .skip
     (.seq
     (.reg [⟨(some 73), none, (.ld true 3 (.t 5))⟩,
       ⟨none, none, (.st 3 (.t 10) (.t 73))⟩,
       ⟨(some 11), none, (.mv (.c (.lst 0 true [])))⟩,
       ⟨(some 12), none, (.mv (.c (.int .i64 0)))⟩] [73])
     .ret))))))
  (.seq
  (.reg [⟨(some 134), none, (.faddr 1 (.t 13))⟩,
    ⟨(some 135), none, (.ld false 1 (.t 134))⟩,
    ⟨(some 136), none, (.faddr 2 (.t 13))⟩,
    ⟨none, none, (.st 1 (.t 136) (.t 135))⟩] [134, 135, 136])
  (.seq
  (.reg [⟨(some 137), none, (.ld true 3 (.t 13))⟩,
    ⟨(some 138), none, (.call 33 [(.t 137)])⟩,
    ⟨(some 139), none, (.mv (.t 4))⟩,
    ⟨(some 140), none, (.call 32 [(.t 138), (.t 139)])⟩,
    ⟨(some 17), none, (.mv (.t 140))⟩] [137, 138, 139, 140])
  (.seq
  (.seq
  (.reg [⟨(some 141), none, (.mv (.t 17))⟩,
    ⟨(some 142), none, (.len (.t 141))⟩,
    ⟨(some 143), none, (.bin .eql (.t 142) (.c (.int .i64 0)))⟩] [141, 142])
  (.cond (.t 143)
   (.seq
   (.reg [⟨(some 144), none, (.ld true 3 (.t 5))⟩,
     ⟨none, none, (.st 3 (.t 10) (.t 144))⟩,
     ⟨(some 11), none, (.mv (.c (.lst 0 true [])))⟩,
     ⟨(some 12), none, (.mv (.c (.int .i64 0)))⟩] [144])
   .ret)
   .skip))
  (.seq
  (.reg [⟨(some 145), none, (.ld true 3 (.t 13))⟩,
    ⟨(some 146), none, (.mv (.t 17))⟩,
    ⟨none, none, (.st 3 (.t 10) (.t 145))⟩,
    ⟨(some 11), none, (.mv (.t 146))⟩,
    ⟨(some 12), none, (.mv (.c (.int .i64 0)))⟩] [145, 146])
  .ret)))))))))))))
theorem rcq10 : resC Go.Proofs.Tryd.prog Go.Proofs.Tryd.f10.ntmps ((Go.Proofs.Tryd.f10.body).getD .skip) = some (strip rc10) := by kernel_rfl
def rv10 : List RV := [(.cell 10 true 3), (.tmp 11), (.tmp 12)]
theorem rvq10 : Go.Proofs.Tryd.f10.results.toList.mapM (resRV Go.Proofs.Tryd.prog) = some rv10 := by kernel_rfl

theorem kept_seq (a b e : Int) : keptF (seqI a b) e = seqI a (min b e) := by
  obtain ⟨n, hn⟩ : ∃ n : Nat, n = (b - a).toNat := ⟨_, rfl⟩
  induction n generalizing b with
  | zero => rw [seqI_nil _ _ (by omega), seqI_nil _ _ (by omega)]; rfl
  | succ n ih =>
    have hb : a ≤ b - 1 := by omega
    rw [show b = (b - 1) + 1 by omega, seqI_succ _ _ hb, keptF, List.filter_append, ← keptF, ih (b - 1) (by omega)]
    by_cases h : b - 1 < e
    · rw [show min (b - 1 + 1) e = min (b - 1) e + 1 by omega, seqI_succ _ _ (by omega), show min (b - 1) e = b - 1 by omega]
      simp [h]
    · rw [show min (b - 1 + 1) e = min (b - 1) e by omega]
      simp [h]
theorem begin_kept (e : Int) (w : Win) (z s : Int) (hs : 1 ≤ s) : beginF e w z s = if (keptF (seqI z (z + s)) e).length = 0 then (w, []) else (⟨z, s, s⟩, keptF (seqI z (z + s)) e) := by
  rw [kept_seq, beginF, seqI_len]
  split
  · rw [if_pos (by omega)]
  · rw [if_neg (by omega)]
theorem size_zero {w : Win} (h : checkW w = true) : zeroW w = (w.size == 0) ∧ zeroW w = !decide (0 < w.size) := by
  rcases (checkW_iff w).1 h with rfl | h
  · exact ⟨rfl, rfl⟩
  · have : zeroW w = false := by rw [← Bool.not_eq_true, zeroW_iff]; rintro rfl; simp [zeroWin] at h
    rw [this]
    constructor
    · symm; simpa using (by omega : ¬ w.size = 0)
    · simpa using (by omega : 0 < w.size)
theorem onP_ref {w : Win} (a b : Int) {mk : Int × Bool} (hm : markerF w = mk) (hz2 : zeroW w = !decide (0 < w.size)) :
    (!(true && w.start == 0 && w.size == 0 && w.async == 0) && (mk.snd && decide (a ≤ mk.fst) && decide (mk.fst < b) || decide (a ≤ w.start + w.size - 1) && decide (w.start + w.size - 1 < b))) = onP w a b := by
  have hz3 : (true && w.start == 0 && w.size == 0 && w.async == 0) = !decide (0 < w.size) := hz2
  rw [hz3, Bool.not_not, onP, hm, hasF, hasF]
  simp only [Bool.cond_false_right, Bool.and_assoc]
theorem offP_ref {w : Win} (a b : Int) (hz1 : zeroW w = (w.size == 0)) :
    (((true && w.start == 0 && w.size == 0 && w.async == 0) || decide (b ≤ w.start - w.size)) || decide (w.start + w.size < a)) = offP w a b := by
  have hz3 : (true && w.start == 0 && w.size == 0 && w.async == 0) = (w.size == 0) := hz1
  rw [hz3, offP]
theorem okD33m (z n k : Int) (hs : -1000 ≤ z ∧ z ≤ 1000) (hz : 0 ≤ n ∧ n ≤ 100) : FnC Tryd.prog 33 [] [.agg (Win.mk z n k).c] (.lst 1 false (rowsI (seqI z (z + n)))) [] := okD33 ⟨z, n, k⟩ hs hz
set_option maxRecDepth 20000 in
theorem okD10 (w : Win) (s : Stm) (a b e : Int) :
    FnC Tryd.prog 10 [] [.agg w.c, .agg s.c, .int .i64 a, .int .i64 b, .int .i64 e] (.tup [.agg (planF w s a b e).1.c, .lst 1 false (rowsI (planF w s a b e).2.1), .int .i64 (planF w s a b e).2.2]) [] := by
  refine fn_okC (ob0 := []) (rc := rc10) (rvs := rv10) Tryd.func10 rfl rcq10 rvq10 (show 5 ≤ _ by decide) ?_
  generalize hk : planF w s a b e = q
  repeat ((conv => whnf); first | refine Cd.seq ?_ | refine Cd.cut ?_ | refine Cd.reg ?_ | refine Cd.block ?_ | refine Cd.cond ?_ | refine Cd.dreg ?_ | refine Cd.skip ?_ | refine Cd.ret ?_ | refine Cd.exit ?_ | refine Cd.loop ?_ | refine ⟨rfl, ?_⟩ | refine ⟨Nat.le_of_ble_eq_true rfl, ?_⟩ | refine ⟨.inl rfl, ?_⟩ | refine ⟨fun h => Bool.noConfusion h, ?_⟩ | refine .inl ⟨_, fun _ => ⟨purA rfl, (by first | exact okD15 w | exact ok29 s)⟩, .inl rfl, ?_⟩)
  conv => whnf
  refine ⟨fun h1 => ?_, fun h1 => ?_⟩ <;> try simp only [Bool.cond_true_left, Bool.cond_false_right, Bool.not_eq_true', Bool.not_eq_false', Bool.not_not] at h1
  · simp only [planF, h1, cond_true] at hk
    subst hk
    repeat ((conv => whnf); first | refine Cd.seq ?_ | refine Cd.cut ?_ | refine Cd.reg ?_ | refine Cd.block ?_ | refine Cd.cond ?_ | refine Cd.dreg ?_ | refine Cd.skip ?_ | refine Cd.ret ?_ | refine Cd.exit ?_ | refine Cd.loop ?_ | refine ⟨rfl, ?_⟩ | refine ⟨Nat.le_of_ble_eq_true rfl, ?_⟩ | refine ⟨.inl rfl, ?_⟩ | refine ⟨fun h => Bool.noConfusion h, ?_⟩)
    conv => whnf
    refine ⟨[], ?_, rfl, trivial, rfl, ?_⟩
    · exact trivial
    try subst hk
    repeat' (first | exact trivial | rfl | exact .inl rfl | exact .inr rfl | exact id | exact (fun h => Bool.noConfusion h) | refine And.intro ?_ ?_)
  simp only [planF, h1, cond_false] at hk
  have hc : checkW w = true := by revert h1; cases checkW w <;> simp
  repeat ((conv => whnf); first | refine Cd.seq ?_ | refine Cd.cut ?_ | refine Cd.reg ?_ | refine Cd.block ?_ | refine Cd.cond ?_ | refine Cd.dreg ?_ | refine Cd.skip ?_ | refine Cd.ret ?_ | refine Cd.exit ?_ | refine Cd.loop ?_ | refine ⟨rfl, ?_⟩ | refine ⟨Nat.le_of_ble_eq_true rfl, ?_⟩ | refine ⟨.inl rfl, ?_⟩ | refine ⟨fun h => Bool.noConfusion h, ?_⟩ | refine .inl ⟨_, fun _ => ⟨purA rfl, (by first | exact ok30 a b)⟩, .inl rfl, ?_⟩)
  conv => whnf
  refine ⟨fun h2 => ?_, fun h2 => ?_⟩ <;> try simp only [Bool.cond_true_left, Bool.cond_false_right, Bool.not_eq_true', Bool.not_eq_false', Bool.not_not] at h2
  · have h2 : rangeBad a b e = true := by
      simp only [validF, Bool.or_eq_true, Bool.not_eq_true', Bool.and_eq_false_iff, decide_eq_false_iff_not, decide_eq_true_eq, rangeBad] at h2 ⊢
      omega
    simp only [h2, cond_true] at hk
    subst hk
    repeat ((conv => whnf); first | refine Cd.seq ?_ | refine Cd.cut ?_ | refine Cd.reg ?_ | refine Cd.block ?_ | refine Cd.cond ?_ | refine Cd.dreg ?_ | refine Cd.skip ?_ | refine Cd.ret ?_ | refine Cd.exit ?_ | refine Cd.loop ?_ | refine ⟨rfl, ?_⟩ | refine ⟨Nat.le_of_ble_eq_true rfl, ?_⟩ | refine ⟨.inl rfl, ?_⟩ | refine ⟨fun h => Bool.noConfusion h, ?_⟩)
    conv => whnf
    refine ⟨[], ?_, rfl, trivial, rfl, ?_⟩
    · exact trivial
    try subst hk
    repeat' (first | exact trivial | rfl | exact .inl rfl | exact .inr rfl | exact id | exact (fun h => Bool.noConfusion h) | refine And.intro ?_ ?_)
  have h2 : rangeBad a b e = false := by
    simp only [validF, Bool.or_eq_false_iff, Bool.not_eq_false', Bool.and_eq_true, decide_eq_false_iff_not, decide_eq_true_eq, rangeBad] at h2 ⊢
    omega
  simp only [h2, cond_false] at hk
  obtain ⟨ha, he⟩ := rangeBad_no h2
  repeat ((conv => whnf); first | refine Cd.seq ?_ | refine Cd.cut ?_ | refine Cd.reg ?_ | refine Cd.block ?_ | refine Cd.cond ?_ | refine Cd.dreg ?_ | refine Cd.skip ?_ | refine Cd.ret ?_ | refine Cd.exit ?_ | refine Cd.loop ?_ | refine ⟨rfl, ?_⟩ | refine ⟨Nat.le_of_ble_eq_true rfl, ?_⟩ | refine ⟨.inl rfl, ?_⟩ | refine ⟨fun h => Bool.noConfusion h, ?_⟩ | refine .inl ⟨_, fun _ => ⟨purA rfl, (by first | exact ok31 s)⟩, .inl rfl, ?_⟩)
  conv => whnf
  refine ⟨fun h3 => ?_, fun h3 => ?_⟩ <;> try simp only [Bool.cond_true_left, Bool.cond_false_right, Bool.not_eq_true', Bool.not_eq_false', Bool.not_not] at h3
  · have h3 : (!sureF s) = true := by rw [h3]; rfl
    simp only [h3, cond_true] at hk
    subst hk
    repeat ((conv => whnf); first | refine Cd.seq ?_ | refine Cd.cut ?_ | refine Cd.reg ?_ | refine Cd.block ?_ | refine Cd.cond ?_ | refine Cd.dreg ?_ | refine Cd.skip ?_ | refine Cd.ret ?_ | refine Cd.exit ?_ | refine Cd.loop ?_ | refine ⟨rfl, ?_⟩ | refine ⟨Nat.le_of_ble_eq_true rfl, ?_⟩ | refine ⟨.inl rfl, ?_⟩ | refine ⟨fun h => Bool.noConfusion h, ?_⟩)
    conv => whnf
    refine ⟨[], ?_, rfl, trivial, rfl, ?_⟩
    · exact trivial
    try subst hk
    repeat' (first | exact trivial | rfl | exact .inl rfl | exact .inr rfl | exact id | exact (fun h => Bool.noConfusion h) | refine And.intro ?_ ?_)
  have h3 : (!sureF s) = false := by rw [h3]; rfl
  simp only [h3, cond_false] at hk
  have h4w : IntKind.i64.wrap (b - a) = b - a := wrapI (by omega) (by omega)
  have hf := firstF_in (b - a)
  repeat ((conv => whnf); first | refine Cd.seq ?_ | refine Cd.cut ?_ | refine Cd.reg ?_ | refine Cd.block ?_ | refine Cd.cond ?_ | refine Cd.dreg ?_ | refine Cd.skip ?_ | refine Cd.ret ?_ | refine Cd.exit ?_ | refine Cd.loop ?_ | refine ⟨rfl, ?_⟩ | refine ⟨Nat.le_of_ble_eq_true rfl, ?_⟩ | refine ⟨.inl rfl, ?_⟩ | refine ⟨fun h => Bool.noConfusion h, ?_⟩)
  conv => whnf
  refine ⟨fun h4 => ?_, fun h4 => ?_⟩ <;> try simp only [Bool.cond_true_left, Bool.cond_false_right, Bool.not_eq_true', Bool.not_eq_false', Bool.not_not] at h4
  · have h4 : (s.kind == 2) = false := by simpa using h4
    simp only [h4, cond_false] at hk
    have hl := predictF_le s (firstF (b - a)) (by omega)
    repeat ((conv => whnf); first | refine Cd.seq ?_ | refine Cd.cut ?_ | refine Cd.reg ?_ | refine Cd.block ?_ | refine Cd.cond ?_ | refine Cd.dreg ?_ | refine Cd.skip ?_ | refine Cd.ret ?_ | refine Cd.exit ?_ | refine Cd.loop ?_ | refine ⟨rfl, ?_⟩ | refine ⟨Nat.le_of_ble_eq_true rfl, ?_⟩ | refine ⟨.inl rfl, ?_⟩ | refine ⟨fun h => Bool.noConfusion h, ?_⟩)
    conv => whnf
    rw [h4w]
    repeat ((conv => whnf); first | refine Cd.seq ?_ | refine Cd.cut ?_ | refine Cd.reg ?_ | refine Cd.block ?_ | refine Cd.cond ?_ | refine Cd.dreg ?_ | refine Cd.skip ?_ | refine Cd.ret ?_ | refine Cd.exit ?_ | refine Cd.loop ?_ | refine ⟨rfl, ?_⟩ | refine ⟨Nat.le_of_ble_eq_true rfl, ?_⟩ | refine ⟨.inl rfl, ?_⟩ | refine ⟨fun h => Bool.noConfusion h, ?_⟩ | refine .inl ⟨_, fun _ => ⟨purA rfl, (by first | exact okD17 (b - a) | exact ok22 s (firstF (b - a)))⟩, .inl rfl, ?_⟩)
    conv => whnf
    generalize predictF s (firstF (b - a)) = l at hl hk
    repeat ((conv => whnf); first | refine Cd.seq ?_ | refine Cd.cut ?_ | refine Cd.reg ?_ | refine Cd.block ?_ | refine Cd.cond ?_ | refine Cd.dreg ?_ | refine Cd.skip ?_ | refine Cd.ret ?_ | refine Cd.exit ?_ | refine Cd.loop ?_ | refine ⟨rfl, ?_⟩ | refine ⟨Nat.le_of_ble_eq_true rfl, ?_⟩ | refine ⟨.inl rfl, ?_⟩ | refine ⟨fun h => Bool.noConfusion h, ?_⟩ | refine .inl ⟨_, fun _ => ⟨purA rfl, (by first | exact okD32 l false e (by omega))⟩, .inl rfl, ?_⟩)
    conv => whnf
    subst hk
    refine ⟨[], ?_, rfl, trivial, rfl, ?_⟩
    · exact trivial
    try subst hk
    repeat' (first | exact trivial | rfl | exact .inl rfl | exact .inr rfl | exact id | exact (fun h => Bool.noConfusion h) | refine And.intro ?_ ?_)
  have h4 : (s.kind == 2) = true := by simpa using h4
  simp only [h4, cond_true] at hk
  have hin := checkW_in hc
  have h1w : IntKind.i64.wrap (w.start + w.size) = w.start + w.size := wrapI (by omega) (by omega)
  have h2w : IntKind.i64.wrap (w.start + w.size - 1) = w.start + w.size - 1 := wrapI (by omega) (by omega)
  have h3w : IntKind.i64.wrap (w.start - w.size) = w.start - w.size := wrapI (by omega) (by omega)
  have hg := grownF_in w.size
  obtain ⟨hz1, hz2⟩ := size_zero hc
  repeat ((conv => whnf); first | refine Cd.seq ?_ | refine Cd.cut ?_ | refine Cd.reg ?_ | refine Cd.block ?_ | refine Cd.cond ?_ | refine Cd.dreg ?_ | refine Cd.skip ?_ | refine Cd.ret ?_ | refine Cd.exit ?_ | refine Cd.loop ?_ | refine ⟨rfl, ?_⟩ | refine ⟨Nat.le_of_ble_eq_true rfl, ?_⟩ | refine ⟨.inl rfl, ?_⟩ | refine ⟨fun h => Bool.noConfusion h, ?_⟩)
  conv => whnf
  rw [h4w]
  repeat ((conv => whnf); first | refine Cd.seq ?_ | refine Cd.cut ?_ | refine Cd.reg ?_ | refine Cd.block ?_ | refine Cd.cond ?_ | refine Cd.dreg ?_ | refine Cd.skip ?_ | refine Cd.ret ?_ | refine Cd.exit ?_ | refine Cd.loop ?_ | refine ⟨rfl, ?_⟩ | refine ⟨Nat.le_of_ble_eq_true rfl, ?_⟩ | refine ⟨.inl rfl, ?_⟩ | refine ⟨fun h => Bool.noConfusion h, ?_⟩ | refine .inl ⟨_, fun _ => ⟨purA rfl, (by first | exact okD17 (b - a))⟩, .inl rfl, ?_⟩)
  conv => whnf
  repeat ((conv => whnf); first | refine Cd.seq ?_ | refine Cd.cut ?_ | refine Cd.reg ?_ | refine Cd.block ?_ | refine Cd.cond ?_ | refine Cd.dreg ?_ | refine Cd.skip ?_ | refine Cd.ret ?_ | refine Cd.exit ?_ | refine Cd.loop ?_ | refine ⟨rfl, ?_⟩ | refine ⟨Nat.le_of_ble_eq_true rfl, ?_⟩ | refine ⟨.inl rfl, ?_⟩ | refine ⟨fun h => Bool.noConfusion h, ?_⟩ | refine .inl ⟨_, fun _ => ⟨purA rfl, (by first | exact okD12 w)⟩, .inl rfl, ?_⟩)
  conv => whnf
  rw [h1w, h2w]
  generalize hm : markerF w = mk
  repeat ((conv => whnf); first | refine Cd.seq ?_ | refine Cd.cut ?_ | refine Cd.reg ?_ | refine Cd.block ?_ | refine Cd.cond ?_ | refine Cd.dreg ?_ | refine Cd.skip ?_ | refine Cd.ret ?_ | refine Cd.exit ?_ | refine Cd.loop ?_ | refine ⟨rfl, ?_⟩ | refine ⟨Nat.le_of_ble_eq_true rfl, ?_⟩ | refine ⟨.inl rfl, ?_⟩ | refine ⟨fun h => Bool.noConfusion h, ?_⟩)
  conv => whnf
  refine ⟨fun h5 => ?_, fun h5 => ?_⟩ <;> try simp only [Bool.cond_true_left, Bool.cond_false_right, Bool.not_eq_true', Bool.not_eq_false', Bool.not_not] at h5
  · rw [onP_ref a b hm hz2] at h5
    simp only [forwardF, h5, cond_true] at hk
    repeat ((conv => whnf); first | refine Cd.seq ?_ | refine Cd.cut ?_ | refine Cd.reg ?_ | refine Cd.block ?_ | refine Cd.cond ?_ | refine Cd.dreg ?_ | refine Cd.skip ?_ | refine Cd.ret ?_ | refine Cd.exit ?_ | refine Cd.loop ?_ | refine ⟨rfl, ?_⟩ | refine ⟨Nat.le_of_ble_eq_true rfl, ?_⟩ | refine ⟨.inl rfl, ?_⟩ | refine ⟨fun h => Bool.noConfusion h, ?_⟩)
    conv => whnf
    rw [h1w]
    repeat ((conv => whnf); first | refine Cd.seq ?_ | refine Cd.cut ?_ | refine Cd.reg ?_ | refine Cd.block ?_ | refine Cd.cond ?_ | refine Cd.dreg ?_ | refine Cd.skip ?_ | refine Cd.ret ?_ | refine Cd.exit ?_ | refine Cd.loop ?_ | refine ⟨rfl, ?_⟩ | refine ⟨Nat.le_of_ble_eq_true rfl, ?_⟩ | refine ⟨.inl rfl, ?_⟩ | refine ⟨fun h => Bool.noConfusion h, ?_⟩ | refine .inl ⟨_, fun _ => ⟨purA rfl, (by first | exact okD19 w.size (by omega))⟩, .inl rfl, ?_⟩)
    conv => whnf
    have hzs : IntKind.i64.wrap (b - a) = b - a := h4w
    repeat ((conv => whnf); first | refine Cd.seq ?_ | refine Cd.cut ?_ | refine Cd.reg ?_ | refine Cd.block ?_ | refine Cd.cond ?_ | refine Cd.dreg ?_ | refine Cd.skip ?_ | refine Cd.ret ?_ | refine Cd.exit ?_ | refine Cd.loop ?_ | refine ⟨rfl, ?_⟩ | refine ⟨Nat.le_of_ble_eq_true rfl, ?_⟩ | refine ⟨.inl rfl, ?_⟩ | refine ⟨fun h => Bool.noConfusion h, ?_⟩ | refine .inl ⟨_, fun _ => ⟨purA rfl, (by first | exact okD33m ((max (w.start + w.size) b)) ((grownF w.size)) ((grownF w.size)) (by omega) (by omega))⟩, .inl rfl, ?_⟩)
    conv => whnf
    have hlk : (seqI ((max (w.start + w.size) b)) ((max (w.start + w.size) b) + (grownF w.size))).length ≤ 1000000 := by rw [seqI_len]; omega
    rw [begin_kept _ _ _ _ (by omega)] at hk
    generalize seqI ((max (w.start + w.size) b)) ((max (w.start + w.size) b) + (grownF w.size)) = l at hlk hk
    repeat ((conv => whnf); first | refine Cd.seq ?_ | refine Cd.cut ?_ | refine Cd.reg ?_ | refine Cd.block ?_ | refine Cd.cond ?_ | refine Cd.dreg ?_ | refine Cd.skip ?_ | refine Cd.ret ?_ | refine Cd.exit ?_ | refine Cd.loop ?_ | refine ⟨rfl, ?_⟩ | refine ⟨Nat.le_of_ble_eq_true rfl, ?_⟩ | refine ⟨.inl rfl, ?_⟩ | refine ⟨fun h => Bool.noConfusion h, ?_⟩ | refine .inl ⟨_, fun _ => ⟨purA rfl, (by first | exact okD32 l false e hlk)⟩, .inl rfl, ?_⟩)
    conv => whnf
    generalize keptF l e = l2 at hk
    rw [rowsI_len]
    refine ⟨fun h7 => ?_, fun h7 => ?_⟩ <;> try simp only [Bool.cond_true_left, Bool.cond_false_right, Bool.not_eq_true', Bool.not_eq_false', Bool.not_not] at h7
    · have h7 : l2.length = 0 := by simp at h7; simpa using h7
      rw [if_pos h7] at hk
      subst hk
      repeat ((conv => whnf); first | refine Cd.seq ?_ | refine Cd.cut ?_ | refine Cd.reg ?_ | refine Cd.block ?_ | refine Cd.cond ?_ | refine Cd.dreg ?_ | refine Cd.skip ?_ | refine Cd.ret ?_ | refine Cd.exit ?_ | refine Cd.loop ?_ | refine ⟨rfl, ?_⟩ | refine ⟨Nat.le_of_ble_eq_true rfl, ?_⟩ | refine ⟨.inl rfl, ?_⟩ | refine ⟨fun h => Bool.noConfusion h, ?_⟩)
      conv => whnf
      refine ⟨[], ?_, rfl, trivial, rfl, ?_⟩
      · exact trivial
      try subst hk
      repeat' (first | exact trivial | rfl | exact .inl rfl | exact .inr rfl | exact id | exact (fun h => Bool.noConfusion h) | refine And.intro ?_ ?_)
    have h7 : ¬ l2.length = 0 := by simp at h7; simpa using h7
    rw [if_neg h7] at hk
    subst hk
    repeat ((conv => whnf); first | refine Cd.seq ?_ | refine Cd.cut ?_ | refine Cd.reg ?_ | refine Cd.block ?_ | refine Cd.cond ?_ | refine Cd.dreg ?_ | refine Cd.skip ?_ | refine Cd.ret ?_ | refine Cd.exit ?_ | refine Cd.loop ?_ | refine ⟨rfl, ?_⟩ | refine ⟨Nat.le_of_ble_eq_true rfl, ?_⟩ | refine ⟨.inl rfl, ?_⟩ | refine ⟨fun h => Bool.noConfusion h, ?_⟩)
    conv => whnf
    refine ⟨[], ?_, rfl, trivial, rfl, ?_⟩
    · exact trivial
    try subst hk
    repeat' (first | exact trivial | rfl | exact .inl rfl | exact .inr rfl | exact id | exact (fun h => Bool.noConfusion h) | refine And.intro ?_ ?_)
  rw [onP_ref a b hm hz2] at h5
  simp only [forwardF, h5, cond_false] at hk
  repeat ((conv => whnf); first | refine Cd.seq ?_ | refine Cd.cut ?_ | refine Cd.reg ?_ | refine Cd.block ?_ | refine Cd.cond ?_ | refine Cd.dreg ?_ | refine Cd.skip ?_ | refine Cd.ret ?_ | refine Cd.exit ?_ | refine Cd.loop ?_ | refine ⟨rfl, ?_⟩ | refine ⟨Nat.le_of_ble_eq_true rfl, ?_⟩ | refine ⟨.inl rfl, ?_⟩ | refine ⟨fun h => Bool.noConfusion h, ?_⟩)
  conv => whnf
  rw [h1w, h3w]
  refine ⟨fun h6 => ?_, fun h6 => ?_⟩ <;> try simp only [Bool.cond_true_left, Bool.cond_false_right, Bool.not_eq_true', Bool.not_eq_false', Bool.not_not] at h6
  · rw [offP_ref a b hz1] at h6
    simp only [h6, cond_true] at hk
    have hzs : IntKind.i64.wrap (b - a) = b - a := h4w
    repeat ((conv => whnf); first | refine Cd.seq ?_ | refine Cd.cut ?_ | refine Cd.reg ?_ | refine Cd.block ?_ | refine Cd.cond ?_ | refine Cd.dreg ?_ | refine Cd.skip ?_ | refine Cd.ret ?_ | refine Cd.exit ?_ | refine Cd.loop ?_ | refine ⟨rfl, ?_⟩ | refine ⟨Nat.le_of_ble_eq_true rfl, ?_⟩ | refine ⟨.inl rfl, ?_⟩ | refine ⟨fun h => Bool.noConfusion h, ?_⟩ | refine .inl ⟨_, fun _ => ⟨purA rfl, (by first | exact okD33m (b) ((firstF (b - a))) ((firstF (b - a))) (by omega) (by omega))⟩, .inl rfl, ?_⟩)
    conv => whnf
    have hlk : (seqI (b) (b + (firstF (b - a)))).length ≤ 1000000 := by rw [seqI_len]; omega
    rw [begin_kept _ _ _ _ (by omega)] at hk
    generalize seqI (b) (b + (firstF (b - a))) = l at hlk hk
    repeat ((conv => whnf); first | refine Cd.seq ?_ | refine Cd.cut ?_ | refine Cd.reg ?_ | refine Cd.block ?_ | refine Cd.cond ?_ | refine Cd.dreg ?_ | refine Cd.skip ?_ | refine Cd.ret ?_ | refine Cd.exit ?_ | refine Cd.loop ?_ | refine ⟨rfl, ?_⟩ | refine ⟨Nat.le_of_ble_eq_true rfl, ?_⟩ | refine ⟨.inl rfl, ?_⟩ | refine ⟨fun h => Bool.noConfusion h, ?_⟩ | refine .inl ⟨_, fun _ => ⟨purA rfl, (by first | exact okD32 l false e hlk)⟩, .inl rfl, ?_⟩)
    conv => whnf
    generalize keptF l e = l2 at hk
    rw [rowsI_len]
    refine ⟨fun h7 => ?_, fun h7 => ?_⟩ <;> try simp only [Bool.cond_true_left, Bool.cond_false_right, Bool.not_eq_true', Bool.not_eq_false', Bool.not_not] at h7
    · have h7 : l2.length = 0 := by simp at h7; simpa using h7
      rw [if_pos h7] at hk
      subst hk
      repeat ((conv => whnf); first | refine Cd.seq ?_ | refine Cd.cut ?_ | refine Cd.reg ?_ | refine Cd.block ?_ | refine Cd.cond ?_ | refine Cd.dreg ?_ | refine Cd.skip ?_ | refine Cd.ret ?_ | refine Cd.exit ?_ | refine Cd.loop ?_ | refine ⟨rfl, ?_⟩ | refine ⟨Nat.le_of_ble_eq_true rfl, ?_⟩ | refine ⟨.inl rfl, ?_⟩ | refine ⟨fun h => Bool.noConfusion h, ?_⟩)
      conv => whnf
      refine ⟨[], ?_, rfl, trivial, rfl, ?_⟩
      · exact trivial
      try subst hk
      repeat' (first | exact trivial | rfl | exact .inl rfl | exact .inr rfl | exact id | exact (fun h => Bool.noConfusion h) | refine And.intro ?_ ?_)
    have h7 : ¬ l2.length = 0 := by simp at h7; simpa using h7
    rw [if_neg h7] at hk
    subst hk
    repeat ((conv => whnf); first | refine Cd.seq ?_ | refine Cd.cut ?_ | refine Cd.reg ?_ | refine Cd.block ?_ | refine Cd.cond ?_ | refine Cd.dreg ?_ | refine Cd.skip ?_ | refine Cd.ret ?_ | refine Cd.exit ?_ | refine Cd.loop ?_ | refine ⟨rfl, ?_⟩ | refine ⟨Nat.le_of_ble_eq_true rfl, ?_⟩ | refine ⟨.inl rfl, ?_⟩ | refine ⟨fun h => Bool.noConfusion h, ?_⟩)
    conv => whnf
    refine ⟨[], ?_, rfl, trivial, rfl, ?_⟩
    · exact trivial
    try subst hk
    repeat' (first | exact trivial | rfl | exact .inl rfl | exact .inr rfl | exact id | exact (fun h => Bool.noConfusion h) | refine And.intro ?_ ?_)
  rw [offP_ref a b hz1] at h6
  simp only [h6, cond_false] at hk
  subst hk
  repeat ((conv => whnf); first | refine Cd.seq ?_ | refine Cd.cut ?_ | refine Cd.reg ?_ | refine Cd.block ?_ | refine Cd.cond ?_ | refine Cd.dreg ?_ | refine Cd.skip ?_ | refine Cd.ret ?_ | refine Cd.exit ?_ | refine Cd.loop ?_ | refine ⟨rfl, ?_⟩ | refine ⟨Nat.le_of_ble_eq_true rfl, ?_⟩ | refine ⟨.inl rfl, ?_⟩ | refine ⟨fun h => Bool.noConfusion h, ?_⟩)
  conv => whnf
  refine ⟨[], ?_, rfl, trivial, rfl, ?_⟩
  · exact trivial
  try subst hk
  repeat' (first | exact trivial | rfl | exact .inl rfl | exact .inr rfl | exact id | exact (fun h => Bool.noConfusion h) | refine And.intro ?_ ?_)
end Go.Proofs.YteelckbeekgfiaaDoor
