/- Stream: the reference's Predict: the walk. -/
import Derived.Test.YteelckbeekgfiaaDoorW12
set_option linter.unusedSimpArgs false
set_option linter.unusedVariables false
namespace Go.Proofs.YteelckbeekgfiaaDoor
open Go Go.Sk Go.RowKit

/- pagecache/pagecacheref06.Predict -/
def rc22 : RC :=
  (.seq
  (.reg [⟨(some 2), none, (.box (.t 0))⟩,
    ⟨(some 4), none, (.mv (.c (.lst 0 true [])))⟩] [])
  (.seq
  (.seq
  (.reg [⟨(some 10), none, (.ld true 6 (.t 2))⟩,
    ⟨(some 11), none, (.call 29 [(.t 10)])⟩,
    ⟨(some 12), none, (.un .not (.t 11))⟩,
    ⟨(some 13), none, (.mv (.t 12))⟩,
    ⟨(some 14), (some (13, false)), (.faddr 0 (.t 2))⟩,
    ⟨(some 15), (some (13, false)), (.ld false 1 (.t 14))⟩,
    ⟨(some 16), (some (13, false)), (.bin .eql (.t 15) (.c (.int .i64 1)))⟩,
    ⟨(some 17), none, (.pick (.t 13) (.c (.bool true)) (.t 16))⟩] [10, 11, 12, 13, 14, 15, 16])
  (.cond (.t 17)
   (.seq
   (.reg [⟨(some 4), none, (.mv (.c (.lst 0 true [])))⟩] [])
   .ret)
   .skip))
  (.seq
  (.reg [⟨(some 5), none, (.mv (.c (.lst 0 true [])))⟩] [])
  (.seq
  (.seq
  (.reg [⟨(some 6), none, (.mv (.c (.int .i64 1)))⟩] [])
  (.block 0
   (.loop
    (.seq
    (.seq
    (.reg [⟨(some 18), none, (.mv (.t 5))⟩,
      ⟨(some 19), none, (.len (.t 18))⟩,
      ⟨(some 20), none, (.mv (.t 1))⟩,
      ⟨(some 21), none, (.bin .lss (.t 19) (.t 20))⟩,
      ⟨(some 22), none, (.mv (.t 21))⟩,
      ⟨(some 23), (some (22, true)), (.mv (.t 6))⟩,
      ⟨(some 24), (some (22, true)), (.bin .leq (.t 23) (.c (.int .i64 256)))⟩,
      ⟨(some 25), none, (.pick (.t 22) (.t 24) (.c (.bool false)))⟩] [18, 19, 20, 21, 22, 23, 24])
    (.cond (.t 25)
     .skip
     (.exit 0)))
    (.seq
    (.block 1
     (.seq
     (.dreg 8192 8368 [⟨(some 28), none, (.faddr 2 (.t 2))⟩,
       ⟨(some 29), none, (.ld false 1 (.t 28))⟩,
       ⟨(some 30), none, (.mv (.t 6))⟩,
       ⟨(some 31), none, (.bin .add (.t 29) (.t 30))⟩,
       ⟨(some 32), none, (.bin .sub (.t 31) (.c (.int .i64 1)))⟩,
       ⟨(some 33), none, (.faddr 2 (.t 2))⟩,
       ⟨(some 34), none, (.ld false 1 (.t 33))⟩,
       ⟨(some 35), none, (.mv (.t 6))⟩,
       ⟨(some 36), none, (.bin .add (.t 34) (.t 35))⟩,
       ⟨(some 7), none, (.mv (.t 32))⟩,
       ⟨(some 8), none, (.mv (.t 36))⟩] [28, 29, 30, 31, 32, 33, 34, 35, 36] [[], [0], [], [1, 0, 2], [3, 2, 0, 1], [], [5], [], [6, 5, 7], [4, 1, 0, 2, 3], [8, 7, 5, 6, 9, 3, 2, 0, 1, 4]] [8192, 8208, 8224, 8240, 8256, 8272, 8288, 8304, 8320, 8336, 8352])
     (.seq
     (.seq
     (.reg [⟨(some 37), none, (.faddr 0 (.t 2))⟩,
       ⟨(some 38), none, (.ld false 1 (.t 37))⟩] [37])
     (.block 2
      (.seq
      (.reg [⟨(some 40), none, (.bin .eql (.t 38) (.c (.int .i64 3)))⟩,
        ⟨(some 39), none, (.mv (.t 40))⟩] [40])
      (.cond (.t 39)
       (.dreg 11264 11440 [⟨(some 41), none, (.faddr 1 (.t 2))⟩,
         ⟨(some 42), none, (.ld false 1 (.t 41))⟩,
         ⟨(some 43), none, (.mv (.t 6))⟩,
         ⟨(some 44), none, (.bin .sub (.t 42) (.t 43))⟩,
         ⟨(some 45), none, (.faddr 1 (.t 2))⟩,
         ⟨(some 46), none, (.ld false 1 (.t 45))⟩,
         ⟨(some 47), none, (.mv (.t 6))⟩,
         ⟨(some 48), none, (.bin .sub (.t 46) (.t 47))⟩,
         ⟨(some 49), none, (.bin .add (.t 48) (.c (.int .i64 1)))⟩,
         ⟨(some 7), none, (.mv (.t 44))⟩,
         ⟨(some 8), none, (.mv (.t 49))⟩] [41, 42, 43, 44, 45, 46, 47, 48, 49] [[], [0], [], [1, 0, 2], [], [4], [], [5, 4, 6], [7, 6, 4, 5], [3, 2, 0, 1], [8, 5, 4, 6, 7, 9, 1, 0, 2, 3]] [11264, 11280, 11296, 11312, 11328, 11344, 11360, 11376, 11392, 11408, 11424])
       (.seq
       (.reg [⟨(some 51), none, (.bin .eql (.t 38) (.c (.int .i64 4)))⟩,
         ⟨(some 50), none, (.mv (.t 51))⟩] [51])
       (.cond (.t 50)
        (.dreg 13312 13568 [⟨(some 52), none, (.faddr 1 (.t 2))⟩,
          ⟨(some 53), none, (.ld false 1 (.t 52))⟩,
          ⟨(some 54), none, (.mv (.t 6))⟩,
          ⟨(some 55), none, (.faddr 3 (.t 2))⟩,
          ⟨(some 56), none, (.ld false 1 (.t 55))⟩,
          ⟨(some 57), none, (.bin .mul (.t 54) (.t 56))⟩,
          ⟨(some 58), none, (.bin .add (.t 53) (.t 57))⟩,
          ⟨(some 59), none, (.faddr 2 (.t 2))⟩,
          ⟨(some 60), none, (.ld false 1 (.t 59))⟩,
          ⟨(some 61), none, (.mv (.t 6))⟩,
          ⟨(some 62), none, (.faddr 3 (.t 2))⟩,
          ⟨(some 63), none, (.ld false 1 (.t 62))⟩,
          ⟨(some 64), none, (.bin .mul (.t 61) (.t 63))⟩,
          ⟨(some 65), none, (.bin .add (.t 60) (.t 64))⟩,
          ⟨(some 7), none, (.mv (.t 58))⟩,
          ⟨(some 8), none, (.mv (.t 65))⟩] [52, 53, 54, 55, 56, 57, 58, 59, 60, 61, 62, 63, 64, 65] [[], [0], [], [], [3], [2, 4, 3], [1, 0, 5, 3, 4, 2], [], [7], [], [], [10], [9, 11, 10], [8, 7, 12, 10, 11, 9], [6, 2, 4, 3, 5, 0, 1], [13, 9, 11, 10, 12, 7, 8, 14, 1, 0, 5, 3, 4, 2, 6]] [13312, 13328, 13344, 13360, 13376, 13392, 13408, 13424, 13440, 13456, 13472, 13488, 13504, 13520, 13536, 13552])
        .skip))))))
     (.seq
     (.reg [⟨(some 66), none, (.mv (.t 7))⟩,
       ⟨(some 9), none, (.mv (.t 66))⟩] [66])
     (.block 3
      (.loop
       (.seq
       (.seq
       (.reg [⟨(some 67), none, (.mv (.t 9))⟩,
         ⟨(some 68), none, (.mv (.t 8))⟩,
         ⟨(some 69), none, (.bin .lss (.t 67) (.t 68))⟩,
         ⟨(some 70), none, (.mv (.t 69))⟩,
         ⟨(some 71), (some (70, true)), (.mv (.t 5))⟩,
         ⟨(some 72), (some (70, true)), (.len (.t 71))⟩,
         ⟨(some 73), (some (70, true)), (.mv (.t 1))⟩,
         ⟨(some 74), (some (70, true)), (.bin .lss (.t 72) (.t 73))⟩,
         ⟨(some 75), none, (.pick (.t 70) (.t 74) (.c (.bool false)))⟩] [67, 68, 69, 70, 71, 72, 73, 74])
       (.cond (.t 75)
        .skip
        (.exit 3)))
       (.seq
       (.block 4
        (.seq
        (.seq
        (.reg [⟨(some 78), none, (.mv (.t 9))⟩,
          ⟨(some 79), none, (.bin .lss (.t 78) (.c (.int .i64 0)))⟩,
          ⟨(some 80), none, (.mv (.t 79))⟩,
          ⟨(some 81), (some (80, false)), (.mv (.t 9))⟩,
          ⟨(some 82), (some (80, false)), (.bin .gtr (.t 81) (.c (.int .i64 255)))⟩,
          ⟨(some 83), none, (.pick (.t 80) (.c (.bool true)) (.t 82))⟩] [78, 79, 80, 81, 82])
        (.cond (.t 83)
         (.seq
         (.reg [⟨(some 84), none, (.mv (.t 5))⟩,
           ⟨(some 4), none, (.mv (.t 84))⟩] [84])
         .ret)
         .skip))
        (.reg [⟨(some 85), none, (.mv (.t 5))⟩,
          ⟨(some 86), none, (.mv (.t 9))⟩,
          ⟨(some 87), none, (.bslice 1 [(.int .i64 0)] 1 [(0, (.t 86))])⟩,
          ⟨(some 88), none, (.app 1 8 (.t 85) (.t 87))⟩,
          ⟨(some 5), none, (.mv (.t 88))⟩] [85, 86, 87, 88])))
       (.reg [⟨(some 76), none, (.mv (.t 9))⟩,
         ⟨(some 77), none, (.bin .add (.t 76) (.c (.int .i64 1)))⟩,
         ⟨(some 9), none, (.mv (.t 77))⟩] [76, 77])))))))))
    (.reg [⟨(some 26), none, (.mv (.t 6))⟩,
      ⟨(some 27), none, (.bin .add (.t 26) (.c (.int .i64 1)))⟩,
      ⟨(some 6), none, (.mv (.t 27))⟩] [26, 27]))))))
  (.seq
  (.reg [⟨(some 89), none, (.mv (.t 5))⟩,
    ⟨(some 4), none, (.mv (.t 89))⟩] [89])
  .ret)))))
theorem rcq22 : resC Go.Proofs.Tryd.prog Go.Proofs.Tryd.f22.ntmps ((Go.Proofs.Tryd.f22.body).getD .skip) = some (strip rc22) := by kernel_rfl
def rv22 : List RV := [(.tmp 4)]
theorem rvq22 : Go.Proofs.Tryd.f22.results.toList.mapM (resRV Go.Proofs.Tryd.prog) = some rv22 := by kernel_rfl

set_option maxRecDepth 20000 in
theorem ok22 (s : Stm) (n : Int) : FnC Tryd.prog 22 [] [.agg s.c, .int .i64 n] (.lst 1 false (rowsI (predictF s n))) [] := by
  refine fn_okC (ob0 := []) (rc := rc22) (rvs := rv22) Tryd.func22 rfl rcq22 rvq22 (show 2 ≤ _ by decide) ?_
  generalize hk : predictF s n = q
  repeat ((conv => whnf); first | refine Cd.seq ?_ | refine Cd.cut ?_ | refine Cd.reg ?_ | refine Cd.block ?_ | refine Cd.cond ?_ | refine Cd.dreg ?_ | refine Cd.skip ?_ | refine Cd.ret ?_ | refine Cd.exit ?_ | refine Cd.loop ?_ | refine ⟨rfl, ?_⟩ | refine ⟨Nat.le_of_ble_eq_true rfl, ?_⟩ | refine ⟨.inl rfl, ?_⟩ | refine ⟨fun h => Bool.noConfusion h, ?_⟩ | refine .inl ⟨_, fun _ => ⟨purA rfl, (by first | exact ok29 s)⟩, .inl rfl, ?_⟩)
  conv => whnf
  refine ⟨fun h1 => ?_, fun h1 => ?_⟩ <;> try simp only [Bool.cond_true_left, Bool.cond_false_right, Bool.not_eq_true', Bool.not_eq_false', Bool.not_not] at h1
  · repeat ((conv => whnf); first | refine Cd.seq ?_ | refine Cd.cut ?_ | refine Cd.reg ?_ | refine Cd.block ?_ | refine Cd.cond ?_ | refine Cd.dreg ?_ | refine Cd.skip ?_ | refine Cd.ret ?_ | refine Cd.exit ?_ | refine Cd.loop ?_ | refine ⟨rfl, ?_⟩ | refine ⟨Nat.le_of_ble_eq_true rfl, ?_⟩ | refine ⟨.inl rfl, ?_⟩ | refine ⟨fun h => Bool.noConfusion h, ?_⟩)
    conv => whnf
    refine ⟨[], ?_, rfl, trivial, rfl, ?_⟩
    · exact trivial
    try subst hk
    simp only [predictF, h1, cond_true, cond_false, Bool.not_true, Bool.not_false]
    repeat' (first | exact trivial | rfl | exact .inl rfl | exact .inr rfl | exact id | exact (fun h => Bool.noConfusion h) | refine And.intro ?_ ?_)
  have h1' : rightF s = true ∧ s.kind ≠ 1 := by simpa using h1
  obtain ⟨N, hN, hr⟩ := headR_some s n h1'.1 h1'.2
  repeat ((conv => whnf); first | refine Cd.seq ?_ | refine Cd.cut ?_ | refine Cd.reg ?_ | refine Cd.block ?_ | refine Cd.cond ?_ | refine Cd.dreg ?_ | refine Cd.skip ?_ | refine Cd.ret ?_ | refine Cd.exit ?_ | refine Cd.loop ?_ | refine ⟨rfl, ?_⟩ | refine ⟨Nat.le_of_ble_eq_true rfl, ?_⟩ | refine ⟨.inl rfl, ?_⟩ | refine ⟨fun h => Bool.noConfusion h, ?_⟩)
  conv => whnf
  refine ⟨Nat × Int × List Int, fun p => headR s n p.1 p.2.1 p.2.2 = some (predictF s n) ∧ p.1 + p.2.2.length ≤ 5000,
    fun | (f, k, out) => ⟨[(1, ⟨[], true, .int .i64 n⟩), (2, ⟨[], true, .ptr 0 0 0⟩), (4, ⟨[], true, .lst 0 true []⟩), (5, ⟨[], true, .sl 1 0 out.length⟩), (6, ⟨[], true, .int .i64 k⟩)], [(0, .box s.c), (1, .row 1 (rowsI out))], 2⟩,
    fun p => p.1, ⟨(N, 1, []), ⟨hr, by simp; omega⟩, ?_⟩, fun p hI => ?_⟩
  · refine viewI [some 0, none] rfl rfl ?_ rfl ?_ rfl ?_
    repeat' (first | exact trivial | rfl | exact .inl rfl | exact .inr rfl | exact id | exact (fun h => Bool.noConfusion h) | refine And.intro ?_ ?_)
  obtain ⟨f, k, out⟩ := p
  obtain ⟨hI1, hI2⟩ := hI
  simp only at hI1 hI2
  repeat ((conv => whnf); first | refine Cd.seq ?_ | refine Cd.cut ?_ | refine Cd.reg ?_ | refine Cd.block ?_ | refine Cd.cond ?_ | refine Cd.dreg ?_ | refine Cd.skip ?_ | refine Cd.ret ?_ | refine Cd.exit ?_ | refine Cd.loop ?_ | refine ⟨rfl, ?_⟩ | refine ⟨Nat.le_of_ble_eq_true rfl, ?_⟩ | refine ⟨.inl rfl, ?_⟩ | refine ⟨fun h => Bool.noConfusion h, ?_⟩)
  conv => whnf
  refine ⟨fun hh => ?_, fun hh => ?_⟩ <;> try simp only [Bool.cond_true_left, Bool.cond_false_right, Bool.not_eq_true', Bool.not_eq_false', Bool.not_not] at hh
  · simp only [headR, hh, cond_true] at hI1
    repeat ((conv => whnf); first | refine Cd.seq ?_ | refine Cd.cut ?_ | refine Cd.reg ?_ | refine Cd.block ?_ | refine Cd.cond ?_ | refine Cd.dreg ?_ | refine Cd.skip ?_ | refine Cd.ret ?_ | refine Cd.exit ?_ | refine Cd.loop ?_ | refine ⟨rfl, ?_⟩ | refine ⟨Nat.le_of_ble_eq_true rfl, ?_⟩ | refine ⟨.inl rfl, ?_⟩ | refine ⟨fun h => Bool.noConfusion h, ?_⟩)
    conv => whnf
    refine ⟨fun k3 => ?_, fun k3 => ?_⟩ <;> try simp only [Bool.cond_true_left, Bool.cond_false_right, Bool.not_eq_true', Bool.not_eq_false', Bool.not_not] at k3
    · have hf : IntKind.i64.wrap (s.start - k) = wFrom s k := by simp [wFrom, k3]
      have ht : IntKind.i64.wrap (IntKind.i64.wrap (s.start - k) + 1) = wTo s k := by simp [wTo, k3]
      repeat ((conv => whnf); first | refine Cd.seq ?_ | refine Cd.cut ?_ | refine Cd.reg ?_ | refine Cd.block ?_ | refine Cd.cond ?_ | refine Cd.dreg ?_ | refine Cd.skip ?_ | refine Cd.ret ?_ | refine Cd.exit ?_ | refine Cd.loop ?_ | refine ⟨rfl, ?_⟩ | refine ⟨Nat.le_of_ble_eq_true rfl, ?_⟩ | refine ⟨.inl rfl, ?_⟩ | refine ⟨fun h => Bool.noConfusion h, ?_⟩)
      conv => whnf
      refine ⟨Nat × Int × List Int, fun p => genR s n p.1 k (wTo s k) p.2.1 p.2.2 = some (predictF s n) ∧ p.1 + p.2.2.length ≤ 5000 ∧ p.1 ≤ f,
        fun | (g, p, out) => ⟨[(1, ⟨[], true, .int .i64 n⟩), (2, ⟨[], true, .ptr 0 0 0⟩), (4, ⟨[], true, .lst 0 true []⟩), (5, ⟨[], true, .sl 1 0 out.length⟩), (6, ⟨[], true, .int .i64 k⟩), (8, ⟨[], true, .int .i64 (wTo s k)⟩), (9, ⟨[], true, .int .i64 p⟩)], [(0, .box s.c), (1, .row 1 (rowsI out))], 2⟩,
        fun p => p.1, ⟨(f, wFrom s k, out), ⟨hI1, by simp; omega, by simp⟩, ?_⟩, fun p hJ => ?_⟩
      · rw [← hf, ← ht]
        refine viewI [some 0, some 1] rfl rfl ?_ rfl ?_ rfl ?_
        repeat' (first | exact trivial | rfl | exact .inl rfl | exact .inr rfl | exact id | exact (fun h => Bool.noConfusion h) | refine And.intro ?_ ?_)
      clear hI1
      obtain ⟨g, p, out⟩ := p
      obtain ⟨hJ1, hJ2, hJ3⟩ := hJ
      simp only at hJ1 hJ2 hJ3
      cases g with
      | zero => simp [genR] at hJ1
      | succ g =>
      rw [genR_succ] at hJ1
      repeat ((conv => whnf); first | refine Cd.seq ?_ | refine Cd.cut ?_ | refine Cd.reg ?_ | refine Cd.block ?_ | refine Cd.cond ?_ | refine Cd.dreg ?_ | refine Cd.skip ?_ | refine Cd.ret ?_ | refine Cd.exit ?_ | refine Cd.loop ?_ | refine ⟨rfl, ?_⟩ | refine ⟨Nat.le_of_ble_eq_true rfl, ?_⟩ | refine ⟨.inl rfl, ?_⟩ | refine ⟨fun h => Bool.noConfusion h, ?_⟩)
      conv => whnf
      refine ⟨fun hp => ?_, fun hp => ?_⟩ <;> try simp only [Bool.cond_true_left, Bool.cond_false_right, Bool.not_eq_true', Bool.not_eq_false', Bool.not_not] at hp
      · have hp : (decide (p < wTo s k) && decide ((out.length : Int) < n)) = true := hp
        simp only [hp, cond_true] at hJ1
        repeat ((conv => whnf); first | refine Cd.seq ?_ | refine Cd.cut ?_ | refine Cd.reg ?_ | refine Cd.block ?_ | refine Cd.cond ?_ | refine Cd.dreg ?_ | refine Cd.skip ?_ | refine Cd.ret ?_ | refine Cd.exit ?_ | refine Cd.loop ?_ | refine ⟨rfl, ?_⟩ | refine ⟨Nat.le_of_ble_eq_true rfl, ?_⟩ | refine ⟨.inl rfl, ?_⟩ | refine ⟨fun h => Bool.noConfusion h, ?_⟩)
        conv => whnf
        refine ⟨fun hc => ?_, fun hc => ?_⟩ <;> try simp only [Bool.cond_true_left, Bool.cond_false_right, Bool.not_eq_true', Bool.not_eq_false', Bool.not_not] at hc
        · simp only [hc, cond_true] at hJ1
          have hJ1 := Option.some.inj hJ1
          repeat ((conv => whnf); first | refine Cd.seq ?_ | refine Cd.cut ?_ | refine Cd.reg ?_ | refine Cd.block ?_ | refine Cd.cond ?_ | refine Cd.dreg ?_ | refine Cd.skip ?_ | refine Cd.ret ?_ | refine Cd.exit ?_ | refine Cd.loop ?_ | refine ⟨rfl, ?_⟩ | refine ⟨Nat.le_of_ble_eq_true rfl, ?_⟩ | refine ⟨.inl rfl, ?_⟩ | refine ⟨fun h => Bool.noConfusion h, ?_⟩)
          conv => whnf
          refine ⟨[], ?_, rfl, trivial, rfl, ?_⟩
          · exact trivial
          try subst hk
          simp only [← hJ1, cond_true, cond_false, Bool.not_true, Bool.not_false]
          repeat' (first | exact trivial | rfl | exact .inl rfl | exact .inr rfl | exact id | exact (fun h => Bool.noConfusion h) | refine And.intro ?_ ?_)
          · exact Nat.le_of_eq (by rw [rowsI_len, Nat.zero_add])
          · exact take0 (rowsI_len _)
        simp only [hc, cond_false] at hJ1
        repeat ((conv => whnf); first | refine Cd.seq ?_ | refine Cd.cut ?_ | refine Cd.reg ?_ | refine Cd.block ?_ | refine Cd.cond ?_ | refine Cd.dreg ?_ | refine Cd.skip ?_ | refine Cd.ret ?_ | refine Cd.exit ?_ | refine Cd.loop ?_ | refine ⟨rfl, ?_⟩ | refine ⟨Nat.le_of_ble_eq_true rfl, ?_⟩ | refine ⟨.inl rfl, ?_⟩ | refine ⟨fun h => Bool.noConfusion h, ?_⟩)
        conv => whnf
        refine ⟨(rowsI_len out).symm, ?_, ?_, ?_⟩
        · show (((rowsI out).length + 1 : Nat) : Int) ≤ _
          rw [rowsI_len]; omega
        · show ((rowsI out).length + 1) * 8 ≤ _
          rw [rowsI_len]; omega
        repeat ((conv => whnf); first | refine Cd.seq ?_ | refine Cd.cut ?_ | refine Cd.reg ?_ | refine Cd.block ?_ | refine Cd.cond ?_ | refine Cd.dreg ?_ | refine Cd.skip ?_ | refine Cd.ret ?_ | refine Cd.exit ?_ | refine Cd.loop ?_ | refine ⟨rfl, ?_⟩ | refine ⟨Nat.le_of_ble_eq_true rfl, ?_⟩ | refine ⟨.inl rfl, ?_⟩ | refine ⟨fun h => Bool.noConfusion h, ?_⟩)
        conv => whnf
        refine ⟨(g, _, _), ⟨hJ1, by simp; omega, by simp; omega⟩, ?_, by simp⟩
        refine viewI [some 0, some 3] rfl rfl ?_ rfl ?_ rfl ?_
        repeat' (first | exact trivial | rfl | exact .inl rfl | exact .inr rfl | exact id | exact (fun h => Bool.noConfusion h) | refine And.intro ?_ ?_)
        · rw [rowsI, rowsI, List.map_append]; rfl
        · show (rowsI out).length + 1 = _
          rw [rowsI_len, List.length_append]; rfl
      have hp : (decide (p < wTo s k) && decide ((out.length : Int) < n)) = false := hp
      simp only [hp, cond_false] at hJ1
      repeat ((conv => whnf); first | refine Cd.seq ?_ | refine Cd.cut ?_ | refine Cd.reg ?_ | refine Cd.block ?_ | refine Cd.cond ?_ | refine Cd.dreg ?_ | refine Cd.skip ?_ | refine Cd.ret ?_ | refine Cd.exit ?_ | refine Cd.loop ?_ | refine ⟨rfl, ?_⟩ | refine ⟨Nat.le_of_ble_eq_true rfl, ?_⟩ | refine ⟨.inl rfl, ?_⟩ | refine ⟨fun h => Bool.noConfusion h, ?_⟩)
      conv => whnf
      refine ⟨(g, _, out), ⟨hJ1, by simp; omega⟩, ?_, by show g < f; omega⟩
      refine viewI [some 0, some 1] rfl rfl ?_ rfl ?_ rfl ?_
      repeat' (first | exact trivial | rfl | exact .inl rfl | exact .inr rfl | exact id | exact (fun h => Bool.noConfusion h) | refine And.intro ?_ ?_)
    repeat ((conv => whnf); first | refine Cd.seq ?_ | refine Cd.cut ?_ | refine Cd.reg ?_ | refine Cd.block ?_ | refine Cd.cond ?_ | refine Cd.dreg ?_ | refine Cd.skip ?_ | refine Cd.ret ?_ | refine Cd.exit ?_ | refine Cd.loop ?_ | refine ⟨rfl, ?_⟩ | refine ⟨Nat.le_of_ble_eq_true rfl, ?_⟩ | refine ⟨.inl rfl, ?_⟩ | refine ⟨fun h => Bool.noConfusion h, ?_⟩)
    conv => whnf
    refine ⟨fun k4 => ?_, fun k4 => ?_⟩ <;> try simp only [Bool.cond_true_left, Bool.cond_false_right, Bool.not_eq_true', Bool.not_eq_false', Bool.not_not] at k4
    · have hf : IntKind.i64.wrap (s.start + IntKind.i64.wrap (k * s.step)) = wFrom s k := by simp [wFrom, k3, k4]
      have ht : IntKind.i64.wrap (s.stop + IntKind.i64.wrap (k * s.step)) = wTo s k := by simp [wTo, k3, k4]
      repeat ((conv => whnf); first | refine Cd.seq ?_ | refine Cd.cut ?_ | refine Cd.reg ?_ | refine Cd.block ?_ | refine Cd.cond ?_ | refine Cd.dreg ?_ | refine Cd.skip ?_ | refine Cd.ret ?_ | refine Cd.exit ?_ | refine Cd.loop ?_ | refine ⟨rfl, ?_⟩ | refine ⟨Nat.le_of_ble_eq_true rfl, ?_⟩ | refine ⟨.inl rfl, ?_⟩ | refine ⟨fun h => Bool.noConfusion h, ?_⟩)
      conv => whnf
      refine ⟨Nat × Int × List Int, fun p => genR s n p.1 k (wTo s k) p.2.1 p.2.2 = some (predictF s n) ∧ p.1 + p.2.2.length ≤ 5000 ∧ p.1 ≤ f,
        fun | (g, p, out) => ⟨[(1, ⟨[], true, .int .i64 n⟩), (2, ⟨[], true, .ptr 0 0 0⟩), (4, ⟨[], true, .lst 0 true []⟩), (5, ⟨[], true, .sl 1 0 out.length⟩), (6, ⟨[], true, .int .i64 k⟩), (8, ⟨[], true, .int .i64 (wTo s k)⟩), (9, ⟨[], true, .int .i64 p⟩)], [(0, .box s.c), (1, .row 1 (rowsI out))], 2⟩,
        fun p => p.1, ⟨(f, wFrom s k, out), ⟨hI1, by simp; omega, by simp⟩, ?_⟩, fun p hJ => ?_⟩
      · rw [← hf, ← ht]
        refine viewI [some 0, some 1] rfl rfl ?_ rfl ?_ rfl ?_
        repeat' (first | exact trivial | rfl | exact .inl rfl | exact .inr rfl | exact id | exact (fun h => Bool.noConfusion h) | refine And.intro ?_ ?_)
      clear hI1
      obtain ⟨g, p, out⟩ := p
      obtain ⟨hJ1, hJ2, hJ3⟩ := hJ
      simp only at hJ1 hJ2 hJ3
      cases g with
      | zero => simp [genR] at hJ1
      | succ g =>
      rw [genR_succ] at hJ1
      repeat ((conv => whnf); first | refine Cd.seq ?_ | refine Cd.cut ?_ | refine Cd.reg ?_ | refine Cd.block ?_ | refine Cd.cond ?_ | refine Cd.dreg ?_ | refine Cd.skip ?_ | refine Cd.ret ?_ | refine Cd.exit ?_ | refine Cd.loop ?_ | refine ⟨rfl, ?_⟩ | refine ⟨Nat.le_of_ble_eq_true rfl, ?_⟩ | refine ⟨.inl rfl, ?_⟩ | refine ⟨fun h => Bool.noConfusion h, ?_⟩)
      conv => whnf
      refine ⟨fun hp => ?_, fun hp => ?_⟩ <;> try simp only [Bool.cond_true_left, Bool.cond_false_right, Bool.not_eq_true', Bool.not_eq_false', Bool.not_not] at hp
      · have hp : (decide (p < wTo s k) && decide ((out.length : Int) < n)) = true := hp
        simp only [hp, cond_true] at hJ1
        repeat ((conv => whnf); first | refine Cd.seq ?_ | refine Cd.cut ?_ | refine Cd.reg ?_ | refine Cd.block ?_ | refine Cd.cond ?_ | refine Cd.dreg ?_ | refine Cd.skip ?_ | refine Cd.ret ?_ | refine Cd.exit ?_ | refine Cd.loop ?_ | refine ⟨rfl, ?_⟩ | refine ⟨Nat.le_of_ble_eq_true rfl, ?_⟩ | refine ⟨.inl rfl, ?_⟩ | refine ⟨fun h => Bool.noConfusion h, ?_⟩)
        conv => whnf
        refine ⟨fun hc => ?_, fun hc => ?_⟩ <;> try simp only [Bool.cond_true_left, Bool.cond_false_right, Bool.not_eq_true', Bool.not_eq_false', Bool.not_not] at hc
        · simp only [hc, cond_true] at hJ1
          have hJ1 := Option.some.inj hJ1
          repeat ((conv => whnf); first | refine Cd.seq ?_ | refine Cd.cut ?_ | refine Cd.reg ?_ | refine Cd.block ?_ | refine Cd.cond ?_ | refine Cd.dreg ?_ | refine Cd.skip ?_ | refine Cd.ret ?_ | refine Cd.exit ?_ | refine Cd.loop ?_ | refine ⟨rfl, ?_⟩ | refine ⟨Nat.le_of_ble_eq_true rfl, ?_⟩ | refine ⟨.inl rfl, ?_⟩ | refine ⟨fun h => Bool.noConfusion h, ?_⟩)
          conv => whnf
          refine ⟨[], ?_, rfl, trivial, rfl, ?_⟩
          · exact trivial
          try subst hk
          simp only [← hJ1, cond_true, cond_false, Bool.not_true, Bool.not_false]
          repeat' (first | exact trivial | rfl | exact .inl rfl | exact .inr rfl | exact id | exact (fun h => Bool.noConfusion h) | refine And.intro ?_ ?_)
          · exact Nat.le_of_eq (by rw [rowsI_len, Nat.zero_add])
          · exact take0 (rowsI_len _)
        simp only [hc, cond_false] at hJ1
        repeat ((conv => whnf); first | refine Cd.seq ?_ | refine Cd.cut ?_ | refine Cd.reg ?_ | refine Cd.block ?_ | refine Cd.cond ?_ | refine Cd.dreg ?_ | refine Cd.skip ?_ | refine Cd.ret ?_ | refine Cd.exit ?_ | refine Cd.loop ?_ | refine ⟨rfl, ?_⟩ | refine ⟨Nat.le_of_ble_eq_true rfl, ?_⟩ | refine ⟨.inl rfl, ?_⟩ | refine ⟨fun h => Bool.noConfusion h, ?_⟩)
        conv => whnf
        refine ⟨(rowsI_len out).symm, ?_, ?_, ?_⟩
        · show (((rowsI out).length + 1 : Nat) : Int) ≤ _
          rw [rowsI_len]; omega
        · show ((rowsI out).length + 1) * 8 ≤ _
          rw [rowsI_len]; omega
        repeat ((conv => whnf); first | refine Cd.seq ?_ | refine Cd.cut ?_ | refine Cd.reg ?_ | refine Cd.block ?_ | refine Cd.cond ?_ | refine Cd.dreg ?_ | refine Cd.skip ?_ | refine Cd.ret ?_ | refine Cd.exit ?_ | refine Cd.loop ?_ | refine ⟨rfl, ?_⟩ | refine ⟨Nat.le_of_ble_eq_true rfl, ?_⟩ | refine ⟨.inl rfl, ?_⟩ | refine ⟨fun h => Bool.noConfusion h, ?_⟩)
        conv => whnf
        refine ⟨(g, _, _), ⟨hJ1, by simp; omega, by simp; omega⟩, ?_, by simp⟩
        refine viewI [some 0, some 3] rfl rfl ?_ rfl ?_ rfl ?_
        repeat' (first | exact trivial | rfl | exact .inl rfl | exact .inr rfl | exact id | exact (fun h => Bool.noConfusion h) | refine And.intro ?_ ?_)
        · rw [rowsI, rowsI, List.map_append]; rfl
        · show (rowsI out).length + 1 = _
          rw [rowsI_len, List.length_append]; rfl
      have hp : (decide (p < wTo s k) && decide ((out.length : Int) < n)) = false := hp
      simp only [hp, cond_false] at hJ1
      repeat ((conv => whnf); first | refine Cd.seq ?_ | refine Cd.cut ?_ | refine Cd.reg ?_ | refine Cd.block ?_ | refine Cd.cond ?_ | refine Cd.dreg ?_ | refine Cd.skip ?_ | refine Cd.ret ?_ | refine Cd.exit ?_ | refine Cd.loop ?_ | refine ⟨rfl, ?_⟩ | refine ⟨Nat.le_of_ble_eq_true rfl, ?_⟩ | refine ⟨.inl rfl, ?_⟩ | refine ⟨fun h => Bool.noConfusion h, ?_⟩)
      conv => whnf
      refine ⟨(g, _, out), ⟨hJ1, by simp; omega⟩, ?_, by show g < f; omega⟩
      refine viewI [some 0, some 1] rfl rfl ?_ rfl ?_ rfl ?_
      repeat' (first | exact trivial | rfl | exact .inl rfl | exact .inr rfl | exact id | exact (fun h => Bool.noConfusion h) | refine And.intro ?_ ?_)
    have hf : IntKind.i64.wrap (IntKind.i64.wrap (s.stop + k) - 1) = wFrom s k := by simp [wFrom, k3, k4]
    have ht : IntKind.i64.wrap (s.stop + k) = wTo s k := by simp [wTo, k3, k4]
    repeat ((conv => whnf); first | refine Cd.seq ?_ | refine Cd.cut ?_ | refine Cd.reg ?_ | refine Cd.block ?_ | refine Cd.cond ?_ | refine Cd.dreg ?_ | refine Cd.skip ?_ | refine Cd.ret ?_ | refine Cd.exit ?_ | refine Cd.loop ?_ | refine ⟨rfl, ?_⟩ | refine ⟨Nat.le_of_ble_eq_true rfl, ?_⟩ | refine ⟨.inl rfl, ?_⟩ | refine ⟨fun h => Bool.noConfusion h, ?_⟩)
    conv => whnf
    refine ⟨Nat × Int × List Int, fun p => genR s n p.1 k (wTo s k) p.2.1 p.2.2 = some (predictF s n) ∧ p.1 + p.2.2.length ≤ 5000 ∧ p.1 ≤ f,
      fun | (g, p, out) => ⟨[(1, ⟨[], true, .int .i64 n⟩), (2, ⟨[], true, .ptr 0 0 0⟩), (4, ⟨[], true, .lst 0 true []⟩), (5, ⟨[], true, .sl 1 0 out.length⟩), (6, ⟨[], true, .int .i64 k⟩), (8, ⟨[], true, .int .i64 (wTo s k)⟩), (9, ⟨[], true, .int .i64 p⟩)], [(0, .box s.c), (1, .row 1 (rowsI out))], 2⟩,
      fun p => p.1, ⟨(f, wFrom s k, out), ⟨hI1, by simp; omega, by simp⟩, ?_⟩, fun p hJ => ?_⟩
    · rw [← hf, ← ht]
      refine viewI [some 0, some 1] rfl rfl ?_ rfl ?_ rfl ?_
      repeat' (first | exact trivial | rfl | exact .inl rfl | exact .inr rfl | exact id | exact (fun h => Bool.noConfusion h) | refine And.intro ?_ ?_)
    clear hI1
    obtain ⟨g, p, out⟩ := p
    obtain ⟨hJ1, hJ2, hJ3⟩ := hJ
    simp only at hJ1 hJ2 hJ3
    cases g with
    | zero => simp [genR] at hJ1
    | succ g =>
    rw [genR_succ] at hJ1
    repeat ((conv => whnf); first | refine Cd.seq ?_ | refine Cd.cut ?_ | refine Cd.reg ?_ | refine Cd.block ?_ | refine Cd.cond ?_ | refine Cd.dreg ?_ | refine Cd.skip ?_ | refine Cd.ret ?_ | refine Cd.exit ?_ | refine Cd.loop ?_ | refine ⟨rfl, ?_⟩ | refine ⟨Nat.le_of_ble_eq_true rfl, ?_⟩ | refine ⟨.inl rfl, ?_⟩ | refine ⟨fun h => Bool.noConfusion h, ?_⟩)
    conv => whnf
    refine ⟨fun hp => ?_, fun hp => ?_⟩ <;> try simp only [Bool.cond_true_left, Bool.cond_false_right, Bool.not_eq_true', Bool.not_eq_false', Bool.not_not] at hp
    · have hp : (decide (p < wTo s k) && decide ((out.length : Int) < n)) = true := hp
      simp only [hp, cond_true] at hJ1
      repeat ((conv => whnf); first | refine Cd.seq ?_ | refine Cd.cut ?_ | refine Cd.reg ?_ | refine Cd.block ?_ | refine Cd.cond ?_ | refine Cd.dreg ?_ | refine Cd.skip ?_ | refine Cd.ret ?_ | refine Cd.exit ?_ | refine Cd.loop ?_ | refine ⟨rfl, ?_⟩ | refine ⟨Nat.le_of_ble_eq_true rfl, ?_⟩ | refine ⟨.inl rfl, ?_⟩ | refine ⟨fun h => Bool.noConfusion h, ?_⟩)
      conv => whnf
      refine ⟨fun hc => ?_, fun hc => ?_⟩ <;> try simp only [Bool.cond_true_left, Bool.cond_false_right, Bool.not_eq_true', Bool.not_eq_false', Bool.not_not] at hc
      · simp only [hc, cond_true] at hJ1
        have hJ1 := Option.some.inj hJ1
        repeat ((conv => whnf); first | refine Cd.seq ?_ | refine Cd.cut ?_ | refine Cd.reg ?_ | refine Cd.block ?_ | refine Cd.cond ?_ | refine Cd.dreg ?_ | refine Cd.skip ?_ | refine Cd.ret ?_ | refine Cd.exit ?_ | refine Cd.loop ?_ | refine ⟨rfl, ?_⟩ | refine ⟨Nat.le_of_ble_eq_true rfl, ?_⟩ | refine ⟨.inl rfl, ?_⟩ | refine ⟨fun h => Bool.noConfusion h, ?_⟩)
        conv => whnf
        refine ⟨[], ?_, rfl, trivial, rfl, ?_⟩
        · exact trivial
        try subst hk
        simp only [← hJ1, cond_true, cond_false, Bool.not_true, Bool.not_false]
        repeat' (first | exact trivial | rfl | exact .inl rfl | exact .inr rfl | exact id | exact (fun h => Bool.noConfusion h) | refine And.intro ?_ ?_)
        · exact Nat.le_of_eq (by rw [rowsI_len, Nat.zero_add])
        · exact take0 (rowsI_len _)
      simp only [hc, cond_false] at hJ1
      repeat ((conv => whnf); first | refine Cd.seq ?_ | refine Cd.cut ?_ | refine Cd.reg ?_ | refine Cd.block ?_ | refine Cd.cond ?_ | refine Cd.dreg ?_ | refine Cd.skip ?_ | refine Cd.ret ?_ | refine Cd.exit ?_ | refine Cd.loop ?_ | refine ⟨rfl, ?_⟩ | refine ⟨Nat.le_of_ble_eq_true rfl, ?_⟩ | refine ⟨.inl rfl, ?_⟩ | refine ⟨fun h => Bool.noConfusion h, ?_⟩)
      conv => whnf
      refine ⟨(rowsI_len out).symm, ?_, ?_, ?_⟩
      · show (((rowsI out).length + 1 : Nat) : Int) ≤ _
        rw [rowsI_len]; omega
      · show ((rowsI out).length + 1) * 8 ≤ _
        rw [rowsI_len]; omega
      repeat ((conv => whnf); first | refine Cd.seq ?_ | refine Cd.cut ?_ | refine Cd.reg ?_ | refine Cd.block ?_ | refine Cd.cond ?_ | refine Cd.dreg ?_ | refine Cd.skip ?_ | refine Cd.ret ?_ | refine Cd.exit ?_ | refine Cd.loop ?_ | refine ⟨rfl, ?_⟩ | refine ⟨Nat.le_of_ble_eq_true rfl, ?_⟩ | refine ⟨.inl rfl, ?_⟩ | refine ⟨fun h => Bool.noConfusion h, ?_⟩)
      conv => whnf
      refine ⟨(g, _, _), ⟨hJ1, by simp; omega, by simp; omega⟩, ?_, by simp⟩
      refine viewI [some 0, some 3] rfl rfl ?_ rfl ?_ rfl ?_
      repeat' (first | exact trivial | rfl | exact .inl rfl | exact .inr rfl | exact id | exact (fun h => Bool.noConfusion h) | refine And.intro ?_ ?_)
      · rw [rowsI, rowsI, List.map_append]; rfl
      · show (rowsI out).length + 1 = _
        rw [rowsI_len, List.length_append]; rfl
    have hp : (decide (p < wTo s k) && decide ((out.length : Int) < n)) = false := hp
    simp only [hp, cond_false] at hJ1
    repeat ((conv => whnf); first | refine Cd.seq ?_ | refine Cd.cut ?_ | refine Cd.reg ?_ | refine Cd.block ?_ | refine Cd.cond ?_ | refine Cd.dreg ?_ | refine Cd.skip ?_ | refine Cd.ret ?_ | refine Cd.exit ?_ | refine Cd.loop ?_ | refine ⟨rfl, ?_⟩ | refine ⟨Nat.le_of_ble_eq_true rfl, ?_⟩ | refine ⟨.inl rfl, ?_⟩ | refine ⟨fun h => Bool.noConfusion h, ?_⟩)
    conv => whnf
    refine ⟨(g, _, out), ⟨hJ1, by simp; omega⟩, ?_, by show g < f; omega⟩
    refine viewI [some 0, some 1] rfl rfl ?_ rfl ?_ rfl ?_
    repeat' (first | exact trivial | rfl | exact .inl rfl | exact .inr rfl | exact id | exact (fun h => Bool.noConfusion h) | refine And.intro ?_ ?_)
  simp only [headR, hh, cond_false] at hI1
  have hI1 := Option.some.inj hI1
  repeat ((conv => whnf); first | refine Cd.seq ?_ | refine Cd.cut ?_ | refine Cd.reg ?_ | refine Cd.block ?_ | refine Cd.cond ?_ | refine Cd.dreg ?_ | refine Cd.skip ?_ | refine Cd.ret ?_ | refine Cd.exit ?_ | refine Cd.loop ?_ | refine ⟨rfl, ?_⟩ | refine ⟨Nat.le_of_ble_eq_true rfl, ?_⟩ | refine ⟨.inl rfl, ?_⟩ | refine ⟨fun h => Bool.noConfusion h, ?_⟩)
  conv => whnf
  refine ⟨[], ?_, rfl, trivial, rfl, ?_⟩
  · exact trivial
  try subst hk
  simp only [← hI1, cond_true, cond_false, Bool.not_true, Bool.not_false]
  repeat' (first | exact trivial | rfl | exact .inl rfl | exact .inr rfl | exact id | exact (fun h => Bool.noConfusion h) | refine And.intro ?_ ?_)
  · exact Nat.le_of_eq (by rw [rowsI_len, Nat.zero_add])
  · exact take0 (rowsI_len _)
end Go.Proofs.YteelckbeekgfiaaDoor
