/- Stream: Predict, the walk. -/
import Derived.Test.YteelckbeekgfiaaDoorW11
set_option linter.unusedSimpArgs false
set_option linter.unusedVariables false
namespace Go.Proofs.YteelckbeekgfiaaDoor
open Go Go.Sk Go.RowKit

/- pagecache/stream.Predict -/
def rc28 : RC :=
  (.seq
  (.reg [⟨(some 2), none, (.box (.t 0))⟩,
    ⟨(some 4), none, (.mv (.c (.lst 0 true [])))⟩] [])
  (.seq
  (.seq
  (.reg [⟨(some 10), none, (.ld true 6 (.t 2))⟩,
    ⟨(some 11), none, (.call 34 [(.t 10)])⟩,
    ⟨(some 12), none, (.un .not (.t 11))⟩,
    ⟨(some 13), none, (.mv (.t 12))⟩,
    ⟨(some 14), (some (13, false)), (.faddr 0 (.t 2))⟩,
    ⟨(some 15), (some (13, false)), (.ld false 1 (.t 14))⟩,
    ⟨(some 16), (some (13, false)), (.bin .eql (.t 15) (.c (.int .i64 1)))⟩,
    ⟨(some 17), none, (.pick (.t 13) (.c (.bool true)) (.t 16))⟩] [10, 11, 12, 13, 14, 15, 16])
  (.cond (.t 17)
   (.seq
   (.reg [⟨(some 4), none, (.mv (.c (.lst 0 true [])))⟩] [])
   .ret)
   .skip))
  (.seq
  (.dreg 4096 4240 [⟨(some 18), none, (.faddr 1 (.t 2))⟩,
    ⟨(some 19), none, (.ld false 1 (.t 18))⟩,
    ⟨(some 20), none, (.faddr 2 (.t 2))⟩,
    ⟨(some 21), none, (.ld false 1 (.t 20))⟩,
    ⟨(some 22), none, (.faddr 3 (.t 2))⟩,
    ⟨(some 23), none, (.ld false 1 (.t 22))⟩,
    ⟨(some 5), none, (.mv (.t 19))⟩,
    ⟨(some 6), none, (.mv (.t 21))⟩,
    ⟨(some 7), none, (.mv (.t 23))⟩] [18, 19, 20, 21, 22, 23] [[], [0], [], [2], [], [4], [1, 0], [3, 2, 6, 0, 1], [5, 4, 7, 1, 0, 6, 2, 3]] [4096, 4112, 4128, 4144, 4160, 4176, 4192, 4208, 4224])
  (.seq
  (.seq
  (.reg [⟨(some 24), none, (.faddr 0 (.t 2))⟩,
    ⟨(some 25), none, (.ld false 1 (.t 24))⟩] [24])
  (.block 0
   (.seq
   (.reg [⟨(some 27), none, (.bin .eql (.t 25) (.c (.int .i64 2)))⟩,
     ⟨(some 26), none, (.mv (.t 27))⟩] [27])
   (.cond (.t 26)
    (.dreg 7168 7296 [⟨(some 28), none, (.faddr 2 (.t 2))⟩,
      ⟨(some 29), none, (.ld false 1 (.t 28))⟩,
      ⟨(some 30), none, (.bin .sub (.t 29) (.c (.int .i64 1)))⟩,
      ⟨(some 31), none, (.faddr 2 (.t 2))⟩,
      ⟨(some 32), none, (.ld false 1 (.t 31))⟩,
      ⟨(some 5), none, (.mv (.t 30))⟩,
      ⟨(some 6), none, (.mv (.t 32))⟩,
      ⟨(some 7), none, (.mv (.c (.int .i64 1)))⟩] [28, 29, 30, 31, 32] [[], [0], [1, 0], [], [3], [2, 0, 1], [4, 3, 5, 1, 0, 2], [6, 2, 0, 1, 5, 3, 4]] [7168, 7184, 7200, 7216, 7232, 7248, 7264, 7280])
    (.seq
    (.reg [⟨(some 34), none, (.bin .eql (.t 25) (.c (.int .i64 3)))⟩,
      ⟨(some 33), none, (.mv (.t 34))⟩] [34])
    (.cond (.t 33)
     (.dreg 9216 9344 [⟨(some 35), none, (.faddr 1 (.t 2))⟩,
       ⟨(some 36), none, (.ld false 1 (.t 35))⟩,
       ⟨(some 37), none, (.faddr 1 (.t 2))⟩,
       ⟨(some 38), none, (.ld false 1 (.t 37))⟩,
       ⟨(some 39), none, (.bin .add (.t 38) (.c (.int .i64 1)))⟩,
       ⟨(some 5), none, (.mv (.t 36))⟩,
       ⟨(some 6), none, (.mv (.t 39))⟩,
       ⟨(some 7), none, (.mv (.c (.int .i64 (-1))))⟩] [35, 36, 37, 38, 39] [[], [0], [], [2], [3, 2], [1, 0], [4, 2, 3, 5, 0, 1], [6, 1, 0, 5, 3, 2, 4]] [9216, 9232, 9248, 9264, 9280, 9296, 9312, 9328])
     .skip))))))
  (.seq
  (.reg [⟨(some 8), none, (.mv (.c (.lst 0 true [])))⟩] [])
  (.block 1
   (.loop
    (.block 2
     (.seq
     (.reg [⟨(some 40), none, (.mv (.t 5))⟩,
       ⟨(some 41), none, (.mv (.t 7))⟩,
       ⟨(some 42), none, (.bin .add (.t 40) (.t 41))⟩,
       ⟨(some 43), none, (.mv (.t 6))⟩,
       ⟨(some 44), none, (.mv (.t 7))⟩,
       ⟨(some 45), none, (.bin .add (.t 43) (.t 44))⟩,
       ⟨(some 5), none, (.mv (.t 42))⟩,
       ⟨(some 6), none, (.mv (.t 45))⟩] [40, 41, 42, 43, 44, 45])
     (.seq
     (.reg [⟨(some 46), none, (.mv (.t 5))⟩,
       ⟨(some 9), none, (.mv (.t 46))⟩] [46])
     (.block 3
      (.loop
       (.seq
       (.seq
       (.reg [⟨(some 47), none, (.mv (.t 9))⟩,
         ⟨(some 48), none, (.mv (.t 6))⟩,
         ⟨(some 49), none, (.bin .lss (.t 47) (.t 48))⟩] [47, 48])
       (.cond (.t 49)
        .skip
        (.exit 3)))
       (.seq
       (.block 4
        (.seq
        (.seq
        (.reg [⟨(some 52), none, (.mv (.t 8))⟩,
          ⟨(some 53), none, (.len (.t 52))⟩,
          ⟨(some 54), none, (.mv (.t 1))⟩,
          ⟨(some 55), none, (.bin .geq (.t 53) (.t 54))⟩,
          ⟨(some 56), none, (.mv (.t 55))⟩,
          ⟨(some 57), (some (56, false)), (.mv (.t 9))⟩,
          ⟨(some 58), (some (56, false)), (.bin .lss (.t 57) (.c (.int .i64 0)))⟩,
          ⟨(some 59), none, (.pick (.t 56) (.c (.bool true)) (.t 58))⟩,
          ⟨(some 60), none, (.mv (.t 59))⟩,
          ⟨(some 61), (some (60, false)), (.mv (.t 9))⟩,
          ⟨(some 62), (some (60, false)), (.bin .gtr (.t 61) (.c (.int .i64 255)))⟩,
          ⟨(some 63), none, (.pick (.t 60) (.c (.bool true)) (.t 62))⟩] [52, 53, 54, 55, 56, 57, 58, 59, 60, 61, 62])
        (.cond (.t 63)
         (.seq
         (.reg [⟨(some 64), none, (.mv (.t 8))⟩,
           ⟨(some 4), none, (.mv (.t 64))⟩] [64])
         .ret)
         .skip))
        (.reg [⟨(some 65), none, (.mv (.t 8))⟩,
          ⟨(some 66), none, (.mv (.t 9))⟩,
          ⟨(some 67), none, (.bslice 1 [(.int .i64 0)] 1 [(0, (.t 66))])⟩,
          ⟨(some 68), none, (.app 1 8 (.t 65) (.t 67))⟩,
          ⟨(some 8), none, (.mv (.t 68))⟩] [65, 66, 67, 68])))
       (.reg [⟨(some 50), none, (.mv (.t 9))⟩,
         ⟨(some 51), none, (.bin .add (.t 50) (.c (.int .i64 1)))⟩,
         ⟨(some 9), none, (.mv (.t 51))⟩] [50, 51])))))))))))))))
theorem rcq28 : resC Go.Proofs.Tryd.prog Go.Proofs.Tryd.f28.ntmps ((Go.Proofs.Tryd.f28.body).getD .skip) = some (strip rc28) := by kernel_rfl
def rv28 : List RV := [(.tmp 4)]
theorem rvq28 : Go.Proofs.Tryd.f28.results.toList.mapM (resRV Go.Proofs.Tryd.prog) = some rv28 := by kernel_rfl

set_option maxRecDepth 20000 in
theorem ok28 (s : Stm) (n : Int) : FnC Tryd.prog 28 [] [.agg s.c, .int .i64 n] (.lst 1 false (rowsI (predictF s n))) [] := by
  refine fn_okC (ob0 := []) (rc := rc28) (rvs := rv28) Tryd.func28 rfl rcq28 rvq28 (show 2 ≤ _ by decide) ?_
  generalize hk : predictF s n = q
  repeat ((conv => whnf); first | refine Cd.seq ?_ | refine Cd.cut ?_ | refine Cd.reg ?_ | refine Cd.block ?_ | refine Cd.cond ?_ | refine Cd.dreg ?_ | refine Cd.skip ?_ | refine Cd.ret ?_ | refine Cd.exit ?_ | refine Cd.loop ?_ | refine ⟨rfl, ?_⟩ | refine ⟨Nat.le_of_ble_eq_true rfl, ?_⟩ | refine ⟨.inl rfl, ?_⟩ | refine ⟨fun h => Bool.noConfusion h, ?_⟩ | refine .inl ⟨_, fun _ => ⟨purA rfl, (by first | exact ok34 s)⟩, .inl rfl, ?_⟩)
  conv => whnf
  refine ⟨fun h1 => ?_, fun h1 => ?_⟩ <;> try simp only [Bool.cond_true_left, Bool.cond_false_right, Bool.not_eq_true', Bool.not_eq_false', Bool.not_not] at h1
  · repeat ((conv => whnf); first | refine Cd.seq ?_ | refine Cd.cut ?_ | refine Cd.reg ?_ | refine Cd.block ?_ | refine Cd.cond ?_ | refine Cd.dreg ?_ | refine Cd.skip ?_ | refine Cd.ret ?_ | refine Cd.exit ?_ | refine Cd.loop ?_ | refine ⟨rfl, ?_⟩ | refine ⟨Nat.le_of_ble_eq_true rfl, ?_⟩ | refine ⟨.inl rfl, ?_⟩ | refine ⟨fun h => Bool.noConfusion h, ?_⟩)
    conv => whnf
    refine ⟨[], ?_, rfl, trivial, rfl, ?_⟩
    · exact trivial
    try subst hk
    simp only [predictF, h1, cond_true, cond_false, Bool.not_true, Bool.not_false]
    repeat' (first | exact trivial | rfl | exact .inl rfl | exact .inr rfl | exact id | exact (fun h => Bool.noConfusion h) | refine And.intro ?_ ?_)
  have h1' : rightF s = true ∧ s.kind ≠ 1 := by simpa using h1
  obtain ⟨r, hr⟩ := genP_some s n h1'.1 h1'.2
  have hq : predictF s n = r := by simp only [predictF, h1, hr]; rfl
  obtain ⟨N, hN⟩ : ∃ N, N = 5000 := ⟨_, rfl⟩
  rw [← hN] at hr
  repeat ((conv => whnf); first | refine Cd.seq ?_ | refine Cd.cut ?_ | refine Cd.reg ?_ | refine Cd.block ?_ | refine Cd.cond ?_ | refine Cd.dreg ?_ | refine Cd.skip ?_ | refine Cd.ret ?_ | refine Cd.exit ?_ | refine Cd.loop ?_ | refine ⟨rfl, ?_⟩ | refine ⟨Nat.le_of_ble_eq_true rfl, ?_⟩ | refine ⟨.inl rfl, ?_⟩ | refine ⟨fun h => Bool.noConfusion h, ?_⟩)
  conv => whnf
  refine ⟨fun k2 => ?_, fun k2 => ?_⟩ <;> try simp only [Bool.cond_true_left, Bool.cond_false_right, Bool.not_eq_true', Bool.not_eq_false', Bool.not_not] at k2
  · have preFrom_eq : preFrom s = IntKind.i64.wrap (s.stop - 1) := by simp [preFrom, k2]
    have preTo_eq : preTo s = s.stop := by simp [preTo, k2]
    have preStep_eq : preStep s = 1 := by simp [preStep, k2]
    repeat ((conv => whnf); first | refine Cd.seq ?_ | refine Cd.cut ?_ | refine Cd.reg ?_ | refine Cd.block ?_ | refine Cd.cond ?_ | refine Cd.dreg ?_ | refine Cd.skip ?_ | refine Cd.ret ?_ | refine Cd.exit ?_ | refine Cd.loop ?_ | refine ⟨rfl, ?_⟩ | refine ⟨Nat.le_of_ble_eq_true rfl, ?_⟩ | refine ⟨.inl rfl, ?_⟩ | refine ⟨fun h => Bool.noConfusion h, ?_⟩)
    conv => whnf
    rw [preFrom_eq, preTo_eq, preStep_eq] at hr
    refine ⟨Nat × Int × Int × List Int, fun p => genP 1 n p.1 p.2.1 p.2.2.1 p.2.2.1 p.2.2.2 = some r ∧ p.1 + p.2.2.2.length ≤ 5000,
      fun | (f, fr, to, out) => ⟨[(1, ⟨[], true, .int .i64 n⟩), (4, ⟨[], true, .lst 0 true []⟩), (5, ⟨[], true, .int .i64 fr⟩), (6, ⟨[], true, .int .i64 to⟩), (7, ⟨[], true, .int .i64 1⟩), (8, ⟨[], true, .sl 0 0 out.length⟩)], [(0, .row 1 (rowsI out))], 1⟩,
      fun p => p.1, ⟨(N, (IntKind.i64.wrap (s.stop - 1)), s.stop, []), ⟨hr, by simp; omega⟩, ?_⟩, fun p hI => ?_⟩
    · refine viewI [none] rfl rfl ?_ rfl ?_ rfl ?_
      repeat' (first | exact trivial | rfl | exact .inl rfl | exact .inr rfl | exact id | exact (fun h => Bool.noConfusion h) | refine And.intro ?_ ?_)
    obtain ⟨f, fr, to, out⟩ := p
    obtain ⟨hI1, hI2⟩ := hI
    simp only at hI1 hI2
    cases f with
    | zero => simp [genP] at hI1
    | succ f =>
    simp only [genP, Int.lt_irrefl, decide_false, cond_false] at hI1
    repeat ((conv => whnf); first | refine Cd.seq ?_ | refine Cd.cut ?_ | refine Cd.reg ?_ | refine Cd.block ?_ | refine Cd.cond ?_ | refine Cd.dreg ?_ | refine Cd.skip ?_ | refine Cd.ret ?_ | refine Cd.exit ?_ | refine Cd.loop ?_ | refine ⟨rfl, ?_⟩ | refine ⟨Nat.le_of_ble_eq_true rfl, ?_⟩ | refine ⟨.inl rfl, ?_⟩ | refine ⟨fun h => Bool.noConfusion h, ?_⟩)
    conv => whnf
    refine ⟨Nat × Int × List Int, fun p => genP 1 n p.1 (IntKind.i64.wrap (fr + 1)) (IntKind.i64.wrap (to + 1)) p.2.1 p.2.2 = some r ∧ p.1 + p.2.2.length ≤ 5000 ∧ p.1 ≤ f,
      fun | (g, p, out) => ⟨[(1, ⟨[], true, .int .i64 n⟩), (4, ⟨[], true, .lst 0 true []⟩), (5, ⟨[], true, .int .i64 (IntKind.i64.wrap (fr + 1))⟩), (6, ⟨[], true, .int .i64 (IntKind.i64.wrap (to + 1))⟩), (7, ⟨[], true, .int .i64 1⟩), (8, ⟨[], true, .sl 0 0 out.length⟩), (9, ⟨[], true, .int .i64 p⟩)], [(0, .row 1 (rowsI out))], 1⟩,
      fun p => p.1, ⟨(f, _, out), ⟨hI1, by simp; omega, by simp⟩, ?_⟩, fun p hJ => ?_⟩
    · refine viewI [some 0] rfl rfl ?_ rfl ?_ rfl ?_
      repeat' (first | exact trivial | rfl | exact .inl rfl | exact .inr rfl | exact id | exact (fun h => Bool.noConfusion h) | refine And.intro ?_ ?_)
    clear hI1
    obtain ⟨g, p, out⟩ := p
    obtain ⟨hJ1, hJ2, hJ3⟩ := hJ
    simp only at hJ1 hJ2 hJ3
    cases g with
    | zero => simp [genP] at hJ1
    | succ g =>
    repeat ((conv => whnf); first | refine Cd.seq ?_ | refine Cd.cut ?_ | refine Cd.reg ?_ | refine Cd.block ?_ | refine Cd.cond ?_ | refine Cd.dreg ?_ | refine Cd.skip ?_ | refine Cd.ret ?_ | refine Cd.exit ?_ | refine Cd.loop ?_ | refine ⟨rfl, ?_⟩ | refine ⟨Nat.le_of_ble_eq_true rfl, ?_⟩ | refine ⟨.inl rfl, ?_⟩ | refine ⟨fun h => Bool.noConfusion h, ?_⟩)
    conv => whnf
    refine ⟨fun hp => ?_, fun hp => ?_⟩ <;> try simp only [Bool.cond_true_left, Bool.cond_false_right, Bool.not_eq_true', Bool.not_eq_false', Bool.not_not] at hp
    · simp only [genP, hp, cond_true] at hJ1
      repeat ((conv => whnf); first | refine Cd.seq ?_ | refine Cd.cut ?_ | refine Cd.reg ?_ | refine Cd.block ?_ | refine Cd.cond ?_ | refine Cd.dreg ?_ | refine Cd.skip ?_ | refine Cd.ret ?_ | refine Cd.exit ?_ | refine Cd.loop ?_ | refine ⟨rfl, ?_⟩ | refine ⟨Nat.le_of_ble_eq_true rfl, ?_⟩ | refine ⟨.inl rfl, ?_⟩ | refine ⟨fun h => Bool.noConfusion h, ?_⟩)
      conv => whnf
      refine ⟨fun hc => ?_, fun hc => ?_⟩ <;> try simp only [Bool.cond_true_left, Bool.cond_false_right, Bool.not_eq_true', Bool.not_eq_false', Bool.not_not] at hc
      · simp only [hc, cond_true] at hJ1
        obtain rfl := Option.some.inj hJ1
        repeat ((conv => whnf); first | refine Cd.seq ?_ | refine Cd.cut ?_ | refine Cd.reg ?_ | refine Cd.block ?_ | refine Cd.cond ?_ | refine Cd.dreg ?_ | refine Cd.skip ?_ | refine Cd.ret ?_ | refine Cd.exit ?_ | refine Cd.loop ?_ | refine ⟨rfl, ?_⟩ | refine ⟨Nat.le_of_ble_eq_true rfl, ?_⟩ | refine ⟨.inl rfl, ?_⟩ | refine ⟨fun h => Bool.noConfusion h, ?_⟩)
        conv => whnf
        refine ⟨[], ?_, rfl, trivial, rfl, ?_⟩
        · exact trivial
        try subst hk
        simp only [hq, cond_true, cond_false, Bool.not_true, Bool.not_false]
        repeat' (first | exact trivial | rfl | exact .inl rfl | exact .inr rfl | exact id | exact (fun h => Bool.noConfusion h) | refine And.intro ?_ ?_)
        · exact Nat.le_of_eq (by rw [rowsI_len, Nat.zero_add])
        · exact take0 (rowsI_len _)
      simp only [hc, cond_false] at hJ1
      repeat ((conv => whnf); first | refine Cd.seq ?_ | refine Cd.cut ?_ | refine Cd.reg ?_ | refine Cd.block ?_ | refine Cd.cond ?_ | refine Cd.dreg ?_ | refine Cd.skip ?_ | refine Cd.ret ?_ | refine Cd.exit ?_ | refine Cd.loop ?_ | refine ⟨rfl, ?_⟩ | refine ⟨Nat.le_of_ble_eq_true rfl, ?_⟩ | refine ⟨.inl rfl, ?_⟩ | refine ⟨fun h => Bool.noConfusion h, ?_⟩)
      conv => whnf
      refine ⟨(rowsI_len out).symm, ?_, ?_, ?_⟩
      · show (((rowsI out).length + 1 : Nat) : Int) ≤ _
        rw [rowsI_len]; omega
      · show ((rowsI out).length + 1) * 8 ≤ _
        rw [rowsI_len]; omega
      repeat ((conv => whnf); first | refine Cd.seq ?_ | refine Cd.cut ?_ | refine Cd.reg ?_ | refine Cd.block ?_ | refine Cd.cond ?_ | refine Cd.dreg ?_ | refine Cd.skip ?_ | refine Cd.ret ?_ | refine Cd.exit ?_ | refine Cd.loop ?_ | refine ⟨rfl, ?_⟩ | refine ⟨Nat.le_of_ble_eq_true rfl, ?_⟩ | refine ⟨.inl rfl, ?_⟩ | refine ⟨fun h => Bool.noConfusion h, ?_⟩)
      conv => whnf
      refine ⟨(g, _, _), ⟨hJ1, by simp; omega, by simp; omega⟩, ?_, by simp⟩
      refine viewI [some 2] rfl rfl ?_ rfl ?_ rfl ?_
      repeat' (first | exact trivial | rfl | exact .inl rfl | exact .inr rfl | exact id | exact (fun h => Bool.noConfusion h) | refine And.intro ?_ ?_)
      · rw [rowsI, rowsI, List.map_append]; rfl
      · show (rowsI out).length + 1 = _
        rw [rowsI_len, List.length_append]; rfl
    repeat ((conv => whnf); first | refine Cd.seq ?_ | refine Cd.cut ?_ | refine Cd.reg ?_ | refine Cd.block ?_ | refine Cd.cond ?_ | refine Cd.dreg ?_ | refine Cd.skip ?_ | refine Cd.ret ?_ | refine Cd.exit ?_ | refine Cd.loop ?_ | refine ⟨rfl, ?_⟩ | refine ⟨Nat.le_of_ble_eq_true rfl, ?_⟩ | refine ⟨.inl rfl, ?_⟩ | refine ⟨fun h => Bool.noConfusion h, ?_⟩)
    conv => whnf
    refine ⟨(g + 1, IntKind.i64.wrap (fr + 1), IntKind.i64.wrap (to + 1), out), ⟨?_, hJ2⟩, ?_, by show g + 1 < f + 1; omega⟩
    · simp only [genP, hp, cond_false] at hJ1
      simp only [genP, Int.lt_irrefl, decide_false, cond_false]
      exact hJ1
    refine viewI [some 0] rfl rfl ?_ rfl ?_ rfl ?_
    repeat' (first | exact trivial | rfl | exact .inl rfl | exact .inr rfl | exact id | exact (fun h => Bool.noConfusion h) | refine And.intro ?_ ?_)
  repeat ((conv => whnf); first | refine Cd.seq ?_ | refine Cd.cut ?_ | refine Cd.reg ?_ | refine Cd.block ?_ | refine Cd.cond ?_ | refine Cd.dreg ?_ | refine Cd.skip ?_ | refine Cd.ret ?_ | refine Cd.exit ?_ | refine Cd.loop ?_ | refine ⟨rfl, ?_⟩ | refine ⟨Nat.le_of_ble_eq_true rfl, ?_⟩ | refine ⟨.inl rfl, ?_⟩ | refine ⟨fun h => Bool.noConfusion h, ?_⟩)
  conv => whnf
  refine ⟨fun k3 => ?_, fun k3 => ?_⟩ <;> try simp only [Bool.cond_true_left, Bool.cond_false_right, Bool.not_eq_true', Bool.not_eq_false', Bool.not_not] at k3
  · have preFrom_eq : preFrom s = s.start := by simp [preFrom, k2]
    have preTo_eq : preTo s = IntKind.i64.wrap (s.start + 1) := by simp [preTo, k2, k3]
    have preStep_eq : preStep s = -1 := by simp [preStep, k2, k3]
    repeat ((conv => whnf); first | refine Cd.seq ?_ | refine Cd.cut ?_ | refine Cd.reg ?_ | refine Cd.block ?_ | refine Cd.cond ?_ | refine Cd.dreg ?_ | refine Cd.skip ?_ | refine Cd.ret ?_ | refine Cd.exit ?_ | refine Cd.loop ?_ | refine ⟨rfl, ?_⟩ | refine ⟨Nat.le_of_ble_eq_true rfl, ?_⟩ | refine ⟨.inl rfl, ?_⟩ | refine ⟨fun h => Bool.noConfusion h, ?_⟩)
    conv => whnf
    rw [preFrom_eq, preTo_eq, preStep_eq] at hr
    refine ⟨Nat × Int × Int × List Int, fun p => genP (-1) n p.1 p.2.1 p.2.2.1 p.2.2.1 p.2.2.2 = some r ∧ p.1 + p.2.2.2.length ≤ 5000,
      fun | (f, fr, to, out) => ⟨[(1, ⟨[], true, .int .i64 n⟩), (4, ⟨[], true, .lst 0 true []⟩), (5, ⟨[], true, .int .i64 fr⟩), (6, ⟨[], true, .int .i64 to⟩), (7, ⟨[], true, .int .i64 (-1)⟩), (8, ⟨[], true, .sl 0 0 out.length⟩)], [(0, .row 1 (rowsI out))], 1⟩,
      fun p => p.1, ⟨(N, s.start, (IntKind.i64.wrap (s.start + 1)), []), ⟨hr, by simp; omega⟩, ?_⟩, fun p hI => ?_⟩
    · refine viewI [none] rfl rfl ?_ rfl ?_ rfl ?_
      repeat' (first | exact trivial | rfl | exact .inl rfl | exact .inr rfl | exact id | exact (fun h => Bool.noConfusion h) | refine And.intro ?_ ?_)
    obtain ⟨f, fr, to, out⟩ := p
    obtain ⟨hI1, hI2⟩ := hI
    simp only at hI1 hI2
    cases f with
    | zero => simp [genP] at hI1
    | succ f =>
    simp only [genP, Int.lt_irrefl, decide_false, cond_false] at hI1
    repeat ((conv => whnf); first | refine Cd.seq ?_ | refine Cd.cut ?_ | refine Cd.reg ?_ | refine Cd.block ?_ | refine Cd.cond ?_ | refine Cd.dreg ?_ | refine Cd.skip ?_ | refine Cd.ret ?_ | refine Cd.exit ?_ | refine Cd.loop ?_ | refine ⟨rfl, ?_⟩ | refine ⟨Nat.le_of_ble_eq_true rfl, ?_⟩ | refine ⟨.inl rfl, ?_⟩ | refine ⟨fun h => Bool.noConfusion h, ?_⟩)
    conv => whnf
    refine ⟨Nat × Int × List Int, fun p => genP (-1) n p.1 (IntKind.i64.wrap (fr + (-1))) (IntKind.i64.wrap (to + (-1))) p.2.1 p.2.2 = some r ∧ p.1 + p.2.2.length ≤ 5000 ∧ p.1 ≤ f,
      fun | (g, p, out) => ⟨[(1, ⟨[], true, .int .i64 n⟩), (4, ⟨[], true, .lst 0 true []⟩), (5, ⟨[], true, .int .i64 (IntKind.i64.wrap (fr + (-1)))⟩), (6, ⟨[], true, .int .i64 (IntKind.i64.wrap (to + (-1)))⟩), (7, ⟨[], true, .int .i64 (-1)⟩), (8, ⟨[], true, .sl 0 0 out.length⟩), (9, ⟨[], true, .int .i64 p⟩)], [(0, .row 1 (rowsI out))], 1⟩,
      fun p => p.1, ⟨(f, _, out), ⟨hI1, by simp; omega, by simp⟩, ?_⟩, fun p hJ => ?_⟩
    · refine viewI [some 0] rfl rfl ?_ rfl ?_ rfl ?_
      repeat' (first | exact trivial | rfl | exact .inl rfl | exact .inr rfl | exact id | exact (fun h => Bool.noConfusion h) | refine And.intro ?_ ?_)
    clear hI1
    obtain ⟨g, p, out⟩ := p
    obtain ⟨hJ1, hJ2, hJ3⟩ := hJ
    simp only at hJ1 hJ2 hJ3
    cases g with
    | zero => simp [genP] at hJ1
    | succ g =>
    repeat ((conv => whnf); first | refine Cd.seq ?_ | refine Cd.cut ?_ | refine Cd.reg ?_ | refine Cd.block ?_ | refine Cd.cond ?_ | refine Cd.dreg ?_ | refine Cd.skip ?_ | refine Cd.ret ?_ | refine Cd.exit ?_ | refine Cd.loop ?_ | refine ⟨rfl, ?_⟩ | refine ⟨Nat.le_of_ble_eq_true rfl, ?_⟩ | refine ⟨.inl rfl, ?_⟩ | refine ⟨fun h => Bool.noConfusion h, ?_⟩)
    conv => whnf
    refine ⟨fun hp => ?_, fun hp => ?_⟩ <;> try simp only [Bool.cond_true_left, Bool.cond_false_right, Bool.not_eq_true', Bool.not_eq_false', Bool.not_not] at hp
    · simp only [genP, hp, cond_true] at hJ1
      repeat ((conv => whnf); first | refine Cd.seq ?_ | refine Cd.cut ?_ | refine Cd.reg ?_ | refine Cd.block ?_ | refine Cd.cond ?_ | refine Cd.dreg ?_ | refine Cd.skip ?_ | refine Cd.ret ?_ | refine Cd.exit ?_ | refine Cd.loop ?_ | refine ⟨rfl, ?_⟩ | refine ⟨Nat.le_of_ble_eq_true rfl, ?_⟩ | refine ⟨.inl rfl, ?_⟩ | refine ⟨fun h => Bool.noConfusion h, ?_⟩)
      conv => whnf
      refine ⟨fun hc => ?_, fun hc => ?_⟩ <;> try simp only [Bool.cond_true_left, Bool.cond_false_right, Bool.not_eq_true', Bool.not_eq_false', Bool.not_not] at hc
      · simp only [hc, cond_true] at hJ1
        obtain rfl := Option.some.inj hJ1
        repeat ((conv => whnf); first | refine Cd.seq ?_ | refine Cd.cut ?_ | refine Cd.reg ?_ | refine Cd.block ?_ | refine Cd.cond ?_ | refine Cd.dreg ?_ | refine Cd.skip ?_ | refine Cd.ret ?_ | refine Cd.exit ?_ | refine Cd.loop ?_ | refine ⟨rfl, ?_⟩ | refine ⟨Nat.le_of_ble_eq_true rfl, ?_⟩ | refine ⟨.inl rfl, ?_⟩ | refine ⟨fun h => Bool.noConfusion h, ?_⟩)
        conv => whnf
        refine ⟨[], ?_, rfl, trivial, rfl, ?_⟩
        · exact trivial
        try subst hk
        simp only [hq, cond_true, cond_false, Bool.not_true, Bool.not_false]
        repeat' (first | exact trivial | rfl | exact .inl rfl | exact .inr rfl | exact id | exact (fun h => Bool.noConfusion h) | refine And.intro ?_ ?_)
        · exact Nat.le_of_eq (by rw [rowsI_len, Nat.zero_add])
        · exact take0 (rowsI_len _)
      simp only [hc, cond_false] at hJ1
      repeat ((conv => whnf); first | refine Cd.seq ?_ | refine Cd.cut ?_ | refine Cd.reg ?_ | refine Cd.block ?_ | refine Cd.cond ?_ | refine Cd.dreg ?_ | refine Cd.skip ?_ | refine Cd.ret ?_ | refine Cd.exit ?_ | refine Cd.loop ?_ | refine ⟨rfl, ?_⟩ | refine ⟨Nat.le_of_ble_eq_true rfl, ?_⟩ | refine ⟨.inl rfl, ?_⟩ | refine ⟨fun h => Bool.noConfusion h, ?_⟩)
      conv => whnf
      refine ⟨(rowsI_len out).symm, ?_, ?_, ?_⟩
      · show (((rowsI out).length + 1 : Nat) : Int) ≤ _
        rw [rowsI_len]; omega
      · show ((rowsI out).length + 1) * 8 ≤ _
        rw [rowsI_len]; omega
      repeat ((conv => whnf); first | refine Cd.seq ?_ | refine Cd.cut ?_ | refine Cd.reg ?_ | refine Cd.block ?_ | refine Cd.cond ?_ | refine Cd.dreg ?_ | refine Cd.skip ?_ | refine Cd.ret ?_ | refine Cd.exit ?_ | refine Cd.loop ?_ | refine ⟨rfl, ?_⟩ | refine ⟨Nat.le_of_ble_eq_true rfl, ?_⟩ | refine ⟨.inl rfl, ?_⟩ | refine ⟨fun h => Bool.noConfusion h, ?_⟩)
      conv => whnf
      refine ⟨(g, _, _), ⟨hJ1, by simp; omega, by simp; omega⟩, ?_, by simp⟩
      refine viewI [some 2] rfl rfl ?_ rfl ?_ rfl ?_
      repeat' (first | exact trivial | rfl | exact .inl rfl | exact .inr rfl | exact id | exact (fun h => Bool.noConfusion h) | refine And.intro ?_ ?_)
      · rw [rowsI, rowsI, List.map_append]; rfl
      · show (rowsI out).length + 1 = _
        rw [rowsI_len, List.length_append]; rfl
    repeat ((conv => whnf); first | refine Cd.seq ?_ | refine Cd.cut ?_ | refine Cd.reg ?_ | refine Cd.block ?_ | refine Cd.cond ?_ | refine Cd.dreg ?_ | refine Cd.skip ?_ | refine Cd.ret ?_ | refine Cd.exit ?_ | refine Cd.loop ?_ | refine ⟨rfl, ?_⟩ | refine ⟨Nat.le_of_ble_eq_true rfl, ?_⟩ | refine ⟨.inl rfl, ?_⟩ | refine ⟨fun h => Bool.noConfusion h, ?_⟩)
    conv => whnf
    refine ⟨(g + 1, IntKind.i64.wrap (fr + (-1)), IntKind.i64.wrap (to + (-1)), out), ⟨?_, hJ2⟩, ?_, by show g + 1 < f + 1; omega⟩
    · simp only [genP, hp, cond_false] at hJ1
      simp only [genP, Int.lt_irrefl, decide_false, cond_false]
      exact hJ1
    refine viewI [some 0] rfl rfl ?_ rfl ?_ rfl ?_
    repeat' (first | exact trivial | rfl | exact .inl rfl | exact .inr rfl | exact id | exact (fun h => Bool.noConfusion h) | refine And.intro ?_ ?_)
  have preFrom_eq : preFrom s = s.start := by simp [preFrom, k2]
  have preTo_eq : preTo s = s.stop := by simp [preTo, k2, k3]
  have preStep_eq : preStep s = s.step := by simp [preStep, k2, k3]
  repeat ((conv => whnf); first | refine Cd.seq ?_ | refine Cd.cut ?_ | refine Cd.reg ?_ | refine Cd.block ?_ | refine Cd.cond ?_ | refine Cd.dreg ?_ | refine Cd.skip ?_ | refine Cd.ret ?_ | refine Cd.exit ?_ | refine Cd.loop ?_ | refine ⟨rfl, ?_⟩ | refine ⟨Nat.le_of_ble_eq_true rfl, ?_⟩ | refine ⟨.inl rfl, ?_⟩ | refine ⟨fun h => Bool.noConfusion h, ?_⟩)
  conv => whnf
  rw [preFrom_eq, preTo_eq, preStep_eq] at hr
  refine ⟨Nat × Int × Int × List Int, fun p => genP s.step n p.1 p.2.1 p.2.2.1 p.2.2.1 p.2.2.2 = some r ∧ p.1 + p.2.2.2.length ≤ 5000,
    fun | (f, fr, to, out) => ⟨[(1, ⟨[], true, .int .i64 n⟩), (4, ⟨[], true, .lst 0 true []⟩), (5, ⟨[], true, .int .i64 fr⟩), (6, ⟨[], true, .int .i64 to⟩), (7, ⟨[], true, .int .i64 s.step⟩), (8, ⟨[], true, .sl 0 0 out.length⟩)], [(0, .row 1 (rowsI out))], 1⟩,
    fun p => p.1, ⟨(N, s.start, s.stop, []), ⟨hr, by simp; omega⟩, ?_⟩, fun p hI => ?_⟩
  · refine viewI [none] rfl rfl ?_ rfl ?_ rfl ?_
    repeat' (first | exact trivial | rfl | exact .inl rfl | exact .inr rfl | exact id | exact (fun h => Bool.noConfusion h) | refine And.intro ?_ ?_)
  obtain ⟨f, fr, to, out⟩ := p
  obtain ⟨hI1, hI2⟩ := hI
  simp only at hI1 hI2
  cases f with
  | zero => simp [genP] at hI1
  | succ f =>
  simp only [genP, Int.lt_irrefl, decide_false, cond_false] at hI1
  repeat ((conv => whnf); first | refine Cd.seq ?_ | refine Cd.cut ?_ | refine Cd.reg ?_ | refine Cd.block ?_ | refine Cd.cond ?_ | refine Cd.dreg ?_ | refine Cd.skip ?_ | refine Cd.ret ?_ | refine Cd.exit ?_ | refine Cd.loop ?_ | refine ⟨rfl, ?_⟩ | refine ⟨Nat.le_of_ble_eq_true rfl, ?_⟩ | refine ⟨.inl rfl, ?_⟩ | refine ⟨fun h => Bool.noConfusion h, ?_⟩)
  conv => whnf
  refine ⟨Nat × Int × List Int, fun p => genP s.step n p.1 (IntKind.i64.wrap (fr + s.step)) (IntKind.i64.wrap (to + s.step)) p.2.1 p.2.2 = some r ∧ p.1 + p.2.2.length ≤ 5000 ∧ p.1 ≤ f,
    fun | (g, p, out) => ⟨[(1, ⟨[], true, .int .i64 n⟩), (4, ⟨[], true, .lst 0 true []⟩), (5, ⟨[], true, .int .i64 (IntKind.i64.wrap (fr + s.step))⟩), (6, ⟨[], true, .int .i64 (IntKind.i64.wrap (to + s.step))⟩), (7, ⟨[], true, .int .i64 s.step⟩), (8, ⟨[], true, .sl 0 0 out.length⟩), (9, ⟨[], true, .int .i64 p⟩)], [(0, .row 1 (rowsI out))], 1⟩,
    fun p => p.1, ⟨(f, _, out), ⟨hI1, by simp; omega, by simp⟩, ?_⟩, fun p hJ => ?_⟩
  · refine viewI [some 0] rfl rfl ?_ rfl ?_ rfl ?_
    repeat' (first | exact trivial | rfl | exact .inl rfl | exact .inr rfl | exact id | exact (fun h => Bool.noConfusion h) | refine And.intro ?_ ?_)
  clear hI1
  obtain ⟨g, p, out⟩ := p
  obtain ⟨hJ1, hJ2, hJ3⟩ := hJ
  simp only at hJ1 hJ2 hJ3
  cases g with
  | zero => simp [genP] at hJ1
  | succ g =>
  repeat ((conv => whnf); first | refine Cd.seq ?_ | refine Cd.cut ?_ | refine Cd.reg ?_ | refine Cd.block ?_ | refine Cd.cond ?_ | refine Cd.dreg ?_ | refine Cd.skip ?_ | refine Cd.ret ?_ | refine Cd.exit ?_ | refine Cd.loop ?_ | refine ⟨rfl, ?_⟩ | refine ⟨Nat.le_of_ble_eq_true rfl, ?_⟩ | refine ⟨.inl rfl, ?_⟩ | refine ⟨fun h => Bool.noConfusion h, ?_⟩)
  conv => whnf
  refine ⟨fun hp => ?_, fun hp => ?_⟩ <;> try simp only [Bool.cond_true_left, Bool.cond_false_right, Bool.not_eq_true', Bool.not_eq_false', Bool.not_not] at hp
  · simp only [genP, hp, cond_true] at hJ1
    repeat ((conv => whnf); first | refine Cd.seq ?_ | refine Cd.cut ?_ | refine Cd.reg ?_ | refine Cd.block ?_ | refine Cd.cond ?_ | refine Cd.dreg ?_ | refine Cd.skip ?_ | refine Cd.ret ?_ | refine Cd.exit ?_ | refine Cd.loop ?_ | refine ⟨rfl, ?_⟩ | refine ⟨Nat.le_of_ble_eq_true rfl, ?_⟩ | refine ⟨.inl rfl, ?_⟩ | refine ⟨fun h => Bool.noConfusion h, ?_⟩)
    conv => whnf
    refine ⟨fun hc => ?_, fun hc => ?_⟩ <;> try simp only [Bool.cond_true_left, Bool.cond_false_right, Bool.not_eq_true', Bool.not_eq_false', Bool.not_not] at hc
    · simp only [hc, cond_true] at hJ1
      obtain rfl := Option.some.inj hJ1
      repeat ((conv => whnf); first | refine Cd.seq ?_ | refine Cd.cut ?_ | refine Cd.reg ?_ | refine Cd.block ?_ | refine Cd.cond ?_ | refine Cd.dreg ?_ | refine Cd.skip ?_ | refine Cd.ret ?_ | refine Cd.exit ?_ | refine Cd.loop ?_ | refine ⟨rfl, ?_⟩ | refine ⟨Nat.le_of_ble_eq_true rfl, ?_⟩ | refine ⟨.inl rfl, ?_⟩ | refine ⟨fun h => Bool.noConfusion h, ?_⟩)
      conv => whnf
      refine ⟨[], ?_, rfl, trivial, rfl, ?_⟩
      · exact trivial
      try subst hk
      simp only [hq, cond_true, cond_false, Bool.not_true, Bool.not_false]
      repeat' (first | exact trivial | rfl | exact .inl rfl | exact .inr rfl | exact id | exact (fun h => Bool.noConfusion h) | refine And.intro ?_ ?_)
      · exact Nat.le_of_eq (by rw [rowsI_len, Nat.zero_add])
      · exact take0 (rowsI_len _)
    simp only [hc, cond_false] at hJ1
    repeat ((conv => whnf); first | refine Cd.seq ?_ | refine Cd.cut ?_ | refine Cd.reg ?_ | refine Cd.block ?_ | refine Cd.cond ?_ | refine Cd.dreg ?_ | refine Cd.skip ?_ | refine Cd.ret ?_ | refine Cd.exit ?_ | refine Cd.loop ?_ | refine ⟨rfl, ?_⟩ | refine ⟨Nat.le_of_ble_eq_true rfl, ?_⟩ | refine ⟨.inl rfl, ?_⟩ | refine ⟨fun h => Bool.noConfusion h, ?_⟩)
    conv => whnf
    refine ⟨(rowsI_len out).symm, ?_, ?_, ?_⟩
    · show (((rowsI out).length + 1 : Nat) : Int) ≤ _
      rw [rowsI_len]; omega
    · show ((rowsI out).length + 1) * 8 ≤ _
      rw [rowsI_len]; omega
    repeat ((conv => whnf); first | refine Cd.seq ?_ | refine Cd.cut ?_ | refine Cd.reg ?_ | refine Cd.block ?_ | refine Cd.cond ?_ | refine Cd.dreg ?_ | refine Cd.skip ?_ | refine Cd.ret ?_ | refine Cd.exit ?_ | refine Cd.loop ?_ | refine ⟨rfl, ?_⟩ | refine ⟨Nat.le_of_ble_eq_true rfl, ?_⟩ | refine ⟨.inl rfl, ?_⟩ | refine ⟨fun h => Bool.noConfusion h, ?_⟩)
    conv => whnf
    refine ⟨(g, _, _), ⟨hJ1, by simp; omega, by simp; omega⟩, ?_, by simp⟩
    refine viewI [some 2] rfl rfl ?_ rfl ?_ rfl ?_
    repeat' (first | exact trivial | rfl | exact .inl rfl | exact .inr rfl | exact id | exact (fun h => Bool.noConfusion h) | refine And.intro ?_ ?_)
    · rw [rowsI, rowsI, List.map_append]; rfl
    · show (rowsI out).length + 1 = _
      rw [rowsI_len, List.length_append]; rfl
  repeat ((conv => whnf); first | refine Cd.seq ?_ | refine Cd.cut ?_ | refine Cd.reg ?_ | refine Cd.block ?_ | refine Cd.cond ?_ | refine Cd.dreg ?_ | refine Cd.skip ?_ | refine Cd.ret ?_ | refine Cd.exit ?_ | refine Cd.loop ?_ | refine ⟨rfl, ?_⟩ | refine ⟨Nat.le_of_ble_eq_true rfl, ?_⟩ | refine ⟨.inl rfl, ?_⟩ | refine ⟨fun h => Bool.noConfusion h, ?_⟩)
  conv => whnf
  refine ⟨(g + 1, IntKind.i64.wrap (fr + s.step), IntKind.i64.wrap (to + s.step), out), ⟨?_, hJ2⟩, ?_, by show g + 1 < f + 1; omega⟩
  · simp only [genP, hp, cond_false] at hJ1
    simp only [genP, Int.lt_irrefl, decide_false, cond_false]
    exact hJ1
  refine viewI [some 0] rfl rfl ?_ rfl ?_ rfl ?_
  repeat' (first | exact trivial | rfl | exact .inl rfl | exact .inr rfl | exact id | exact (fun h => Bool.noConfusion h) | refine And.intro ?_ ?_)
end Go.Proofs.YteelckbeekgfiaaDoor
