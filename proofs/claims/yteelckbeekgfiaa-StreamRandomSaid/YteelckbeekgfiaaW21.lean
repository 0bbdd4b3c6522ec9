/- Stream: the law StreamRandom, as a contract. -/
import Derived.Test.YteelckbeekgfiaaW19
import Derived.Test.YteelckbeekgfiaaW18b
set_option linter.unusedSimpArgs false
set_option linter.unusedVariables false
namespace Go.Proofs.Yteelckbeekgfiaa
open Go Go.Sk Go.RowKit

/- pagecache/pagecachelaw06.StreamRandom -/
def rc7 : RC :=
  (.seq
  (.reg [⟨(some 2), none, (.mv (.c (.bool false)))⟩] [])
  (.seq
  (.reg [⟨(some 11), none, (.mv (.t 0))⟩,
    ⟨(some 12), none, (.build [(.lst 0 true []), (.int .i64 0)] [(0, (1, (.t 11)))])⟩,
    ⟨(some 13), none, (.box (.t 12))⟩,
    ⟨(some 3), none, (.mv (.t 13))⟩] [11, 12, 13])
  (.seq
  (.reg [⟨(some 4), none, (.mv (.c (.lst 0 true [])))⟩] [])
  (.seq
  (.reg [⟨(some 14), none, .mkmap⟩,
    ⟨(some 5), none, (.mv (.t 14))⟩] [14])
  (.seq
  (.seq
  (.reg [⟨(some 6), none, (.mv (.c (.int .i64 0)))⟩] [])
  (.block 0
   (.loop
    (.seq
    (.seq
    (.reg [⟨(some 15), none, (.mv (.t 6))⟩,
      ⟨(some 16), none, (.bin .lss (.t 15) (.c (.int .i64 12)))⟩] [15])
    (.cond (.t 16)
     .skip
     (.exit 0)))
    (.seq
    (.block 1
     (.seq
     (.reg [⟨(some 19), none, (.mv (.t 3))⟩,
       ⟨(some 20), none, (.call 25 [(.t 19), (.c (.int .i64 13))])⟩,
       ⟨(some 7), none, (.mv (.t 20))⟩] [19, 20])
     (.seq
     (.seq
     (.reg [⟨(some 21), none, (.mv (.t 5))⟩,
       ⟨(some 22), none, (.mv (.t 7))⟩,
       ⟨(some 23), none, (.mget (.bool false) false (.t 21) (.t 22))⟩] [21, 22])
     (.cond (.t 23)
      (.exit 1)
      .skip))
     (.seq
     (.reg [⟨(some 24), none, (.mv (.t 5))⟩,
       ⟨(some 25), none, (.mv (.t 7))⟩,
       ⟨none, none, (.mput (.t 24) (.t 25) (.c (.bool true)))⟩] [24, 25])
     (.seq
     (.reg [⟨(some 27), none, (.mv (.t 4))⟩,
       ⟨(some 28), none, (.mv (.t 7))⟩,
       ⟨(some 29), none, (.bin .mul (.c (.int .i64 20)) (.t 28))⟩,
       ⟨(some 30), none, (.mv (.t 7))⟩,
       ⟨(some 31), none, (.bin .mul (.c (.int .i64 20)) (.t 30))⟩,
       ⟨(some 32), none, (.bin .add (.t 31) (.c (.int .i64 1)))⟩,
       ⟨(some 33), none, (.call 11 [(.t 27), (.t 29), (.t 32)])⟩,
       ⟨(some 26), none, (.mv (.t 33))⟩,
       ⟨(some 34), none, (.extr 0 (.t 26))⟩,
       ⟨(some 35), none, (.extr 1 (.t 26))⟩,
       ⟨(some 36), none, (.extr 2 (.t 26))⟩,
       ⟨(some 8), none, (.mv (.t 34))⟩,
       ⟨(some 9), none, (.mv (.t 35))⟩,
       ⟨(some 10), none, (.mv (.t 36))⟩] [27, 28, 29, 30, 31, 32, 33, 26, 34, 35, 36])
     (.seq
     (.seq
     (.reg [⟨(some 37), none, (.mv (.t 10))⟩,
       ⟨(some 38), none, (.bin .neq (.t 37) (.c (.int .i64 0)))⟩,
       ⟨(some 39), none, (.mv (.t 38))⟩,
       ⟨(some 40), (some (39, false)), (.mv (.t 9))⟩,
       ⟨(some 41), (some (39, false)), (.bin .lss (.t 40) (.c (.int .i64 0)))⟩,
       ⟨(some 42), none, (.pick (.t 39) (.c (.bool true)) (.t 41))⟩,
       ⟨(some 43), none, (.mv (.t 42))⟩,
       ⟨(some 44), (some (43, false)), (.mv (.t 9))⟩,
       ⟨(some 45), (some (43, false)), (.mv (.t 8))⟩,
       ⟨(some 46), (some (43, false)), (.len (.t 45))⟩,
       ⟨(some 47), (some (43, false)), (.bin .geq (.t 44) (.t 46))⟩,
       ⟨(some 48), none, (.pick (.t 43) (.c (.bool true)) (.t 47))⟩,
       ⟨(some 49), none, (.mv (.t 48))⟩,
       ⟨(some 50), (some (49, false)), (.mv (.t 8))⟩,
       ⟨(some 51), (some (49, false)), (.len (.t 50))⟩,
       ⟨(some 52), (some (49, false)), (.bin .gtr (.t 51) (.c (.int .i64 4)))⟩,
       ⟨(some 53), none, (.pick (.t 49) (.c (.bool true)) (.t 52))⟩,
       ⟨(some 54), none, (.mv (.t 53))⟩,
       ⟨(some 55), (some (54, false)), (.mv (.t 8))⟩,
       ⟨(some 56), (some (54, false)), (.mv (.t 9))⟩,
       ⟨(some 57), (some (54, false)), (.iaddr 6 (.t 55) (.t 56))⟩,
       ⟨(some 58), (some (54, false)), (.faddr 0 (.t 57))⟩,
       ⟨(some 59), (some (54, false)), (.ld false 1 (.t 58))⟩,
       ⟨(some 60), (some (54, false)), (.bin .neq (.t 59) (.c (.int .i64 1)))⟩,
       ⟨(some 61), none, (.pick (.t 54) (.c (.bool true)) (.t 60))⟩,
       ⟨(some 62), none, (.mv (.t 61))⟩,
       ⟨(some 63), (some (62, false)), (.mv (.t 8))⟩,
       ⟨(some 64), (some (62, false)), (.mv (.t 9))⟩,
       ⟨(some 65), (some (62, false)), (.iaddr 6 (.t 63) (.t 64))⟩,
       ⟨(some 66), (some (62, false)), (.ld true 6 (.t 65))⟩,
       ⟨(some 67), (some (62, false)), (.call 20 [(.t 66)])⟩,
       ⟨(some 68), none, (.pick (.t 62) (.c (.bool true)) (.t 67))⟩,
       ⟨(some 69), none, (.mv (.t 68))⟩,
       ⟨(some 70), (some (69, false)), (.mv (.t 8))⟩,
       ⟨(some 71), (some (69, false)), (.mv (.t 9))⟩,
       ⟨(some 72), (some (69, false)), (.iaddr 6 (.t 70) (.t 71))⟩,
       ⟨(some 73), (some (69, false)), (.ld true 6 (.t 72))⟩,
       ⟨(some 74), (some (69, false)), (.call 23 [(.t 73), (.c (.int .i64 3))])⟩,
       ⟨(some 75), (some (69, false)), (.len (.t 74))⟩,
       ⟨(some 76), (some (69, false)), (.bin .gtr (.t 75) (.c (.int .i64 0)))⟩,
       ⟨(some 77), none, (.pick (.t 69) (.c (.bool true)) (.t 76))⟩] [37, 38, 39, 40, 41, 42, 43, 44, 45, 46, 47, 48, 49, 50, 51, 52, 53, 54, 55, 56, 57, 58, 59, 60, 61, 62, 63, 64, 65, 66, 67, 68, 69, 70, 71, 72, 73, 74, 75, 76])
     (.cond (.t 77)
      (.seq
      (.reg [⟨(some 2), none, (.mv (.c (.bool false)))⟩] [])
      .ret)
      .skip))
     (.reg [⟨(some 78), none, (.mv (.t 8))⟩,
       ⟨(some 4), none, (.mv (.t 78))⟩] [78])))))))
    (.reg [⟨(some 17), none, (.mv (.t 6))⟩,
      ⟨(some 18), none, (.bin .add (.t 17) (.c (.int .i64 1)))⟩,
      ⟨(some 6), none, (.mv (.t 18))⟩] [17, 18]))))))
  (.seq
  (.reg [⟨(some 79), none, (.call 18 [])⟩,
    ⟨(some 2), none, (.mv (.t 79))⟩] [79])
  .ret))))))
theorem rcq7 : resC Go.Proofs.Try.prog Go.Proofs.Try.f7.ntmps ((Go.Proofs.Try.f7.body).getD .skip) = some (strip rc7) := by kernel_rfl
def rv7 : List RV := [(.tmp 2)]
theorem rvq7 : Go.Proofs.Try.f7.results.toList.mapM (resRV Go.Proofs.Try.prog) = some rv7 := by kernel_rfl

set_option maxRecDepth 20000 in
set_option maxHeartbeats 1000000 in
theorem ok7 (L : List Int) (hL : (L.length : Int) < 2 ^ 62) : FnC Try.prog 7 [] [.lst 1 false (rowsI L)] (.bool true) [] := by
  refine fn_okC (ob0 := []) (rc := rc7) (rvs := rv7) Try.func7 rfl rcq7 rvq7 (show 1 ≤ _ by decide) ?_
  repeat ((conv => whnf); first | refine Cd.seq ?_ | refine Cd.reg ?_ | refine Cd.block ?_ | refine Cd.cond ?_ | refine Cd.dreg ?_ | refine Cd.skip ?_ | refine Cd.ret ?_ | refine Cd.exit ?_ | refine Cd.loop ?_ | refine ⟨rfl, ?_⟩ | refine ⟨Nat.le_of_ble_eq_true rfl, ?_⟩ | refine ⟨.inl rfl, ?_⟩ | refine .inr ⟨fun _ => ⟨[0], _, _, _, ok25n L _ _ hL (by omega) (by omega) (by omega), ⟨rfl, rfl, trivial⟩, rfl, rfl, rfl, rfl, ?_⟩, (by intro h; cases h)⟩)
  conv => whnf
  refine ⟨Nat × Nat × List Stm × List Int × List (Int × V), fun p => p.1 ≤ 12 ∧ p.2.1 ≤ L.length ∧ Rnd p.2.2.1 p.2.2.2.1 (p.1 : Int) ∧ ∀ x, mgetV p.2.2.2.2 x (.bool false) = .bool (decide (x ∈ p.2.2.2.1)),
    fun | (n, J, l, U, M) => ⟨[(2, ⟨[], true, .bool false⟩), (3, ⟨[], true, .ptr 0 0 0⟩), (4, ⟨[], true, .lst 6 false (rowsS l)⟩), (5, ⟨[], true, .mp 1⟩), (6, ⟨[], true, .int .i64 n⟩)], [(0, tpO L J), (1, .mp M)], 2⟩, fun p => 12 - p.1,
    ⟨(0, 0, [], [], []), ⟨by simp, by simp, ⟨by decide, by simp⟩, by simp [mgetV]⟩, ?_⟩, fun p hI => ?_⟩
  · refine viewI [some 0, some 1] rfl rfl ?_ rfl ?_ rfl ?_
    repeat' (first | exact trivial | rfl | exact .inl rfl | exact .inr rfl | exact id | exact (fun h => Bool.noConfusion h) | refine And.intro ?_ ?_)
  obtain ⟨n, J, l, U, M⟩ := p
  obtain ⟨c1, c2, c3, c4⟩ := hI
  simp only at c1 c2 c3 c4
  repeat ((conv => whnf); first | refine Cd.seq ?_ | refine Cd.reg ?_ | refine Cd.block ?_ | refine Cd.cond ?_ | refine Cd.dreg ?_ | refine Cd.skip ?_ | refine Cd.ret ?_ | refine Cd.exit ?_ | refine Cd.loop ?_ | refine ⟨rfl, ?_⟩ | refine ⟨Nat.le_of_ble_eq_true rfl, ?_⟩ | refine ⟨.inl rfl, ?_⟩ | refine .inr ⟨fun _ => ⟨[0], _, _, _, ok25n L _ _ hL (by omega) (by omega) (by omega), ⟨rfl, rfl, trivial⟩, rfl, rfl, rfl, rfl, ?_⟩, (by intro h; cases h)⟩)
  conv => whnf
  refine ⟨fun h1 => ?_, fun h1 => ?_⟩ <;> try simp only [Bool.cond_true_left, Bool.cond_false_right, Bool.not_eq_true', Bool.not_eq_false', Bool.not_not] at h1
  · have h1 : n < 12 := by simp at h1; omega
    have hwn : IntKind.i64.wrap ((n : Int) + 1) = ((n + 1 : Nat) : Int) := by rw [wrapI (by omega) (by omega)]; omega
    have d1 := nxI_in L _ c2
    have d2 := nxV_in L J 13 (by omega) (by omega)
    have hl4 := ((check_iff l).1 c3.chk).1
    repeat ((conv => whnf); first | refine Cd.seq ?_ | refine Cd.reg ?_ | refine Cd.block ?_ | refine Cd.cond ?_ | refine Cd.dreg ?_ | refine Cd.skip ?_ | refine Cd.ret ?_ | refine Cd.exit ?_ | refine Cd.loop ?_ | refine ⟨rfl, ?_⟩ | refine ⟨Nat.le_of_ble_eq_true rfl, ?_⟩ | refine ⟨.inl rfl, ?_⟩ | refine .inr ⟨fun _ => ⟨[0], _, _, _, ok25n L _ _ hL (by omega) (by omega) (by omega), ⟨rfl, rfl, trivial⟩, rfl, rfl, rfl, rfl, ?_⟩, (by intro h; cases h)⟩)
    conv => whnf
    generalize nxV L J 13 = x at d2 ⊢
    rw [c4]
    repeat ((conv => whnf); first | refine Cd.seq ?_ | refine Cd.reg ?_ | refine Cd.block ?_ | refine Cd.cond ?_ | refine Cd.dreg ?_ | refine Cd.skip ?_ | refine Cd.ret ?_ | refine Cd.exit ?_ | refine Cd.loop ?_ | refine ⟨rfl, ?_⟩ | refine ⟨Nat.le_of_ble_eq_true rfl, ?_⟩ | refine ⟨.inl rfl, ?_⟩ | refine .inr ⟨fun _ => ⟨[0], _, _, _, ok25n L _ _ hL (by omega) (by omega) (by omega), ⟨rfl, rfl, trivial⟩, rfl, rfl, rfl, rfl, ?_⟩, (by intro h; cases h)⟩)
    conv => whnf
    refine ⟨fun h2 => ?_, fun h2 => ?_⟩ <;> try simp only [Bool.cond_true_left, Bool.cond_false_right, Bool.not_eq_true', Bool.not_eq_false', Bool.not_not] at h2
    · repeat ((conv => whnf); first | refine Cd.seq ?_ | refine Cd.reg ?_ | refine Cd.block ?_ | refine Cd.cond ?_ | refine Cd.dreg ?_ | refine Cd.skip ?_ | refine Cd.ret ?_ | refine Cd.exit ?_ | refine Cd.loop ?_ | refine ⟨rfl, ?_⟩ | refine ⟨Nat.le_of_ble_eq_true rfl, ?_⟩ | refine ⟨.inl rfl, ?_⟩ | refine .inr ⟨fun _ => ⟨[0], _, _, _, ok25n L _ _ hL (by omega) (by omega) (by omega), ⟨rfl, rfl, trivial⟩, rfl, rfl, rfl, rfl, ?_⟩, (by intro h; cases h)⟩)
      conv => whnf
      rw [hwn]
      refine ⟨(n + 1, _, l, U, M), ⟨by show n + 1 ≤ 12; omega, d1, ⟨c3.chk, fun i hi => ?_⟩, c4⟩, ?_, by show 12 - (n + 1) < 12 - n; omega⟩
      · obtain ⟨e1, e2, e3, e4⟩ := c3.ev i hi
        exact ⟨e1, e2, by show (l.getD i zeroS).stamp ≤ ((n + 1 : Nat) : Int); omega, e4⟩
      refine viewI [some 0, some 1] rfl rfl ?_ rfl ?_ rfl ?_
      repeat' (first | exact trivial | rfl | exact .inl rfl | exact .inr rfl | exact id | exact (fun h => Bool.noConfusion h) | refine And.intro ?_ ?_)
    have hU : x ∉ U := by simpa using h2
    have hw1 : IntKind.i64.wrap (20 * x) = 20 * x := wrapI (by omega) (by omega)
    have hw2 : IntKind.i64.wrap (20 * x + 1) = 20 * x + 1 := wrapI (by omega) (by omega)
    repeat ((conv => whnf); first | refine Cd.seq ?_ | refine Cd.reg ?_ | refine Cd.block ?_ | refine Cd.cond ?_ | refine Cd.dreg ?_ | refine Cd.skip ?_ | refine Cd.ret ?_ | refine Cd.exit ?_ | refine Cd.loop ?_ | refine ⟨rfl, ?_⟩ | refine ⟨Nat.le_of_ble_eq_true rfl, ?_⟩ | refine ⟨.inl rfl, ?_⟩ | refine .inr ⟨fun _ => ⟨[0], _, _, _, ok25n L _ _ hL (by omega) (by omega) (by omega), ⟨rfl, rfl, trivial⟩, rfl, rfl, rfl, rfl, ?_⟩, (by intro h; cases h)⟩)
    conv => whnf
    rw [hw1, hw2]
    repeat ((conv => whnf); first | refine Cd.seq ?_ | refine Cd.reg ?_ | refine Cd.block ?_ | refine Cd.cond ?_ | refine Cd.dreg ?_ | refine Cd.skip ?_ | refine Cd.ret ?_ | refine Cd.exit ?_ | refine Cd.loop ?_ | refine ⟨rfl, ?_⟩ | refine ⟨Nat.le_of_ble_eq_true rfl, ?_⟩ | refine ⟨.inl rfl, ?_⟩ | refine .inl ⟨_, fun _ => ⟨purA rfl, (by first | exact ok11 l false _ _ (by omega))⟩, .inl rfl, ?_⟩ | refine .inr ⟨fun _ => ⟨[0], _, _, _, ok25n L _ _ hL (by omega) (by omega) (by omega), ⟨rfl, rfl, trivial⟩, rfl, rfl, rfl, rfl, ?_⟩, (by intro h; cases h)⟩)
    conv => whnf
    rw [feedP_eq]
    obtain ⟨k, k1, k2, k3, k4⟩ := rnd_step l U n x c3 h1 d2 hU
    have k5 := ((check_iff _).1 k4.chk).1
    generalize feedR l (20 * x) (20 * x + 1) = r at k1 k2 k3 k4 k5 ⊢
    obtain ⟨m, k', e⟩ := r
    simp only [Prod.mk.injEq] at k1 k2 k3 k4 k5
    obtain ⟨rfl, rfl⟩ := k2
    have hB : (0 : Int) ≤ (k : Int) ∧ (k : Int) < ((rowsS m).length : Int) := by rw [rowsS_len]; omega
    have hG : (rowsS m).getD ((k : Nat) : Int).toNat [] = (⟨1, 20 * x, 20 * x + 1, 0, 0, stampR l l.length⟩ : Stm).c := by rw [rowsS_getI m _ (by omega) (by omega), Int.toNat_natCast, k3]
    refine ⟨fun _ => ⟨rfl, hB.1, hB.2⟩, ?_⟩
    rw [hG]
    repeat ((conv => whnf); first | refine Cd.seq ?_ | refine Cd.reg ?_ | refine Cd.block ?_ | refine Cd.cond ?_ | refine Cd.dreg ?_ | refine Cd.skip ?_ | refine Cd.ret ?_ | refine Cd.exit ?_ | refine Cd.loop ?_ | refine ⟨rfl, ?_⟩ | refine ⟨Nat.le_of_ble_eq_true rfl, ?_⟩ | refine ⟨.inl rfl, ?_⟩ | refine .inr ⟨fun _ => ⟨[0], _, _, _, ok25n L _ _ hL (by omega) (by omega) (by omega), ⟨rfl, rfl, trivial⟩, rfl, rfl, rfl, rfl, ?_⟩, (by intro h; cases h)⟩)
    conv => whnf
    refine ⟨fun _ => ⟨rfl, hB.1, hB.2⟩, ?_⟩
    rw [hG]
    repeat ((conv => whnf); first | refine Cd.seq ?_ | refine Cd.reg ?_ | refine Cd.block ?_ | refine Cd.cond ?_ | refine Cd.dreg ?_ | refine Cd.skip ?_ | refine Cd.ret ?_ | refine Cd.exit ?_ | refine Cd.loop ?_ | refine ⟨rfl, ?_⟩ | refine ⟨Nat.le_of_ble_eq_true rfl, ?_⟩ | refine ⟨.inl rfl, ?_⟩ | refine .inl ⟨_, fun _ => ⟨purA rfl, (by first | exact ok20 ⟨1, 20 * x, 20 * x + 1, 0, 0, stampR l l.length⟩)⟩, .inl rfl, ?_⟩ | refine .inr ⟨fun _ => ⟨[0], _, _, _, ok25n L _ _ hL (by omega) (by omega) (by omega), ⟨rfl, rfl, trivial⟩, rfl, rfl, rfl, rfl, ?_⟩, (by intro h; cases h)⟩)
    conv => whnf
    refine ⟨fun _ => ⟨rfl, hB.1, hB.2⟩, ?_⟩
    rw [hG]
    repeat ((conv => whnf); first | refine Cd.seq ?_ | refine Cd.reg ?_ | refine Cd.block ?_ | refine Cd.cond ?_ | refine Cd.dreg ?_ | refine Cd.skip ?_ | refine Cd.ret ?_ | refine Cd.exit ?_ | refine Cd.loop ?_ | refine ⟨rfl, ?_⟩ | refine ⟨Nat.le_of_ble_eq_true rfl, ?_⟩ | refine ⟨.inl rfl, ?_⟩ | refine .inl ⟨_, fun _ => ⟨purA rfl, (by first | exact ok20 ⟨1, 20 * x, 20 * x + 1, 0, 0, stampR l l.length⟩ | exact ok23 ⟨1, 20 * x, 20 * x + 1, 0, 0, stampR l l.length⟩ 3)⟩, .inl rfl, ?_⟩ | refine .inr ⟨fun _ => ⟨[0], _, _, _, ok25n L _ _ hL (by omega) (by omega) (by omega), ⟨rfl, rfl, trivial⟩, rfl, rfl, rfl, rfl, ?_⟩, (by intro h; cases h)⟩)
    conv => whnf
    rw [sure_new, predict_new, rowsS_len]
    refine ⟨fun h3 => ?_, fun h3 => ?_⟩ <;> try simp only [Bool.cond_true_left, Bool.cond_false_right, Bool.not_eq_true', Bool.not_eq_false', Bool.not_not] at h3
    · simp [rowsI] at h3
      omega
    clear h3
    repeat ((conv => whnf); first | refine Cd.seq ?_ | refine Cd.reg ?_ | refine Cd.block ?_ | refine Cd.cond ?_ | refine Cd.dreg ?_ | refine Cd.skip ?_ | refine Cd.ret ?_ | refine Cd.exit ?_ | refine Cd.loop ?_ | refine ⟨rfl, ?_⟩ | refine ⟨Nat.le_of_ble_eq_true rfl, ?_⟩ | refine ⟨.inl rfl, ?_⟩ | refine .inr ⟨fun _ => ⟨[0], _, _, _, ok25n L _ _ hL (by omega) (by omega) (by omega), ⟨rfl, rfl, trivial⟩, rfl, rfl, rfl, rfl, ?_⟩, (by intro h; cases h)⟩)
    conv => whnf
    rw [hwn]
    refine ⟨(n + 1, _, m, x :: U, msetV M x (.bool true)), ⟨by show n + 1 ≤ 12; omega, d1, k4, fun y => ?_⟩, ?_, by show 12 - (n + 1) < 12 - n; omega⟩
    · show mgetV (msetV M x _) _ _ = V.bool (decide (y ∈ x :: U))
      rw [mgetV_set, c4]
      by_cases hy : y = x
      · simp [hy]
      · simp [hy]
    refine viewI [some 0, some 1] rfl rfl ?_ rfl ?_ rfl ?_
    repeat' (first | exact trivial | rfl | exact .inl rfl | exact .inr rfl | exact id | exact (fun h => Bool.noConfusion h) | refine And.intro ?_ ?_)
  repeat ((conv => whnf); first | refine Cd.seq ?_ | refine Cd.reg ?_ | refine Cd.block ?_ | refine Cd.cond ?_ | refine Cd.dreg ?_ | refine Cd.skip ?_ | refine Cd.ret ?_ | refine Cd.exit ?_ | refine Cd.loop ?_ | refine ⟨rfl, ?_⟩ | refine ⟨Nat.le_of_ble_eq_true rfl, ?_⟩ | refine ⟨.inl rfl, ?_⟩ | refine .inl ⟨_, fun _ => ⟨purA rfl, (by first | exact ok18)⟩, .inl rfl, ?_⟩ | refine .inr ⟨fun _ => ⟨[0], _, _, _, ok25n L _ _ hL (by omega) (by omega) (by omega), ⟨rfl, rfl, trivial⟩, rfl, rfl, rfl, rfl, ?_⟩, (by intro h; cases h)⟩)
  conv => whnf
  refine ⟨[], ?_, rfl, trivial, rfl, ?_⟩
  · exact trivial
  try subst hk
  repeat' (first | exact trivial | rfl | exact .inl rfl | exact .inr rfl | exact id | exact (fun h => Bool.noConfusion h) | refine And.intro ?_ ?_)
end Go.Proofs.Yteelckbeekgfiaa
