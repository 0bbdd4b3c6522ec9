/- Zone: the laws ZoneCalls and ZoneNew, as contracts. -/
import Derived.Test.YtcifhjkodbaghaaB19
set_option linter.unusedSimpArgs false
set_option linter.unusedVariables false
namespace Go.Proofs.Ytcifhjkodbaghaa
open Go Go.Sk Go.RowKit

/- pagecache/pagecachelaw10.ZoneCalls -/
def rc3 : RC :=
  (.seq
  (.reg [⟨(some 2), none, (.mv (.c (.bool false)))⟩] [])
  (.seq
  (.reg [⟨(some 18), none, (.mv (.t 0))⟩,
    ⟨(some 19), none, (.build [(.lst 0 true []), (.int .i64 0)] [(0, (1, (.t 18)))])⟩,
    ⟨(some 20), none, (.box (.t 19))⟩,
    ⟨(some 3), none, (.mv (.t 20))⟩] [18, 19, 20])
  (.seq
  (.reg [⟨(some 21), none, (.mv (.t 3))⟩,
    ⟨(some 22), none, (.call 15 [(.t 21)])⟩,
    ⟨(some 4), none, (.mv (.t 22))⟩] [21, 22])
  (.seq
  (.reg [⟨(some 23), none, (.mv (.t 3))⟩,
    ⟨(some 24), none, (.call 16 [(.t 23), (.c (.int .i64 5))])⟩,
    ⟨(some 25), none, (.bin .sub (.t 24) (.c (.int .i64 1)))⟩,
    ⟨(some 26), none, (.mv (.t 3))⟩,
    ⟨(some 27), none, (.call 16 [(.t 26), (.c (.int .i64 30))])⟩,
    ⟨(some 28), none, (.bin .add (.c (.int .i64 1)) (.t 27))⟩,
    ⟨(some 29), none, (.mv (.t 3))⟩,
    ⟨(some 30), none, (.call 16 [(.t 29), (.c (.int .i64 2))])⟩,
    ⟨(some 31), none, (.bin .eql (.t 30) (.c (.int .i64 0)))⟩,
    ⟨(some 5), none, (.mv (.t 25))⟩,
    ⟨(some 6), none, (.mv (.t 28))⟩,
    ⟨(some 7), none, (.mv (.t 31))⟩] [23, 24, 25, 26, 27, 28, 29, 30, 31])
  (.cut
  (.seq
  (.reg [⟨(some 32), none, (.mv (.t 3))⟩,
    ⟨(some 33), none, (.call 16 [(.t 32), (.c (.int .i64 9))])⟩,
    ⟨(some 34), none, (.bin .eql (.t 33) (.c (.int .i64 0)))⟩] [32, 33])
  (.cond (.t 34)
   (.reg [⟨(some 35), none, (.mv (.t 3))⟩,
     ⟨(some 36), none, (.call 17 [(.t 35)])⟩,
     ⟨(some 6), none, (.mv (.t 36))⟩] [35, 36])
   .skip))
  (.seq
  (.reg [⟨(some 38), none, (.mv (.t 4))⟩,
    ⟨(some 39), none, (.mv (.t 5))⟩,
    ⟨(some 40), none, (.mv (.t 7))⟩,
    ⟨(some 41), none, (.call 18 [(.t 38), (.t 39), (.t 40)])⟩,
    ⟨(some 37), none, (.mv (.t 41))⟩,
    ⟨(some 42), none, (.extr 0 (.t 37))⟩,
    ⟨(some 43), none, (.extr 1 (.t 37))⟩,
    ⟨(some 44), none, (.extr 2 (.t 37))⟩,
    ⟨(some 8), none, (.mv (.t 42))⟩,
    ⟨(some 9), none, (.mv (.t 43))⟩,
    ⟨(some 10), none, (.mv (.t 44))⟩] [38, 39, 40, 41, 37, 42, 43, 44])
  (.seq
  (.reg [⟨(some 46), none, (.mv (.t 4))⟩,
    ⟨(some 47), none, (.mv (.t 5))⟩,
    ⟨(some 48), none, (.mv (.t 7))⟩,
    ⟨(some 49), none, (.call 19 [(.t 46), (.t 47), (.t 48)])⟩,
    ⟨(some 45), none, (.mv (.t 49))⟩,
    ⟨(some 50), none, (.extr 0 (.t 45))⟩,
    ⟨(some 51), none, (.extr 1 (.t 45))⟩,
    ⟨(some 52), none, (.extr 2 (.t 45))⟩,
    ⟨(some 11), none, (.mv (.t 50))⟩,
    ⟨(some 12), none, (.mv (.t 51))⟩,
    ⟨(some 13), none, (.mv (.t 52))⟩] [46, 47, 48, 49, 45, 50, 51, 52])
  (.seq
  (.reg [⟨(some 54), none, (.mv (.t 4))⟩,
    ⟨(some 55), none, (.mv (.t 6))⟩,
    ⟨(some 56), none, (.call 20 [(.t 54), (.t 55)])⟩,
    ⟨(some 53), none, (.mv (.t 56))⟩,
    ⟨(some 57), none, (.extr 0 (.t 53))⟩,
    ⟨(some 58), none, (.extr 1 (.t 53))⟩,
    ⟨(some 14), none, (.mv (.t 57))⟩,
    ⟨(some 15), none, (.mv (.t 58))⟩] [54, 55, 56, 53, 57, 58])
  (.seq
  (.reg [⟨(some 60), none, (.mv (.t 4))⟩,
    ⟨(some 61), none, (.mv (.t 6))⟩,
    ⟨(some 62), none, (.call 21 [(.t 60), (.t 61)])⟩,
    ⟨(some 59), none, (.mv (.t 62))⟩,
    ⟨(some 63), none, (.extr 0 (.t 59))⟩,
    ⟨(some 64), none, (.extr 1 (.t 59))⟩,
    ⟨(some 16), none, (.mv (.t 63))⟩,
    ⟨(some 17), none, (.mv (.t 64))⟩] [60, 61, 62, 59, 63, 64])
  (.seq
  (.reg [⟨(some 65), none, (.mv (.t 4))⟩,
    ⟨(some 66), none, (.call 22 [(.t 65)])⟩,
    ⟨(some 67), none, (.mv (.t 4))⟩,
    ⟨(some 68), none, (.call 23 [(.t 67)])⟩,
    ⟨(some 69), none, (.eqb false (.t 66) (.t 68))⟩,
    ⟨(some 70), none, (.mv (.t 69))⟩,
    ⟨(some 71), (some (70, true)), (.mv (.t 9))⟩,
    ⟨(some 72), (some (70, true)), (.mv (.t 12))⟩,
    ⟨(some 73), (some (70, true)), (.bin .eql (.t 71) (.t 72))⟩,
    ⟨(some 74), none, (.pick (.t 70) (.t 73) (.c (.bool false)))⟩,
    ⟨(some 75), none, (.mv (.t 74))⟩,
    ⟨(some 76), (some (75, true)), (.mv (.t 10))⟩,
    ⟨(some 77), (some (75, true)), (.mv (.t 13))⟩,
    ⟨(some 78), (some (75, true)), (.bin .eql (.t 76) (.t 77))⟩,
    ⟨(some 79), none, (.pick (.t 75) (.t 78) (.c (.bool false)))⟩,
    ⟨(some 80), none, (.mv (.t 79))⟩,
    ⟨(some 81), (some (80, true)), (.mv (.t 15))⟩,
    ⟨(some 82), (some (80, true)), (.mv (.t 17))⟩,
    ⟨(some 83), (some (80, true)), (.bin .eql (.t 81) (.t 82))⟩,
    ⟨(some 84), none, (.pick (.t 80) (.t 83) (.c (.bool false)))⟩,
    ⟨(some 85), none, (.mv (.t 84))⟩,
    ⟨(some 86), (some (85, true)), (.mv (.t 8))⟩,
    ⟨(some 87), (some (85, true)), (.mv (.t 11))⟩,
    ⟨(some 88), (some (85, true)), (.call 24 [(.t 86), (.t 87)])⟩,
    ⟨(some 89), none, (.pick (.t 85) (.t 88) (.c (.bool false)))⟩,
    ⟨(some 90), none, (.mv (.t 89))⟩,
    ⟨(some 91), (some (90, true)), (.mv (.t 14))⟩,
    ⟨(some 92), (some (90, true)), (.mv (.t 16))⟩,
    ⟨(some 93), (some (90, true)), (.call 24 [(.t 91), (.t 92)])⟩,
    ⟨(some 94), none, (.pick (.t 90) (.t 93) (.c (.bool false)))⟩,
    ⟨(some 95), none, (.mv (.t 94))⟩,
    ⟨(some 96), (some (95, true)), (.mv (.t 4))⟩,
    ⟨(some 97), (some (95, true)), (.call 25 [(.t 96)])⟩,
    ⟨(some 98), (some (95, true)), (.mv (.t 4))⟩,
    ⟨(some 99), (some (95, true)), (.call 26 [(.t 98)])⟩,
    ⟨(some 100), (some (95, true)), (.bin .eql (.t 97) (.t 99))⟩,
    ⟨(some 101), none, (.pick (.t 95) (.t 100) (.c (.bool false)))⟩,
    ⟨(some 102), none, (.mv (.t 101))⟩,
    ⟨(some 103), (some (102, true)), (.mv (.t 4))⟩,
    ⟨(some 104), (some (102, true)), (.call 27 [(.t 103)])⟩,
    ⟨(some 105), (some (102, true)), (.mv (.t 4))⟩,
    ⟨(some 106), (some (102, true)), (.call 28 [(.t 105)])⟩,
    ⟨(some 107), (some (102, true)), (.eqb false (.t 104) (.t 106))⟩,
    ⟨(some 108), none, (.pick (.t 102) (.t 107) (.c (.bool false)))⟩,
    ⟨(some 109), none, (.mv (.t 108))⟩,
    ⟨(some 110), (some (109, true)), (.mv (.t 4))⟩,
    ⟨(some 111), (some (109, true)), (.call 29 [(.t 110)])⟩,
    ⟨(some 112), (some (109, true)), (.mv (.t 4))⟩,
    ⟨(some 113), (some (109, true)), (.call 30 [(.t 112)])⟩,
    ⟨(some 114), (some (109, true)), (.bin .eql (.t 111) (.t 113))⟩,
    ⟨(some 115), none, (.pick (.t 109) (.t 114) (.c (.bool false)))⟩,
    ⟨(some 116), none, (.mv (.t 115))⟩,
    ⟨(some 117), (some (116, true)), (.call 31 [])⟩,
    ⟨(some 118), none, (.pick (.t 116) (.t 117) (.c (.bool false)))⟩,
    ⟨(some 2), none, (.mv (.t 118))⟩] [65, 66, 67, 68, 69, 70, 71, 72, 73, 74, 75, 76, 77, 78, 79, 80, 81, 82, 83, 84, 85, 86, 87, 88, 89, 90, 91, 92, 93, 94, 95, 96, 97, 98, 99, 100, 101, 102, 103, 104, 105, 106, 107, 108, 109, 110, 111, 112, 113, 114, 115, 116, 117, 118])
  .ret))))))))))
theorem rcq3 : resC Go.Proofs.Try.prog Go.Proofs.Try.f3.ntmps ((Go.Proofs.Try.f3.body).getD .skip) = some (strip rc3) := by kernel_rfl
def rv3 : List RV := [(.tmp 2)]
theorem rvq3 : Go.Proofs.Try.f3.results.toList.mapM (resRV Go.Proofs.Try.prog) = some rv3 := by kernel_rfl

/- pagecache/pagecachelaw10.ZoneNew -/
def rc4 : RC :=
  (.seq
  (.reg [⟨(some 2), none, (.mv (.c (.bool false)))⟩] [])
  (.seq
  (.reg [⟨(some 10), none, (.mv (.t 0))⟩,
    ⟨(some 11), none, (.build [(.lst 0 true []), (.int .i64 0)] [(0, (1, (.t 10)))])⟩,
    ⟨(some 12), none, (.box (.t 11))⟩,
    ⟨(some 3), none, (.mv (.t 12))⟩] [10, 11, 12])
  (.seq
  (.reg [⟨(some 4), none, (.mv (.c (.lst 0 true [])))⟩] [])
  (.cut
  (.seq
  (.reg [⟨(some 13), none, (.mv (.t 3))⟩,
    ⟨(some 14), none, (.call 16 [(.t 13), (.c (.int .i64 5))])⟩,
    ⟨(some 5), none, (.mv (.t 14))⟩] [13, 14])
  (.block 0
   (.loop
    (.seq
    (.seq
    (.reg [⟨(some 15), none, (.mv (.t 5))⟩,
      ⟨(some 16), none, (.bin .gtr (.t 15) (.c (.int .i64 0)))⟩] [15])
    (.cond (.t 16)
     .skip
     (.exit 0)))
    (.seq
    (.block 1
     (.reg [⟨(some 19), none, (.mv (.t 4))⟩,
       ⟨(some 20), none, (.bslice 1 [(.int .i64 0)] 10 [(0, (.c (.int .i64 1))), (1, (.c (.int .i64 2))), (2, (.c (.int .i64 8))), (3, (.c (.int .i64 20))), (4, (.c (.int .i64 63))), (5, (.c (.int .i64 64))), (6, (.c (.int .i64 0))), (7, (.c (.int .i64 (-1)))), (8, (.c (.int .i64 65))), (9, (.c (.int .i64 4611686018427387904)))])⟩,
       ⟨(some 21), none, (.mv (.t 3))⟩,
       ⟨(some 22), none, (.call 16 [(.t 21), (.c (.int .i64 10))])⟩,
       ⟨(some 23), none, (.iaddr 1 (.t 20) (.t 22))⟩,
       ⟨(some 24), none, (.ld false 1 (.t 23))⟩,
       ⟨(some 25), none, (.bslice 1 [(.int .i64 0)] 1 [(0, (.t 24))])⟩,
       ⟨(some 26), none, (.app 1 8 (.t 19) (.t 25))⟩,
       ⟨(some 4), none, (.mv (.t 26))⟩] [19, 20, 21, 22, 23, 24, 25, 26]))
    (.reg [⟨(some 17), none, (.mv (.t 5))⟩,
      ⟨(some 18), none, (.bin .sub (.t 17) (.c (.int .i64 1)))⟩,
      ⟨(some 5), none, (.mv (.t 18))⟩] [17, 18]))))))
  (.seq
  (.reg [⟨(some 28), none, (.mv (.t 4))⟩,
    ⟨(some 29), none, (.call 32 [(.t 28)])⟩,
    ⟨(some 27), none, (.mv (.t 29))⟩,
    ⟨(some 30), none, (.extr 0 (.t 27))⟩,
    ⟨(some 31), none, (.extr 1 (.t 27))⟩,
    ⟨(some 6), none, (.mv (.t 30))⟩,
    ⟨(some 7), none, (.mv (.t 31))⟩] [28, 29, 27, 30, 31])
  (.seq
  (.reg [⟨(some 33), none, (.mv (.t 4))⟩,
    ⟨(some 34), none, (.call 33 [(.t 33)])⟩,
    ⟨(some 32), none, (.mv (.t 34))⟩,
    ⟨(some 35), none, (.extr 0 (.t 32))⟩,
    ⟨(some 36), none, (.extr 1 (.t 32))⟩,
    ⟨(some 8), none, (.mv (.t 35))⟩,
    ⟨(some 9), none, (.mv (.t 36))⟩] [33, 34, 32, 35, 36])
  (.seq
  (.reg [⟨(some 37), none, (.mv (.t 7))⟩,
    ⟨(some 38), none, (.mv (.t 9))⟩,
    ⟨(some 39), none, (.bin .eql (.t 37) (.t 38))⟩,
    ⟨(some 40), none, (.mv (.t 39))⟩,
    ⟨(some 41), (some (40, true)), (.mv (.t 6))⟩,
    ⟨(some 42), (some (40, true)), (.mv (.t 8))⟩,
    ⟨(some 43), (some (40, true)), (.call 24 [(.t 41), (.t 42)])⟩,
    ⟨(some 44), none, (.pick (.t 40) (.t 43) (.c (.bool false)))⟩,
    ⟨(some 45), none, (.mv (.t 44))⟩,
    ⟨(some 46), (some (45, true)), (.call 31 [])⟩,
    ⟨(some 47), none, (.pick (.t 45) (.t 46) (.c (.bool false)))⟩,
    ⟨(some 2), none, (.mv (.t 47))⟩] [37, 38, 39, 40, 41, 42, 43, 44, 45, 46, 47])
  .ret)))))))
theorem rcq4 : resC Go.Proofs.Try.prog Go.Proofs.Try.f4.ntmps ((Go.Proofs.Try.f4.body).getD .skip) = some (strip rc4) := by kernel_rfl
def rv4 : List RV := [(.tmp 2)]
theorem rvq4 : Go.Proofs.Try.f4.results.toList.mapM (resRV Go.Proofs.Try.prog) = some rv4 := by kernel_rfl

theorem SmallZ.ex {l : List Zn} (h : SmallZ l) : SmallZ (l.map exZ) := smallZ_ex h
theorem SmallZ.set {l : List Zn} (h : SmallZ l) (i : Nat) {z : Zn} (hz : z.free.length ≤ 100000) : SmallZ (l.set i z) := ⟨by rw [List.length_set]; exact h.len, fun y hy => by
  rcases List.mem_or_eq_of_mem_set hy with hy | rfl
  · exact h.free y hy
  · exact hz⟩
theorem spoilZ_len (L : List Int) (J : Nat) (c : Int) (z : Zn) : (spoilZ L J c z).1.free.length ≤ z.free.length + 1 := by
  unfold spoilZ
  cases (c == 0) <;> cases (c == 1) <;> cases (c == 2) <;> cases (c == 3) <;> cases (c == 4) <;> simp
theorem spoilZ_in {L : List Int} {J : Nat} (c : Int) (z : Zn) (h : J ≤ L.length) : (spoilZ L J c z).2 ≤ L.length := by
  have := nxI_in L J h
  unfold spoilZ
  cases (c == 0) <;> cases (c == 1) <;> cases (c == 2) <;> cases (c == 3) <;> cases (c == 4) <;> simp only [cond_true, cond_false] <;> assumption
theorem drawnF_ok (L : List Int) (I : Nat) (hI : I ≤ L.length) : SmallZ (drawnF L I).1 ∧ (drawnF L I).2 ≤ L.length := by
  obtain ⟨hc, hJ⟩ := zonesF_ok L I hI
  rw [drawnF, drawnG]
  generalize (zonesF L I).1 = l at hc ⊢
  generalize (zonesF L I).2 = J at hJ ⊢
  have hs := check_small hc
  have hl := check_len hc
  have hf : ∀ z ∈ l, z.free.length ≤ 64 := fun z hz => by
    obtain ⟨i, hi, rfl⟩ := List.getElem_of_mem hz
    obtain ⟨g, -⟩ := ((check_iff l).1 hc).1.get i hi
    have := g.free.len (by have := g.size; omega)
    have := g.size
    omega
  cases (nxV L J 8 == 0) with
  | false => exact ⟨hs, nxI_in L _ hJ⟩
  | true =>
    simp only [cond_true]
    refine ⟨hs.set _ ?_, spoilZ_in _ _ (nxI_in _ _ (nxI_in _ _ (nxI_in _ _ hJ)))⟩
    refine Nat.le_trans (spoilZ_len _ _ _ _) ?_
    have hi := nxV_in L (nxI L J) l.length (by omega) (by omega)
    rw [getZ l _ (by omega)]
    have := hf _ (List.getElem_mem (show (nxV L (nxI L J) l.length).toNat < l.length by omega))
    omega
theorem takeG_small {base l : List Zn} {p : Int} {u : Bool} (hb : SmallZ base) (hs : SimZ base l) : SmallZ (takeG base l p u).1 := by
  by_cases h : checkZ l = true
  · exact check_small (takeG_check hs h)
  · rw [takeG, show checkZ l = false by simpa using h]; exact hb
theorem giveG_small {base l : List Zn} {f : Int} (hb : SmallZ base) (hs : SimZ base l) : SmallZ (giveG base l f).1 := by
  by_cases h : checkZ l = true
  · exact check_small (giveG_check hs h)
  · rw [giveG, show checkZ l = false by simpa using h]; exact hb
set_option maxRecDepth 20000 in
set_option maxHeartbeats 1000000 in
theorem ok3 (L : List Int) (hL : (L.length : Int) < 2 ^ 62) : FnC Try.prog 3 [] [.lst 1 false (rowsI L)] (.bool true) [] := by
  refine fn_okC (ob0 := []) (rc := rc3) (rvs := rv3) Try.func3 rfl rcq3 rvq3 (show 1 ≤ _ by decide) ?_
  obtain ⟨b1, b2⟩ := drawnF_ok L 0 (by omega)
  repeat ((conv => whnf); first | refine Cd.seq ?_ | refine Cd.cut ?_ | refine Cd.reg ?_ | refine Cd.block ?_ | refine Cd.cond ?_ | refine Cd.dreg ?_ | refine Cd.skip ?_ | refine Cd.ret ?_ | refine Cd.exit ?_ | refine Cd.loop ?_ | refine ⟨rfl, ?_⟩ | refine ⟨Nat.le_of_ble_eq_true rfl, ?_⟩ | refine ⟨.inl rfl, ?_⟩ | refine ⟨fun h => Bool.noConfusion h, ?_⟩ | refine .inr ⟨fun _ => ⟨[0], _, _, _, ok16n L _ _ hL (by omega) (by omega) (by omega), ⟨rfl, rfl, trivial⟩, rfl, rfl, rfl, rfl, ?_⟩, (by intro h; cases h)⟩ | refine .inr ⟨fun _ => ⟨[0], _, _, _, ok15 L _ hL (by omega), ⟨rfl, rfl, trivial⟩, rfl, rfl, rfl, rfl, ?_⟩, (by intro h; cases h)⟩ | refine .inr ⟨fun _ => ⟨[0], _, _, _, ok17 L _ hL (by omega), ⟨rfl, rfl, trivial⟩, rfl, rfl, rfl, rfl, ?_⟩, (by intro h; cases h)⟩)
  conv => whnf
  refine .inr ⟨fun _ => ⟨[0], _, _, _, ok15 L 0 hL (by omega), ⟨rfl, rfl, trivial⟩, rfl, rfl, rfl, rfl, ?_⟩, (by intro h; cases h)⟩
  revert b1 b2
  generalize (drawnF L 0).1 = l
  generalize (drawnF L 0).2 = J
  intro b1 b2
  have hJ1 := nxI_in L J b2
  have hJ2 := nxI_in L _ hJ1
  have hJ3 := nxI_in L _ hJ2
  have hJ4 := nxI_in L _ hJ3
  repeat ((conv => whnf); first | refine Cd.seq ?_ | refine Cd.cut ?_ | refine Cd.reg ?_ | refine Cd.block ?_ | refine Cd.cond ?_ | refine Cd.dreg ?_ | refine Cd.skip ?_ | refine Cd.ret ?_ | refine Cd.exit ?_ | refine Cd.loop ?_ | refine ⟨rfl, ?_⟩ | refine ⟨Nat.le_of_ble_eq_true rfl, ?_⟩ | refine ⟨.inl rfl, ?_⟩ | refine ⟨fun h => Bool.noConfusion h, ?_⟩ | refine .inr ⟨fun _ => ⟨[0], _, _, _, ok16n L _ _ hL (by omega) (by omega) (by omega), ⟨rfl, rfl, trivial⟩, rfl, rfl, rfl, rfl, ?_⟩, (by intro h; cases h)⟩ | refine .inr ⟨fun _ => ⟨[0], _, _, _, ok15 L _ hL (by omega), ⟨rfl, rfl, trivial⟩, rfl, rfl, rfl, rfl, ?_⟩, (by intro h; cases h)⟩ | refine .inr ⟨fun _ => ⟨[0], _, _, _, ok17 L _ hL (by omega), ⟨rfl, rfl, trivial⟩, rfl, rfl, rfl, rfl, ?_⟩, (by intro h; cases h)⟩)
  conv => whnf
  generalize hp : IntKind.i64.wrap (nxV L J 5 - 1) = p
  generalize hu : (nxV L (nxI L (nxI L J)) 2 == 0) = u
  refine ⟨Int, fun _ => True, fun f => ⟨[(4, ⟨[], true, .lst 6 false (rowsZ l)⟩), (5, ⟨[], true, .int .i64 p⟩), (6, ⟨[], true, .int .i64 f⟩), (7, ⟨[], true, .bool u⟩)], [], 0⟩, ?_, fun f _ => ?_⟩
  · repeat ((conv => whnf); first | refine Cd.seq ?_ | refine Cd.cut ?_ | refine Cd.reg ?_ | refine Cd.block ?_ | refine Cd.cond ?_ | refine Cd.dreg ?_ | refine Cd.skip ?_ | refine Cd.ret ?_ | refine Cd.exit ?_ | refine Cd.loop ?_ | refine ⟨rfl, ?_⟩ | refine ⟨Nat.le_of_ble_eq_true rfl, ?_⟩ | refine ⟨.inl rfl, ?_⟩ | refine ⟨fun h => Bool.noConfusion h, ?_⟩ | refine .inr ⟨fun _ => ⟨[0], _, _, _, ok16n L _ _ hL (by omega) (by omega) (by omega), ⟨rfl, rfl, trivial⟩, rfl, rfl, rfl, rfl, ?_⟩, (by intro h; cases h)⟩ | refine .inr ⟨fun _ => ⟨[0], _, _, _, ok15 L _ hL (by omega), ⟨rfl, rfl, trivial⟩, rfl, rfl, rfl, rfl, ?_⟩, (by intro h; cases h)⟩ | refine .inr ⟨fun _ => ⟨[0], _, _, _, ok17 L _ hL (by omega), ⟨rfl, rfl, trivial⟩, rfl, rfl, rfl, rfl, ?_⟩, (by intro h; cases h)⟩)
    conv => whnf
    refine ⟨fun h1 => ?_, fun h1 => ?_⟩ <;> try simp only [Bool.cond_true_left, Bool.cond_false_right, Bool.not_eq_true', Bool.not_eq_false', Bool.not_not] at h1
    · repeat ((conv => whnf); first | refine Cd.seq ?_ | refine Cd.cut ?_ | refine Cd.reg ?_ | refine Cd.block ?_ | refine Cd.cond ?_ | refine Cd.dreg ?_ | refine Cd.skip ?_ | refine Cd.ret ?_ | refine Cd.exit ?_ | refine Cd.loop ?_ | refine ⟨rfl, ?_⟩ | refine ⟨Nat.le_of_ble_eq_true rfl, ?_⟩ | refine ⟨.inl rfl, ?_⟩ | refine ⟨fun h => Bool.noConfusion h, ?_⟩ | refine .inr ⟨fun _ => ⟨[0], _, _, _, ok16n L _ _ hL (by omega) (by omega) (by omega), ⟨rfl, rfl, trivial⟩, rfl, rfl, rfl, rfl, ?_⟩, (by intro h; cases h)⟩ | refine .inr ⟨fun _ => ⟨[0], _, _, _, ok15 L _ hL (by omega), ⟨rfl, rfl, trivial⟩, rfl, rfl, rfl, rfl, ?_⟩, (by intro h; cases h)⟩ | refine .inr ⟨fun _ => ⟨[0], _, _, _, ok17 L _ hL (by omega), ⟨rfl, rfl, trivial⟩, rfl, rfl, rfl, rfl, ?_⟩, (by intro h; cases h)⟩)
      conv => whnf
      refine ⟨oddF L (nxI L (nxI L (nxI L (nxI L J)))), trivial, ?_⟩
      refine viewI [] rfl rfl ?_ rfl ?_ rfl ?_
      repeat' (first | exact trivial | rfl | exact .inl rfl | exact .inr rfl | exact id | exact (fun h => Bool.noConfusion h) | refine And.intro ?_ ?_)
    repeat ((conv => whnf); first | refine Cd.seq ?_ | refine Cd.cut ?_ | refine Cd.reg ?_ | refine Cd.block ?_ | refine Cd.cond ?_ | refine Cd.dreg ?_ | refine Cd.skip ?_ | refine Cd.ret ?_ | refine Cd.exit ?_ | refine Cd.loop ?_ | refine ⟨rfl, ?_⟩ | refine ⟨Nat.le_of_ble_eq_true rfl, ?_⟩ | refine ⟨.inl rfl, ?_⟩ | refine ⟨fun h => Bool.noConfusion h, ?_⟩ | refine .inr ⟨fun _ => ⟨[0], _, _, _, ok16n L _ _ hL (by omega) (by omega) (by omega), ⟨rfl, rfl, trivial⟩, rfl, rfl, rfl, rfl, ?_⟩, (by intro h; cases h)⟩ | refine .inr ⟨fun _ => ⟨[0], _, _, _, ok15 L _ hL (by omega), ⟨rfl, rfl, trivial⟩, rfl, rfl, rfl, rfl, ?_⟩, (by intro h; cases h)⟩ | refine .inr ⟨fun _ => ⟨[0], _, _, _, ok17 L _ hL (by omega), ⟨rfl, rfl, trivial⟩, rfl, rfl, rfl, rfl, ?_⟩, (by intro h; cases h)⟩)
    conv => whnf
    refine ⟨IntKind.i64.wrap (1 + nxV L (nxI L J) 30), trivial, ?_⟩
    refine viewI [] rfl rfl ?_ rfl ?_ rfl ?_
    repeat' (first | exact trivial | rfl | exact .inl rfl | exact .inr rfl | exact id | exact (fun h => Bool.noConfusion h) | refine And.intro ?_ ?_)
  have t1 := takeG_small (p := p) (u := u) b1.ex (SimZ.ex l)
  have t2 := takeG_small (p := p) (u := u) b1 (SimZ.refl l)
  have t3 := takeG_sim (l := l) (p := p) (u := u) (SimZ.ex l)
  have g1 := giveG_small (f := f) b1.ex (SimZ.ex l)
  have g2 := giveG_small (f := f) b1 (SimZ.refl l)
  have g3 := giveG_sim (l := l) (f := f) (SimZ.ex l)
  repeat ((conv => whnf); first | refine Cd.seq ?_ | refine Cd.cut ?_ | refine Cd.reg ?_ | refine Cd.block ?_ | refine Cd.cond ?_ | refine Cd.dreg ?_ | refine Cd.skip ?_ | refine Cd.ret ?_ | refine Cd.exit ?_ | refine Cd.loop ?_ | refine ⟨rfl, ?_⟩ | refine ⟨Nat.le_of_ble_eq_true rfl, ?_⟩ | refine ⟨.inl rfl, ?_⟩ | refine ⟨fun h => Bool.noConfusion h, ?_⟩ | refine .inl ⟨_, fun _ => ⟨purA rfl, (by first | exact ok18 l false p u b1 | exact ok19 l false p u b1)⟩, .inl rfl, ?_⟩ | refine .inr ⟨fun _ => ⟨[0], _, _, _, ok16n L _ _ hL (by omega) (by omega) (by omega), ⟨rfl, rfl, trivial⟩, rfl, rfl, rfl, rfl, ?_⟩, (by intro h; cases h)⟩ | refine .inr ⟨fun _ => ⟨[0], _, _, _, ok15 L _ hL (by omega), ⟨rfl, rfl, trivial⟩, rfl, rfl, rfl, rfl, ?_⟩, (by intro h; cases h)⟩ | refine .inr ⟨fun _ => ⟨[0], _, _, _, ok17 L _ hL (by omega), ⟨rfl, rfl, trivial⟩, rfl, rfl, rfl, rfl, ?_⟩, (by intro h; cases h)⟩)
  conv => whnf
  generalize takeG (l.map exZ) l p u = A at t1 t3 ⊢
  generalize takeG l l p u = B at t2 t3 ⊢
  rw [t3.2]
  repeat ((conv => whnf); first | refine Cd.seq ?_ | refine Cd.cut ?_ | refine Cd.reg ?_ | refine Cd.block ?_ | refine Cd.cond ?_ | refine Cd.dreg ?_ | refine Cd.skip ?_ | refine Cd.ret ?_ | refine Cd.exit ?_ | refine Cd.loop ?_ | refine ⟨rfl, ?_⟩ | refine ⟨Nat.le_of_ble_eq_true rfl, ?_⟩ | refine ⟨.inl rfl, ?_⟩ | refine ⟨fun h => Bool.noConfusion h, ?_⟩ | refine .inl ⟨_, fun _ => ⟨purA rfl, (by first | exact ok20 l false f b1 | exact ok21 l false f b1)⟩, .inl rfl, ?_⟩ | refine .inr ⟨fun _ => ⟨[0], _, _, _, ok16n L _ _ hL (by omega) (by omega) (by omega), ⟨rfl, rfl, trivial⟩, rfl, rfl, rfl, rfl, ?_⟩, (by intro h; cases h)⟩ | refine .inr ⟨fun _ => ⟨[0], _, _, _, ok15 L _ hL (by omega), ⟨rfl, rfl, trivial⟩, rfl, rfl, rfl, rfl, ?_⟩, (by intro h; cases h)⟩ | refine .inr ⟨fun _ => ⟨[0], _, _, _, ok17 L _ hL (by omega), ⟨rfl, rfl, trivial⟩, rfl, rfl, rfl, rfl, ?_⟩, (by intro h; cases h)⟩)
  conv => whnf
  generalize giveG (l.map exZ) l f = C at g1 g3 ⊢
  generalize giveG l l f = D at g2 g3 ⊢
  rw [g3.2]
  repeat ((conv => whnf); first | refine Cd.seq ?_ | refine Cd.cut ?_ | refine Cd.reg ?_ | refine Cd.block ?_ | refine Cd.cond ?_ | refine Cd.dreg ?_ | refine Cd.skip ?_ | refine Cd.ret ?_ | refine Cd.exit ?_ | refine Cd.loop ?_ | refine ⟨rfl, ?_⟩ | refine ⟨Nat.le_of_ble_eq_true rfl, ?_⟩ | refine ⟨.inl rfl, ?_⟩ | refine ⟨fun h => Bool.noConfusion h, ?_⟩ | refine .inl ⟨_, fun _ => ⟨purA rfl, (by first | exact ok22 l false b1 | exact ok23 l false b1 | exact ok24 A.1 B.1 false false t1 t2 | exact ok24 C.1 D.1 false false g1 g2 | exact ok25 l false b1 | exact ok26 l false b1 | exact ok27 l false b1 | exact ok28 l false b1 | exact ok29 l false b1 | exact ok30 l false b1 | exact ok31)⟩, .inl rfl, ?_⟩ | refine .inr ⟨fun _ => ⟨[0], _, _, _, ok16n L _ _ hL (by omega) (by omega) (by omega), ⟨rfl, rfl, trivial⟩, rfl, rfl, rfl, rfl, ?_⟩, (by intro h; cases h)⟩ | refine .inr ⟨fun _ => ⟨[0], _, _, _, ok15 L _ hL (by omega), ⟨rfl, rfl, trivial⟩, rfl, rfl, rfl, rfl, ?_⟩, (by intro h; cases h)⟩ | refine .inr ⟨fun _ => ⟨[0], _, _, _, ok17 L _ hL (by omega), ⟨rfl, rfl, trivial⟩, rfl, rfl, rfl, rfl, ?_⟩, (by intro h; cases h)⟩)
  conv => whnf
  rw [sameR_sim t3.1, sameR_sim g3.1]
  refine ⟨[], ?_, rfl, trivial, rfl, ?_⟩
  · exact trivial
  try subst hk
  simp only [beq_self_eq_true, cond_true, cond_false, Bool.not_true, Bool.not_false]
  repeat' (first | exact trivial | rfl | exact .inl rfl | exact .inr rfl | exact id | exact (fun h => Bool.noConfusion h) | refine And.intro ?_ ?_)
def sizesL : List Int := [1, 2, 8, 20, 63, 64, 0, -1, 65, 4611686018427387904]
set_option maxRecDepth 20000 in
set_option maxHeartbeats 1000000 in
theorem ok4 (L : List Int) (hL : (L.length : Int) < 2 ^ 62) : FnC Try.prog 4 [] [.lst 1 false (rowsI L)] (.bool true) [] := by
  refine fn_okC (ob0 := []) (rc := rc4) (rvs := rv4) Try.func4 rfl rcq4 rvq4 (show 1 ≤ _ by decide) ?_
  have hJ1 := nxI_in L 0 (by omega)
  have hn0 := nxV_in L 0 5 (by decide) (by decide)
  repeat ((conv => whnf); first | refine Cd.seq ?_ | refine Cd.cut ?_ | refine Cd.reg ?_ | refine Cd.block ?_ | refine Cd.cond ?_ | refine Cd.dreg ?_ | refine Cd.skip ?_ | refine Cd.ret ?_ | refine Cd.exit ?_ | refine Cd.loop ?_ | refine ⟨rfl, ?_⟩ | refine ⟨Nat.le_of_ble_eq_true rfl, ?_⟩ | refine ⟨.inl rfl, ?_⟩ | refine ⟨fun h => Bool.noConfusion h, ?_⟩ | refine .inr ⟨fun _ => ⟨[0], _, _, _, ok16n L _ _ hL (by omega) (by omega) (by omega), ⟨rfl, rfl, trivial⟩, rfl, rfl, rfl, rfl, ?_⟩, (by intro h; cases h)⟩)
  conv => whnf
  refine ⟨List Int, fun s => s.length ≤ 5, fun s => ⟨[(4, ⟨[], true, .lst 1 false (rowsI s)⟩)], [], 0⟩, ?_, fun s hs => ?_⟩
  · repeat ((conv => whnf); first | refine Cd.seq ?_ | refine Cd.cut ?_ | refine Cd.reg ?_ | refine Cd.block ?_ | refine Cd.cond ?_ | refine Cd.dreg ?_ | refine Cd.skip ?_ | refine Cd.ret ?_ | refine Cd.exit ?_ | refine Cd.loop ?_ | refine ⟨rfl, ?_⟩ | refine ⟨Nat.le_of_ble_eq_true rfl, ?_⟩ | refine ⟨.inl rfl, ?_⟩ | refine ⟨fun h => Bool.noConfusion h, ?_⟩ | refine .inr ⟨fun _ => ⟨[0], _, _, _, ok16n L _ _ hL (by omega) (by omega) (by omega), ⟨rfl, rfl, trivial⟩, rfl, rfl, rfl, rfl, ?_⟩, (by intro h; cases h)⟩)
    conv => whnf
    refine .inr ⟨fun _ => ⟨[0], _, _, _, ok16n L 0 5 hL (by omega) (by decide) (by decide), ⟨rfl, rfl, trivial⟩, rfl, rfl, rfl, rfl, ?_⟩, (by intro h; cases h)⟩
    generalize nxV L 0 5 = n0 at hn0 ⊢
    obtain ⟨n, rfl⟩ : ∃ n : Nat, n0 = n := ⟨n0.toNat, by omega⟩
    generalize nxI L 0 = J0 at hJ1 ⊢
    repeat ((conv => whnf); first | refine Cd.seq ?_ | refine Cd.cut ?_ | refine Cd.reg ?_ | refine Cd.block ?_ | refine Cd.cond ?_ | refine Cd.dreg ?_ | refine Cd.skip ?_ | refine Cd.ret ?_ | refine Cd.exit ?_ | refine Cd.loop ?_ | refine ⟨rfl, ?_⟩ | refine ⟨Nat.le_of_ble_eq_true rfl, ?_⟩ | refine ⟨.inl rfl, ?_⟩ | refine ⟨fun h => Bool.noConfusion h, ?_⟩ | refine .inr ⟨fun _ => ⟨[0], _, _, _, ok16n L _ _ hL (by omega) (by omega) (by omega), ⟨rfl, rfl, trivial⟩, rfl, rfl, rfl, rfl, ?_⟩, (by intro h; cases h)⟩)
    conv => whnf
    refine ⟨Nat × Nat × List Int, fun p => p.2.1 ≤ L.length ∧ p.1 + p.2.2.length ≤ 5, fun p => ⟨[(3, ⟨[], true, .ptr 0 0 0⟩), (4, ⟨[], true, .sl 1 0 p.2.2.length⟩), (5, ⟨[], true, .int .i64 (p.1 : Int)⟩)], [(0, tpO L p.2.1), (1, .row 1 (rowsI p.2.2))], 2⟩, fun p => p.1, ⟨(n, J0, []), ⟨hJ1, by simp; omega⟩, ?_⟩, fun p hp => ?_⟩
    · refine viewI [some 0, none] rfl rfl ?_ rfl ?_ rfl ?_
      repeat' (first | exact trivial | rfl | exact .inl rfl | exact .inr rfl | exact id | exact (fun h => Bool.noConfusion h) | refine And.intro ?_ ?_)
    obtain ⟨m, J, s⟩ := p
    obtain ⟨hp1, hp2⟩ := hp
    dsimp only at hp1 hp2 ⊢
    have hJ2 := nxI_in L J hp1
    repeat ((conv => whnf); first | refine Cd.seq ?_ | refine Cd.cut ?_ | refine Cd.reg ?_ | refine Cd.block ?_ | refine Cd.cond ?_ | refine Cd.dreg ?_ | refine Cd.skip ?_ | refine Cd.ret ?_ | refine Cd.exit ?_ | refine Cd.loop ?_ | refine ⟨rfl, ?_⟩ | refine ⟨Nat.le_of_ble_eq_true rfl, ?_⟩ | refine ⟨.inl rfl, ?_⟩ | refine ⟨fun h => Bool.noConfusion h, ?_⟩ | refine .inr ⟨fun _ => ⟨[0], _, _, _, ok16n L _ _ hL (by omega) (by omega) (by omega), ⟨rfl, rfl, trivial⟩, rfl, rfl, rfl, rfl, ?_⟩, (by intro h; cases h)⟩)
    conv => whnf
    refine ⟨fun h1 => ?_, fun h1 => ?_⟩ <;> try simp only [Bool.cond_true_left, Bool.cond_false_right, Bool.not_eq_true', Bool.not_eq_false', Bool.not_not] at h1
    · have h1 : 0 < m := by simpa using h1
      repeat ((conv => whnf); first | refine Cd.seq ?_ | refine Cd.cut ?_ | refine Cd.reg ?_ | refine Cd.block ?_ | refine Cd.cond ?_ | refine Cd.dreg ?_ | refine Cd.skip ?_ | refine Cd.ret ?_ | refine Cd.exit ?_ | refine Cd.loop ?_ | refine ⟨rfl, ?_⟩ | refine ⟨Nat.le_of_ble_eq_true rfl, ?_⟩ | refine ⟨.inl rfl, ?_⟩ | refine ⟨fun h => Bool.noConfusion h, ?_⟩ | refine .inr ⟨fun _ => ⟨[0], _, _, _, ok16n L _ _ hL (by omega) (by omega) (by omega), ⟨rfl, rfl, trivial⟩, rfl, rfl, rfl, rfl, ?_⟩, (by intro h; cases h)⟩)
      conv => whnf
      have hv := nxV_in L J 10 (by omega) (by omega)
      refine ⟨fun _ => hv, ?_⟩
      repeat ((conv => whnf); first | refine Cd.seq ?_ | refine Cd.cut ?_ | refine Cd.reg ?_ | refine Cd.block ?_ | refine Cd.cond ?_ | refine Cd.dreg ?_ | refine Cd.skip ?_ | refine Cd.ret ?_ | refine Cd.exit ?_ | refine Cd.loop ?_ | refine ⟨rfl, ?_⟩ | refine ⟨Nat.le_of_ble_eq_true rfl, ?_⟩ | refine ⟨.inl rfl, ?_⟩ | refine ⟨fun h => Bool.noConfusion h, ?_⟩ | refine .inr ⟨fun _ => ⟨[0], _, _, _, ok16n L _ _ hL (by omega) (by omega) (by omega), ⟨rfl, rfl, trivial⟩, rfl, rfl, rfl, rfl, ?_⟩, (by intro h; cases h)⟩)
      conv => whnf
      refine ⟨fun _ => by simp only [List.length_set, List.length_replicate]; omega, ?_⟩
      rw [getLit (M := sizesL) _ ?hR hv.1 hv.2]
      case hR => rfl
      repeat ((conv => whnf); first | refine Cd.seq ?_ | refine Cd.cut ?_ | refine Cd.reg ?_ | refine Cd.block ?_ | refine Cd.cond ?_ | refine Cd.dreg ?_ | refine Cd.skip ?_ | refine Cd.ret ?_ | refine Cd.exit ?_ | refine Cd.loop ?_ | refine ⟨rfl, ?_⟩ | refine ⟨Nat.le_of_ble_eq_true rfl, ?_⟩ | refine ⟨.inl rfl, ?_⟩ | refine ⟨fun h => Bool.noConfusion h, ?_⟩ | refine .inr ⟨fun _ => ⟨[0], _, _, _, ok16n L _ _ hL (by omega) (by omega) (by omega), ⟨rfl, rfl, trivial⟩, rfl, rfl, rfl, rfl, ?_⟩, (by intro h; cases h)⟩)
      conv => whnf
      generalize sizesL.getD (nxV L J 10).toNat 0 = v
      refine ⟨(rowsI_len s).symm, by show (((rowsI s).length + 1 : Nat) : Int) ≤ _; rw [rowsI_len]; omega, by show ((rowsI s).length + 1) * 8 ≤ _; rw [rowsI_len]; omega, ?_⟩
      repeat ((conv => whnf); first | refine Cd.seq ?_ | refine Cd.cut ?_ | refine Cd.reg ?_ | refine Cd.block ?_ | refine Cd.cond ?_ | refine Cd.dreg ?_ | refine Cd.skip ?_ | refine Cd.ret ?_ | refine Cd.exit ?_ | refine Cd.loop ?_ | refine ⟨rfl, ?_⟩ | refine ⟨Nat.le_of_ble_eq_true rfl, ?_⟩ | refine ⟨.inl rfl, ?_⟩ | refine ⟨fun h => Bool.noConfusion h, ?_⟩ | refine .inr ⟨fun _ => ⟨[0], _, _, _, ok16n L _ _ hL (by omega) (by omega) (by omega), ⟨rfl, rfl, trivial⟩, rfl, rfl, rfl, rfl, ?_⟩, (by intro h; cases h)⟩)
      conv => whnf
      rw [wrapI (n := (m : Int) - 1) (by omega) (by omega), show ((m : Int) - 1) = ((m - 1 : Nat) : Int) by omega]
      refine ⟨(m - 1, nxI L J, s ++ [v]), ⟨hJ2, by simp; omega⟩, ?_, by show m - 1 < m; omega⟩
      refine viewI [some 0, some ?k154_1] rfl rfl ?h3_154 ?h4_154 ?h5_154 ?h6_154 ?h7_154
      case' h7_154 => repeat' (first | exact trivial | rfl | exact .inl rfl | exact .inr rfl | exact id | exact (fun h => Bool.noConfusion h) | refine And.intro ?_ ?_)
      case' h4_154 => rfl
      case' h6_154 => rfl
      case' h3_154 => repeat' (first | exact trivial | rfl | exact .inl rfl | exact .inr rfl | exact id | exact (fun h => Bool.noConfusion h) | refine And.intro ?_ ?_)
      case' h5_154 => repeat' (first | exact trivial | rfl | exact .inl rfl | exact .inr rfl | exact id | exact (fun h => Bool.noConfusion h) | refine And.intro ?_ ?_)
      · exact rowsI_snoc s v
      · show (rowsI s).length + 1 = _
        rw [rowsI_len, List.length_append]; rfl
    repeat ((conv => whnf); first | refine Cd.seq ?_ | refine Cd.cut ?_ | refine Cd.reg ?_ | refine Cd.block ?_ | refine Cd.cond ?_ | refine Cd.dreg ?_ | refine Cd.skip ?_ | refine Cd.ret ?_ | refine Cd.exit ?_ | refine Cd.loop ?_ | refine ⟨rfl, ?_⟩ | refine ⟨Nat.le_of_ble_eq_true rfl, ?_⟩ | refine ⟨.inl rfl, ?_⟩ | refine ⟨fun h => Bool.noConfusion h, ?_⟩ | refine .inr ⟨fun _ => ⟨[0], _, _, _, ok16n L _ _ hL (by omega) (by omega) (by omega), ⟨rfl, rfl, trivial⟩, rfl, rfl, rfl, rfl, ?_⟩, (by intro h; cases h)⟩)
    conv => whnf
    refine ⟨s, by omega, ?_⟩
    refine viewI [] rfl rfl ?_ rfl ?_ rfl ?_
    repeat' (first | exact trivial | rfl | exact .inl rfl | exact .inr rfl | exact id | exact (fun h => Bool.noConfusion h) | refine And.intro ?_ ?_)
    · show 0 + s.length ≤ _
      rw [rowsI_len]; omega
    · exact take0 (rowsI_len _)
  have hs : s.length ≤ 5 := hs
  repeat ((conv => whnf); first | refine Cd.seq ?_ | refine Cd.cut ?_ | refine Cd.reg ?_ | refine Cd.block ?_ | refine Cd.cond ?_ | refine Cd.dreg ?_ | refine Cd.skip ?_ | refine Cd.ret ?_ | refine Cd.exit ?_ | refine Cd.loop ?_ | refine ⟨rfl, ?_⟩ | refine ⟨Nat.le_of_ble_eq_true rfl, ?_⟩ | refine ⟨.inl rfl, ?_⟩ | refine ⟨fun h => Bool.noConfusion h, ?_⟩ | refine .inl ⟨_, fun _ => ⟨purA rfl, (by first | exact ok32 s false (by omega) | exact ok33 s false (by omega) | exact ok24 (newF s).1 (newF s).1 false false (newF_small s) (newF_small s) | exact ok31)⟩, .inl rfl, ?_⟩ | refine .inr ⟨fun _ => ⟨[0], _, _, _, ok16n L _ _ hL (by omega) (by omega) (by omega), ⟨rfl, rfl, trivial⟩, rfl, rfl, rfl, rfl, ?_⟩, (by intro h; cases h)⟩)
  conv => whnf
  rw [sameR_sim (SimZ.refl _)]
  refine ⟨[], ?_, rfl, trivial, rfl, ?_⟩
  · exact trivial
  try subst hk
  simp only [beq_self_eq_true, cond_true, cond_false, Bool.not_true, Bool.not_false]
  repeat' (first | exact trivial | rfl | exact .inl rfl | exact .inr rfl | exact id | exact (fun h => Bool.noConfusion h) | refine And.intro ?_ ?_)
end Go.Proofs.Ytcifhjkodbaghaa
