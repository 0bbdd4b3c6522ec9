/- Zone: the zones that are drawn, some of them spoiled. -/
import Derived.Test.YtcifhjkodbaghaaB18
set_option linter.unusedSimpArgs false
set_option linter.unusedVariables false
namespace Go.Proofs.Ytcifhjkodbaghaa
open Go Go.Sk Go.RowKit

/- pagecache/pagecachelaw10.drawn -/
def rc15 : RC :=
  (.seq
  (.reg [⟨(some 2), none, (.mv (.c (.lst 0 true [])))⟩] [])
  (.seq
  (.reg [⟨(some 5), none, (.mv (.t 0))⟩,
    ⟨(some 6), none, (.call 34 [(.t 5)])⟩,
    ⟨(some 7), none, (.app 6 64 (.c (.lst 0 true [])) (.t 6))⟩,
    ⟨(some 3), none, (.mv (.t 7))⟩] [5, 6, 7])
  (.seq
  (.seq
  (.reg [⟨(some 8), none, (.mv (.t 0))⟩,
    ⟨(some 9), none, (.call 16 [(.t 8), (.c (.int .i64 8))])⟩,
    ⟨(some 10), none, (.bin .eql (.t 9) (.c (.int .i64 0)))⟩] [8, 9])
  (.cond (.t 10)
   (.seq
   (.reg [⟨(some 11), none, (.mv (.t 0))⟩,
     ⟨(some 12), none, (.mv (.t 3))⟩,
     ⟨(some 13), none, (.len (.t 12))⟩,
     ⟨(some 14), none, (.call 16 [(.t 11), (.t 13)])⟩,
     ⟨(some 4), none, (.mv (.t 14))⟩] [11, 12, 13, 14])
   (.seq
   (.reg [⟨(some 15), none, (.mv (.t 0))⟩,
     ⟨(some 16), none, (.call 16 [(.t 15), (.c (.int .i64 5))])⟩] [15])
   (.block 0
    (.seq
    (.reg [⟨(some 18), none, (.bin .eql (.t 16) (.c (.int .i64 0)))⟩,
      ⟨(some 17), none, (.mv (.t 18))⟩] [18])
    (.cond (.t 17)
     (.reg [⟨(some 19), none, (.mv (.t 3))⟩,
       ⟨(some 20), none, (.mv (.t 4))⟩,
       ⟨(some 21), none, (.mv (.t 0))⟩,
       ⟨(some 22), none, (.call 17 [(.t 21)])⟩,
       ⟨(some 23), none, (.iaddr 6 (.t 19) (.t 20))⟩,
       ⟨(some 24), none, (.faddr 1 (.t 23))⟩,
       ⟨none, none, (.st 1 (.t 24) (.t 22))⟩] [19, 20, 21, 22, 23, 24])
     (.seq
     (.reg [⟨(some 26), none, (.bin .eql (.t 16) (.c (.int .i64 1)))⟩,
       ⟨(some 25), none, (.mv (.t 26))⟩] [26])
     (.cond (.t 25)
      (.dreg 9216 9408 [⟨(some 27), none, (.mv (.t 3))⟩,
        ⟨(some 28), none, (.mv (.t 4))⟩,
        ⟨(some 29), none, (.iaddr 6 (.t 27) (.t 28))⟩,
        ⟨(some 30), none, (.faddr 0 (.t 29))⟩,
        ⟨(some 31), none, (.ld false 1 (.t 30))⟩,
        ⟨(some 32), none, (.mv (.t 0))⟩,
        ⟨(some 33), none, (.call 16 [(.t 32), (.c (.int .i64 3))])⟩,
        ⟨(some 34), none, (.bin .sub (.t 33) (.c (.int .i64 1)))⟩,
        ⟨(some 35), none, (.bin .add (.t 31) (.t 34))⟩,
        ⟨(some 36), none, (.iaddr 6 (.t 27) (.t 28))⟩,
        ⟨(some 37), none, (.faddr 0 (.t 36))⟩,
        ⟨none, none, (.st 1 (.t 37) (.t 35))⟩] [27, 28, 29, 30, 31, 32, 33, 34, 35, 36, 37] [[], [], [0, 1], [2, 1, 0], [3, 0, 1, 2], [], [5], [6, 5], [4, 2, 1, 0, 3, 7, 5, 6], [8, 6, 5, 7, 3, 0, 1, 2, 4], [9, 8, 6, 5, 7, 3, 0, 1, 2, 4], [10, 9, 8, 6, 5, 7, 3, 0, 1, 2, 4]] [9216, 9232, 9248, 9264, 9280, 9296, 9312, 9328, 9344, 9360, 9376, 9392])
      (.seq
      (.reg [⟨(some 39), none, (.bin .eql (.t 16) (.c (.int .i64 2)))⟩,
        ⟨(some 38), none, (.mv (.t 39))⟩] [39])
      (.cond (.t 38)
       (.reg [⟨(some 40), none, (.mv (.t 3))⟩,
         ⟨(some 41), none, (.mv (.t 4))⟩,
         ⟨(some 42), none, (.mv (.t 0))⟩,
         ⟨(some 43), none, (.call 16 [(.t 42), (.c (.int .i64 14))])⟩,
         ⟨(some 44), none, (.iaddr 6 (.t 40) (.t 41))⟩,
         ⟨(some 45), none, (.faddr 3 (.t 44))⟩,
         ⟨none, none, (.st 1 (.t 45) (.t 43))⟩] [40, 41, 42, 43, 44, 45])
       (.seq
       (.reg [⟨(some 47), none, (.bin .eql (.t 16) (.c (.int .i64 3)))⟩,
         ⟨(some 46), none, (.mv (.t 47))⟩] [47])
       (.cond (.t 46)
        (.regc [⟨(some 48), none, (.mv (.t 3))⟩,
          ⟨(some 49), none, (.mv (.t 4))⟩,
          ⟨(some 50), none, (.mv (.t 3))⟩,
          ⟨(some 51), none, (.mv (.t 4))⟩,
          ⟨(some 52), none, (.iaddr 6 (.t 50) (.t 51))⟩,
          ⟨(some 53), none, (.faddr 5 (.t 52))⟩,
          ⟨(some 54), none, (.ld false 1 (.t 53))⟩,
          ⟨(some 55), none, (.app 1 8 (.c (.lst 0 true [])) (.t 54))⟩,
          ⟨(some 56), none, (.mv (.t 0))⟩,
          ⟨(some 57), none, (.call 16 [(.t 56), (.c (.int .i64 30))])⟩,
          ⟨(some 58), none, (.bin .add (.c (.int .i64 1)) (.t 57))⟩,
          ⟨(some 59), none, (.bslice 1 [(.int .i64 0)] 1 [(0, (.t 58))])⟩,
          ⟨(some 60), none, (.app 1 8 (.t 55) (.t 59))⟩] [⟨(some 61), none, (.iaddr 6 (.t 48) (.t 49))⟩,
          ⟨(some 62), none, (.faddr 5 (.t 61))⟩,
          ⟨none, none, (.st 1 (.t 62) (.t 60))⟩] [48, 49, 50, 51, 52, 53, 54, 55, 56, 57, 58, 59, 60, 61, 62])
        (.seq
        (.reg [⟨(some 64), none, (.bin .eql (.t 16) (.c (.int .i64 4)))⟩,
          ⟨(some 63), none, (.mv (.t 64))⟩] [64])
        (.cond (.t 63)
         (.reg [⟨(some 65), none, (.mv (.t 3))⟩,
           ⟨(some 66), none, (.mv (.t 4))⟩,
           ⟨(some 67), none, (.mv (.t 0))⟩,
           ⟨(some 68), none, (.call 16 [(.t 67), (.c (.int .i64 5))])⟩,
           ⟨(some 69), none, (.bin .sub (.t 68) (.c (.int .i64 1)))⟩,
           ⟨(some 70), none, (.iaddr 6 (.t 65) (.t 66))⟩,
           ⟨(some 71), none, (.faddr 2 (.t 70))⟩,
           ⟨none, none, (.st 1 (.t 71) (.t 69))⟩] [65, 66, 67, 68, 69, 70, 71])
         .skip)))))))))))))
   .skip))
  (.seq
  (.reg [⟨(some 72), none, (.mv (.t 3))⟩,
    ⟨(some 2), none, (.mv (.t 72))⟩] [72])
  .ret))))
theorem rcq15 : resC Go.Proofs.Try.prog Go.Proofs.Try.f15.ntmps ((Go.Proofs.Try.f15.body).getD .skip) = some (strip rc15) := by kernel_rfl
def rv15 : List RV := [(.tmp 2)]
theorem rvq15 : Go.Proofs.Try.f15.results.toList.mapM (resRV Go.Proofs.Try.prog) = some rv15 := by kernel_rfl

def spoilZ (L : List Int) (J : Nat) (c : Int) (z : Zn) : Zn × Nat :=
  bif c == 0 then (⟨z.first, oddF L J, z.min, z.low, z.high, z.free, z.ex⟩, nxI L J) else
  bif c == 1 then (⟨IntKind.i64.wrap (z.first + (nxV L J 3 - 1)), z.size, z.min, z.low, z.high, z.free, z.ex⟩, nxI L J) else
  bif c == 2 then (⟨z.first, z.size, z.min, nxV L J 14, z.high, z.free, z.ex⟩, nxI L J) else
  bif c == 3 then (⟨z.first, z.size, z.min, z.low, z.high, z.free ++ [1 + nxV L J 30], false⟩, nxI L J) else
  bif c == 4 then (⟨z.first, z.size, nxV L J 5 - 1, z.low, z.high, z.free, z.ex⟩, nxI L J) else (z, J)
def drawnG (L : List Int) (l : List Zn) (J : Nat) : List Zn × Nat :=
  bif nxV L J 8 == 0 then
    (l.set (nxV L (nxI L J) l.length).toNat (spoilZ L (nxI L (nxI L (nxI L J))) (nxV L (nxI L (nxI L J)) 5) (l.getD (nxV L (nxI L J) l.length).toNat zeroZ)).1,
      (spoilZ L (nxI L (nxI L (nxI L J))) (nxV L (nxI L (nxI L J)) 5) (l.getD (nxV L (nxI L J) l.length).toNat zeroZ)).2)
  else (l, nxI L J)
def drawnF (L : List Int) (I : Nat) : List Zn × Nat := drawnG L (zonesF L I).1 (zonesF L I).2
theorem putFirst (l : List Zn) (i : Nat) (h : i < l.length) (v : Int) :
    (rowsZ l).set i (putCells 6 ((rowsZ l).getD i []) 0 [.int .i64 v]) = rowsZ (l.set i ⟨v, (l[i]'h).size, (l[i]'h).min, (l[i]'h).low, (l[i]'h).high, (l[i]'h).free, (l[i]'h).ex⟩) := by
  rw [rowsZ_get l i h, rowsZ, rowsZ, List.map_set]; rfl
theorem putSize (l : List Zn) (i : Nat) (h : i < l.length) (v : Int) :
    (rowsZ l).set i (putCells 6 ((rowsZ l).getD i []) 1 [.int .i64 v]) = rowsZ (l.set i ⟨(l[i]'h).first, v, (l[i]'h).min, (l[i]'h).low, (l[i]'h).high, (l[i]'h).free, (l[i]'h).ex⟩) := by
  rw [rowsZ_get l i h, rowsZ, rowsZ, List.map_set]; rfl
theorem putMin (l : List Zn) (i : Nat) (h : i < l.length) (v : Int) :
    (rowsZ l).set i (putCells 6 ((rowsZ l).getD i []) 2 [.int .i64 v]) = rowsZ (l.set i ⟨(l[i]'h).first, (l[i]'h).size, v, (l[i]'h).low, (l[i]'h).high, (l[i]'h).free, (l[i]'h).ex⟩) := by
  rw [rowsZ_get l i h, rowsZ, rowsZ, List.map_set]; rfl
theorem putLow (l : List Zn) (i : Nat) (h : i < l.length) (v : Int) :
    (rowsZ l).set i (putCells 6 ((rowsZ l).getD i []) 3 [.int .i64 v]) = rowsZ (l.set i ⟨(l[i]'h).first, (l[i]'h).size, (l[i]'h).min, v, (l[i]'h).high, (l[i]'h).free, (l[i]'h).ex⟩) := by
  rw [rowsZ_get l i h, rowsZ, rowsZ, List.map_set]; rfl
theorem snoc_take (l : List Int) (v : Int) : ((rowsI l ++ [[V.int .i64 v]]).drop 0).take ((rowsI l).length + 1) = rowsI (l ++ [v]) := by
  rw [rowsI_snoc]; exact take0 (by rw [rowsI_len, rowsI_len]; simp)
set_option maxRecDepth 20000 in
set_option maxHeartbeats 1000000 in
theorem ok15 (L : List Int) (I : Nat) (hL : (L.length : Int) < 2 ^ 62) (hI : I ≤ L.length) : FnC Try.prog 15 [tpO L I] [.ptr 0 0 0] (.lst 6 false (rowsZ (drawnF L I).1)) [tpO L (drawnF L I).2] := by
  have hz := zonesF_ok L I hI
  refine fn_okC (ob0 := [tpO L I]) (rc := rc15) (rvs := rv15) Try.func15 rfl rcq15 rvq15 (show 1 ≤ _ by decide) ?_
  generalize hk : drawnF L I = q
  rw [drawnF] at hk
  repeat ((conv => whnf); first | refine Cd.seq ?_ | refine Cd.cut ?_ | refine Cd.reg ?_ | refine Cd.block ?_ | refine Cd.cond ?_ | refine Cd.dreg ?_ | refine Cd.skip ?_ | refine Cd.ret ?_ | refine Cd.exit ?_ | refine Cd.loop ?_ | refine ⟨rfl, ?_⟩ | refine ⟨Nat.le_of_ble_eq_true rfl, ?_⟩ | refine ⟨.inl rfl, ?_⟩ | refine ⟨fun h => Bool.noConfusion h, ?_⟩ | refine .inr ⟨fun _ => ⟨[0], _, _, _, ok16n L _ _ hL (by omega) (by omega) (by omega), ⟨rfl, rfl, trivial⟩, rfl, rfl, rfl, rfl, ?_⟩, (by intro h; cases h)⟩ | refine .inr ⟨fun _ => ⟨[0], _, _, _, ok34 L _ hL (by omega), ⟨rfl, rfl, trivial⟩, rfl, rfl, rfl, rfl, ?_⟩, (by intro h; cases h)⟩ | refine .inr ⟨fun _ => ⟨[0], _, _, _, ok17 L _ hL (by omega), ⟨rfl, rfl, trivial⟩, rfl, rfl, rfl, rfl, ?_⟩, (by intro h; cases h)⟩)
  conv => whnf
  generalize hp : zonesF L I = p at hz hk
  obtain ⟨l, J⟩ := p
  dsimp only at hk ⊢
  obtain ⟨hc, hJ⟩ := hz
  dsimp only at hc hJ
  have hll := check_len hc
  rw [rowsZ_len]
  refine ⟨by omega, by omega, ?_⟩
  have hJ1 := nxI_in L J hJ
  have hJ2 := nxI_in L _ hJ1
  have hJ3 := nxI_in L _ hJ2
  have hJ4 := nxI_in L _ hJ3
  repeat ((conv => whnf); first | refine Cd.seq ?_ | refine Cd.cut ?_ | refine Cd.reg ?_ | refine Cd.block ?_ | refine Cd.cond ?_ | refine Cd.dreg ?_ | refine Cd.skip ?_ | refine Cd.ret ?_ | refine Cd.exit ?_ | refine Cd.loop ?_ | refine ⟨rfl, ?_⟩ | refine ⟨Nat.le_of_ble_eq_true rfl, ?_⟩ | refine ⟨.inl rfl, ?_⟩ | refine ⟨fun h => Bool.noConfusion h, ?_⟩ | refine .inr ⟨fun _ => ⟨[0], _, _, _, ok16n L _ _ hL (by omega) (by omega) (by omega), ⟨rfl, rfl, trivial⟩, rfl, rfl, rfl, rfl, ?_⟩, (by intro h; cases h)⟩ | refine .inr ⟨fun _ => ⟨[0], _, _, _, ok34 L _ hL (by omega), ⟨rfl, rfl, trivial⟩, rfl, rfl, rfl, rfl, ?_⟩, (by intro h; cases h)⟩ | refine .inr ⟨fun _ => ⟨[0], _, _, _, ok17 L _ hL (by omega), ⟨rfl, rfl, trivial⟩, rfl, rfl, rfl, rfl, ?_⟩, (by intro h; cases h)⟩)
  conv => whnf
  refine ⟨fun h1 => ?_, fun h1 => ?_⟩ <;> try simp only [Bool.cond_true_left, Bool.cond_false_right, Bool.not_eq_true', Bool.not_eq_false', Bool.not_not] at h1
  · simp only [drawnG, h1, cond_true] at hk
    repeat ((conv => whnf); first | refine Cd.seq ?_ | refine Cd.cut ?_ | refine Cd.reg ?_ | refine Cd.block ?_ | refine Cd.cond ?_ | refine Cd.dreg ?_ | refine Cd.skip ?_ | refine Cd.ret ?_ | refine Cd.exit ?_ | refine Cd.loop ?_ | refine ⟨rfl, ?_⟩ | refine ⟨Nat.le_of_ble_eq_true rfl, ?_⟩ | refine ⟨.inl rfl, ?_⟩ | refine ⟨fun h => Bool.noConfusion h, ?_⟩ | refine .inr ⟨fun _ => ⟨[0], _, _, _, ok16n L _ _ hL (by omega) (by omega) (by omega), ⟨rfl, rfl, trivial⟩, rfl, rfl, rfl, rfl, ?_⟩, (by intro h; cases h)⟩ | refine .inr ⟨fun _ => ⟨[0], _, _, _, ok34 L _ hL (by omega), ⟨rfl, rfl, trivial⟩, rfl, rfl, rfl, rfl, ?_⟩, (by intro h; cases h)⟩ | refine .inr ⟨fun _ => ⟨[0], _, _, _, ok17 L _ hL (by omega), ⟨rfl, rfl, trivial⟩, rfl, rfl, rfl, rfl, ?_⟩, (by intro h; cases h)⟩)
    conv => whnf
    have hi0 := nxV_in L (nxI L J) l.length (by omega) (by omega)
    generalize nxV L (nxI L J) l.length = i0 at hk hi0 ⊢
    obtain ⟨i, rfl⟩ : ∃ i : Nat, i0 = i := ⟨i0.toNat, by omega⟩
    have hi : i < l.length := by omega
    rw [Int.toNat_natCast, getZ l i hi] at hk
    refine ⟨fun c0 => ?_, fun c0 => ?_⟩ <;> try simp only [Bool.cond_true_left, Bool.cond_false_right, Bool.not_eq_true', Bool.not_eq_false', Bool.not_not] at c0
    · simp only [spoilZ, c0, cond_true] at hk
      subst hk
      repeat ((conv => whnf); first | refine Cd.seq ?_ | refine Cd.cut ?_ | refine Cd.reg ?_ | refine Cd.block ?_ | refine Cd.cond ?_ | refine Cd.dreg ?_ | refine Cd.skip ?_ | refine Cd.ret ?_ | refine Cd.exit ?_ | refine Cd.loop ?_ | refine ⟨rfl, ?_⟩ | refine ⟨Nat.le_of_ble_eq_true rfl, ?_⟩ | refine ⟨.inl rfl, ?_⟩ | refine ⟨fun h => Bool.noConfusion h, ?_⟩ | refine .inr ⟨fun _ => ⟨[0], _, _, _, ok16n L _ _ hL (by omega) (by omega) (by omega), ⟨rfl, rfl, trivial⟩, rfl, rfl, rfl, rfl, ?_⟩, (by intro h; cases h)⟩ | refine .inr ⟨fun _ => ⟨[0], _, _, _, ok34 L _ hL (by omega), ⟨rfl, rfl, trivial⟩, rfl, rfl, rfl, rfl, ?_⟩, (by intro h; cases h)⟩ | refine .inr ⟨fun _ => ⟨[0], _, _, _, ok17 L _ hL (by omega), ⟨rfl, rfl, trivial⟩, rfl, rfl, rfl, rfl, ?_⟩, (by intro h; cases h)⟩)
      conv => whnf
      refine ⟨fun _ => ⟨by omega, by omega⟩, ?_⟩
      repeat ((conv => whnf); first | refine Cd.seq ?_ | refine Cd.cut ?_ | refine Cd.reg ?_ | refine Cd.block ?_ | refine Cd.cond ?_ | refine Cd.dreg ?_ | refine Cd.skip ?_ | refine Cd.ret ?_ | refine Cd.exit ?_ | refine Cd.loop ?_ | refine ⟨rfl, ?_⟩ | refine ⟨Nat.le_of_ble_eq_true rfl, ?_⟩ | refine ⟨.inl rfl, ?_⟩ | refine ⟨fun h => Bool.noConfusion h, ?_⟩ | refine .inr ⟨fun _ => ⟨[0], _, _, _, ok16n L _ _ hL (by omega) (by omega) (by omega), ⟨rfl, rfl, trivial⟩, rfl, rfl, rfl, rfl, ?_⟩, (by intro h; cases h)⟩ | refine .inr ⟨fun _ => ⟨[0], _, _, _, ok34 L _ hL (by omega), ⟨rfl, rfl, trivial⟩, rfl, rfl, rfl, rfl, ?_⟩, (by intro h; cases h)⟩ | refine .inr ⟨fun _ => ⟨[0], _, _, _, ok17 L _ hL (by omega), ⟨rfl, rfl, trivial⟩, rfl, rfl, rfl, rfl, ?_⟩, (by intro h; cases h)⟩)
      conv => whnf
      refine ⟨by rw [rowsZ_len, Int.toNat_natCast]; omega, ?_⟩
      repeat ((conv => whnf); first | refine Cd.seq ?_ | refine Cd.cut ?_ | refine Cd.reg ?_ | refine Cd.block ?_ | refine Cd.cond ?_ | refine Cd.dreg ?_ | refine Cd.skip ?_ | refine Cd.ret ?_ | refine Cd.exit ?_ | refine Cd.loop ?_ | refine ⟨rfl, ?_⟩ | refine ⟨Nat.le_of_ble_eq_true rfl, ?_⟩ | refine ⟨.inl rfl, ?_⟩ | refine ⟨fun h => Bool.noConfusion h, ?_⟩ | refine .inr ⟨fun _ => ⟨[0], _, _, _, ok16n L _ _ hL (by omega) (by omega) (by omega), ⟨rfl, rfl, trivial⟩, rfl, rfl, rfl, rfl, ?_⟩, (by intro h; cases h)⟩ | refine .inr ⟨fun _ => ⟨[0], _, _, _, ok34 L _ hL (by omega), ⟨rfl, rfl, trivial⟩, rfl, rfl, rfl, rfl, ?_⟩, (by intro h; cases h)⟩ | refine .inr ⟨fun _ => ⟨[0], _, _, _, ok17 L _ hL (by omega), ⟨rfl, rfl, trivial⟩, rfl, rfl, rfl, rfl, ?_⟩, (by intro h; cases h)⟩)
      conv => whnf
      try subst hk
      refine ⟨[some 0], ?_, rfl, ?_, rfl, ?_⟩
      all_goals repeat' (first | exact trivial | rfl | exact .inl rfl | exact .inr rfl | exact id | exact (fun h => Bool.noConfusion h) | refine And.intro ?_ ?_)
      · show 0 + l.length ≤ _
        rw [List.length_set, rowsZ_len]; omega
      · rw [Nat.zero_add, Int.toNat_natCast]
        refine (congrArg (fun r => List.take l.length (List.drop 0 r)) (putSize l i hi (oddF L _))).trans ?_
        refine (take0 (by rw [rowsZ_len]; simp)).trans ?_
        rfl
    repeat ((conv => whnf); first | refine Cd.seq ?_ | refine Cd.cut ?_ | refine Cd.reg ?_ | refine Cd.block ?_ | refine Cd.cond ?_ | refine Cd.dreg ?_ | refine Cd.skip ?_ | refine Cd.ret ?_ | refine Cd.exit ?_ | refine Cd.loop ?_ | refine ⟨rfl, ?_⟩ | refine ⟨Nat.le_of_ble_eq_true rfl, ?_⟩ | refine ⟨.inl rfl, ?_⟩ | refine ⟨fun h => Bool.noConfusion h, ?_⟩ | refine .inr ⟨fun _ => ⟨[0], _, _, _, ok16n L _ _ hL (by omega) (by omega) (by omega), ⟨rfl, rfl, trivial⟩, rfl, rfl, rfl, rfl, ?_⟩, (by intro h; cases h)⟩ | refine .inr ⟨fun _ => ⟨[0], _, _, _, ok34 L _ hL (by omega), ⟨rfl, rfl, trivial⟩, rfl, rfl, rfl, rfl, ?_⟩, (by intro h; cases h)⟩ | refine .inr ⟨fun _ => ⟨[0], _, _, _, ok17 L _ hL (by omega), ⟨rfl, rfl, trivial⟩, rfl, rfl, rfl, rfl, ?_⟩, (by intro h; cases h)⟩)
    conv => whnf
    refine ⟨fun c1 => ?_, fun c1 => ?_⟩ <;> try simp only [Bool.cond_true_left, Bool.cond_false_right, Bool.not_eq_true', Bool.not_eq_false', Bool.not_not] at c1
    · simp only [spoilZ, c0, c1, cond_true, cond_false] at hk
      subst hk
      have hb := nxV_in L (nxI L (nxI L (nxI L J))) 3 (by decide) (by decide)
      repeat ((conv => whnf); first | refine Cd.seq ?_ | refine Cd.cut ?_ | refine Cd.reg ?_ | refine Cd.block ?_ | refine Cd.cond ?_ | refine Cd.dreg ?_ | refine Cd.skip ?_ | refine Cd.ret ?_ | refine Cd.exit ?_ | refine Cd.loop ?_ | refine ⟨rfl, ?_⟩ | refine ⟨Nat.le_of_ble_eq_true rfl, ?_⟩ | refine ⟨.inl rfl, ?_⟩ | refine ⟨fun h => Bool.noConfusion h, ?_⟩ | refine .inr ⟨fun _ => ⟨[0], _, _, _, ok16n L _ _ hL (by omega) (by omega) (by omega), ⟨rfl, rfl, trivial⟩, rfl, rfl, rfl, rfl, ?_⟩, (by intro h; cases h)⟩ | refine .inr ⟨fun _ => ⟨[0], _, _, _, ok34 L _ hL (by omega), ⟨rfl, rfl, trivial⟩, rfl, rfl, rfl, rfl, ?_⟩, (by intro h; cases h)⟩ | refine .inr ⟨fun _ => ⟨[0], _, _, _, ok17 L _ hL (by omega), ⟨rfl, rfl, trivial⟩, rfl, rfl, rfl, rfl, ?_⟩, (by intro h; cases h)⟩)
      conv => whnf
      refine ⟨fun _ => ⟨by omega, by omega⟩, ?_⟩
      repeat ((conv => whnf); first | refine Cd.seq ?_ | refine Cd.cut ?_ | refine Cd.reg ?_ | refine Cd.block ?_ | refine Cd.cond ?_ | refine Cd.dreg ?_ | refine Cd.skip ?_ | refine Cd.ret ?_ | refine Cd.exit ?_ | refine Cd.loop ?_ | refine ⟨rfl, ?_⟩ | refine ⟨Nat.le_of_ble_eq_true rfl, ?_⟩ | refine ⟨.inl rfl, ?_⟩ | refine ⟨fun h => Bool.noConfusion h, ?_⟩ | refine .inr ⟨fun _ => ⟨[0], _, _, _, ok16n L _ _ hL (by omega) (by omega) (by omega), ⟨rfl, rfl, trivial⟩, rfl, rfl, rfl, rfl, ?_⟩, (by intro h; cases h)⟩ | refine .inr ⟨fun _ => ⟨[0], _, _, _, ok34 L _ hL (by omega), ⟨rfl, rfl, trivial⟩, rfl, rfl, rfl, rfl, ?_⟩, (by intro h; cases h)⟩ | refine .inr ⟨fun _ => ⟨[0], _, _, _, ok17 L _ hL (by omega), ⟨rfl, rfl, trivial⟩, rfl, rfl, rfl, rfl, ?_⟩, (by intro h; cases h)⟩)
      conv => whnf
      refine ⟨fun _ => by rw [rowsZ_len, Int.toNat_natCast]; omega, ?_⟩
      repeat ((conv => whnf); first | refine Cd.seq ?_ | refine Cd.cut ?_ | refine Cd.reg ?_ | refine Cd.block ?_ | refine Cd.cond ?_ | refine Cd.dreg ?_ | refine Cd.skip ?_ | refine Cd.ret ?_ | refine Cd.exit ?_ | refine Cd.loop ?_ | refine ⟨rfl, ?_⟩ | refine ⟨Nat.le_of_ble_eq_true rfl, ?_⟩ | refine ⟨.inl rfl, ?_⟩ | refine ⟨fun h => Bool.noConfusion h, ?_⟩ | refine .inr ⟨fun _ => ⟨[0], _, _, _, ok16n L _ _ hL (by omega) (by omega) (by omega), ⟨rfl, rfl, trivial⟩, rfl, rfl, rfl, rfl, ?_⟩, (by intro h; cases h)⟩ | refine .inr ⟨fun _ => ⟨[0], _, _, _, ok34 L _ hL (by omega), ⟨rfl, rfl, trivial⟩, rfl, rfl, rfl, rfl, ?_⟩, (by intro h; cases h)⟩ | refine .inr ⟨fun _ => ⟨[0], _, _, _, ok17 L _ hL (by omega), ⟨rfl, rfl, trivial⟩, rfl, rfl, rfl, rfl, ?_⟩, (by intro h; cases h)⟩)
      conv => whnf
      rw [Nat.zero_add, Int.toNat_natCast, rowsZ_get l i hi]
      repeat ((conv => whnf); first | refine Cd.seq ?_ | refine Cd.cut ?_ | refine Cd.reg ?_ | refine Cd.block ?_ | refine Cd.cond ?_ | refine Cd.dreg ?_ | refine Cd.skip ?_ | refine Cd.ret ?_ | refine Cd.exit ?_ | refine Cd.loop ?_ | refine ⟨rfl, ?_⟩ | refine ⟨Nat.le_of_ble_eq_true rfl, ?_⟩ | refine ⟨.inl rfl, ?_⟩ | refine ⟨fun h => Bool.noConfusion h, ?_⟩ | refine .inr ⟨fun _ => ⟨[0], _, _, _, ok16n L _ _ hL (by omega) (by omega) (by omega), ⟨rfl, rfl, trivial⟩, rfl, rfl, rfl, rfl, ?_⟩, (by intro h; cases h)⟩ | refine .inr ⟨fun _ => ⟨[0], _, _, _, ok34 L _ hL (by omega), ⟨rfl, rfl, trivial⟩, rfl, rfl, rfl, rfl, ?_⟩, (by intro h; cases h)⟩ | refine .inr ⟨fun _ => ⟨[0], _, _, _, ok17 L _ hL (by omega), ⟨rfl, rfl, trivial⟩, rfl, rfl, rfl, rfl, ?_⟩, (by intro h; cases h)⟩)
      conv => whnf
      rw [wrapI (n := nxV L _ 3 - 1) (by omega) (by omega)]
      refine ⟨fun _ => ⟨by omega, by omega⟩, ?_⟩
      repeat ((conv => whnf); first | refine Cd.seq ?_ | refine Cd.cut ?_ | refine Cd.reg ?_ | refine Cd.block ?_ | refine Cd.cond ?_ | refine Cd.dreg ?_ | refine Cd.skip ?_ | refine Cd.ret ?_ | refine Cd.exit ?_ | refine Cd.loop ?_ | refine ⟨rfl, ?_⟩ | refine ⟨Nat.le_of_ble_eq_true rfl, ?_⟩ | refine ⟨.inl rfl, ?_⟩ | refine ⟨fun h => Bool.noConfusion h, ?_⟩ | refine .inr ⟨fun _ => ⟨[0], _, _, _, ok16n L _ _ hL (by omega) (by omega) (by omega), ⟨rfl, rfl, trivial⟩, rfl, rfl, rfl, rfl, ?_⟩, (by intro h; cases h)⟩ | refine .inr ⟨fun _ => ⟨[0], _, _, _, ok34 L _ hL (by omega), ⟨rfl, rfl, trivial⟩, rfl, rfl, rfl, rfl, ?_⟩, (by intro h; cases h)⟩ | refine .inr ⟨fun _ => ⟨[0], _, _, _, ok17 L _ hL (by omega), ⟨rfl, rfl, trivial⟩, rfl, rfl, rfl, rfl, ?_⟩, (by intro h; cases h)⟩)
      conv => whnf
      refine ⟨by rw [rowsZ_len]; omega, ?_⟩
      repeat ((conv => whnf); first | refine Cd.seq ?_ | refine Cd.cut ?_ | refine Cd.reg ?_ | refine Cd.block ?_ | refine Cd.cond ?_ | refine Cd.dreg ?_ | refine Cd.skip ?_ | refine Cd.ret ?_ | refine Cd.exit ?_ | refine Cd.loop ?_ | refine ⟨rfl, ?_⟩ | refine ⟨Nat.le_of_ble_eq_true rfl, ?_⟩ | refine ⟨.inl rfl, ?_⟩ | refine ⟨fun h => Bool.noConfusion h, ?_⟩ | refine .inr ⟨fun _ => ⟨[0], _, _, _, ok16n L _ _ hL (by omega) (by omega) (by omega), ⟨rfl, rfl, trivial⟩, rfl, rfl, rfl, rfl, ?_⟩, (by intro h; cases h)⟩ | refine .inr ⟨fun _ => ⟨[0], _, _, _, ok34 L _ hL (by omega), ⟨rfl, rfl, trivial⟩, rfl, rfl, rfl, rfl, ?_⟩, (by intro h; cases h)⟩ | refine .inr ⟨fun _ => ⟨[0], _, _, _, ok17 L _ hL (by omega), ⟨rfl, rfl, trivial⟩, rfl, rfl, rfl, rfl, ?_⟩, (by intro h; cases h)⟩)
      conv => whnf
      try subst hk
      refine ⟨[some 0], ?_, rfl, ?_, rfl, ?_⟩
      all_goals repeat' (first | exact trivial | rfl | exact .inl rfl | exact .inr rfl | exact id | exact (fun h => Bool.noConfusion h) | refine And.intro ?_ ?_)
      · show 0 + l.length ≤ _
        rw [List.length_set, rowsZ_len]; omega
      · rw [Nat.zero_add, Int.toNat_natCast]
        refine (congrArg (fun r => List.take l.length (List.drop 0 r)) (putFirst l i hi _)).trans ?_
        refine (take0 (by rw [rowsZ_len]; simp)).trans ?_
        rfl
    repeat ((conv => whnf); first | refine Cd.seq ?_ | refine Cd.cut ?_ | refine Cd.reg ?_ | refine Cd.block ?_ | refine Cd.cond ?_ | refine Cd.dreg ?_ | refine Cd.skip ?_ | refine Cd.ret ?_ | refine Cd.exit ?_ | refine Cd.loop ?_ | refine ⟨rfl, ?_⟩ | refine ⟨Nat.le_of_ble_eq_true rfl, ?_⟩ | refine ⟨.inl rfl, ?_⟩ | refine ⟨fun h => Bool.noConfusion h, ?_⟩ | refine .inr ⟨fun _ => ⟨[0], _, _, _, ok16n L _ _ hL (by omega) (by omega) (by omega), ⟨rfl, rfl, trivial⟩, rfl, rfl, rfl, rfl, ?_⟩, (by intro h; cases h)⟩ | refine .inr ⟨fun _ => ⟨[0], _, _, _, ok34 L _ hL (by omega), ⟨rfl, rfl, trivial⟩, rfl, rfl, rfl, rfl, ?_⟩, (by intro h; cases h)⟩ | refine .inr ⟨fun _ => ⟨[0], _, _, _, ok17 L _ hL (by omega), ⟨rfl, rfl, trivial⟩, rfl, rfl, rfl, rfl, ?_⟩, (by intro h; cases h)⟩)
    conv => whnf
    refine ⟨fun c2 => ?_, fun c2 => ?_⟩ <;> try simp only [Bool.cond_true_left, Bool.cond_false_right, Bool.not_eq_true', Bool.not_eq_false', Bool.not_not] at c2
    · simp only [spoilZ, c0, c1, c2, cond_true, cond_false] at hk
      subst hk
      repeat ((conv => whnf); first | refine Cd.seq ?_ | refine Cd.cut ?_ | refine Cd.reg ?_ | refine Cd.block ?_ | refine Cd.cond ?_ | refine Cd.dreg ?_ | refine Cd.skip ?_ | refine Cd.ret ?_ | refine Cd.exit ?_ | refine Cd.loop ?_ | refine ⟨rfl, ?_⟩ | refine ⟨Nat.le_of_ble_eq_true rfl, ?_⟩ | refine ⟨.inl rfl, ?_⟩ | refine ⟨fun h => Bool.noConfusion h, ?_⟩ | refine .inr ⟨fun _ => ⟨[0], _, _, _, ok16n L _ _ hL (by omega) (by omega) (by omega), ⟨rfl, rfl, trivial⟩, rfl, rfl, rfl, rfl, ?_⟩, (by intro h; cases h)⟩ | refine .inr ⟨fun _ => ⟨[0], _, _, _, ok34 L _ hL (by omega), ⟨rfl, rfl, trivial⟩, rfl, rfl, rfl, rfl, ?_⟩, (by intro h; cases h)⟩ | refine .inr ⟨fun _ => ⟨[0], _, _, _, ok17 L _ hL (by omega), ⟨rfl, rfl, trivial⟩, rfl, rfl, rfl, rfl, ?_⟩, (by intro h; cases h)⟩)
      conv => whnf
      refine ⟨fun _ => ⟨by omega, by omega⟩, ?_⟩
      repeat ((conv => whnf); first | refine Cd.seq ?_ | refine Cd.cut ?_ | refine Cd.reg ?_ | refine Cd.block ?_ | refine Cd.cond ?_ | refine Cd.dreg ?_ | refine Cd.skip ?_ | refine Cd.ret ?_ | refine Cd.exit ?_ | refine Cd.loop ?_ | refine ⟨rfl, ?_⟩ | refine ⟨Nat.le_of_ble_eq_true rfl, ?_⟩ | refine ⟨.inl rfl, ?_⟩ | refine ⟨fun h => Bool.noConfusion h, ?_⟩ | refine .inr ⟨fun _ => ⟨[0], _, _, _, ok16n L _ _ hL (by omega) (by omega) (by omega), ⟨rfl, rfl, trivial⟩, rfl, rfl, rfl, rfl, ?_⟩, (by intro h; cases h)⟩ | refine .inr ⟨fun _ => ⟨[0], _, _, _, ok34 L _ hL (by omega), ⟨rfl, rfl, trivial⟩, rfl, rfl, rfl, rfl, ?_⟩, (by intro h; cases h)⟩ | refine .inr ⟨fun _ => ⟨[0], _, _, _, ok17 L _ hL (by omega), ⟨rfl, rfl, trivial⟩, rfl, rfl, rfl, rfl, ?_⟩, (by intro h; cases h)⟩)
      conv => whnf
      refine ⟨by rw [rowsZ_len, Int.toNat_natCast]; omega, ?_⟩
      repeat ((conv => whnf); first | refine Cd.seq ?_ | refine Cd.cut ?_ | refine Cd.reg ?_ | refine Cd.block ?_ | refine Cd.cond ?_ | refine Cd.dreg ?_ | refine Cd.skip ?_ | refine Cd.ret ?_ | refine Cd.exit ?_ | refine Cd.loop ?_ | refine ⟨rfl, ?_⟩ | refine ⟨Nat.le_of_ble_eq_true rfl, ?_⟩ | refine ⟨.inl rfl, ?_⟩ | refine ⟨fun h => Bool.noConfusion h, ?_⟩ | refine .inr ⟨fun _ => ⟨[0], _, _, _, ok16n L _ _ hL (by omega) (by omega) (by omega), ⟨rfl, rfl, trivial⟩, rfl, rfl, rfl, rfl, ?_⟩, (by intro h; cases h)⟩ | refine .inr ⟨fun _ => ⟨[0], _, _, _, ok34 L _ hL (by omega), ⟨rfl, rfl, trivial⟩, rfl, rfl, rfl, rfl, ?_⟩, (by intro h; cases h)⟩ | refine .inr ⟨fun _ => ⟨[0], _, _, _, ok17 L _ hL (by omega), ⟨rfl, rfl, trivial⟩, rfl, rfl, rfl, rfl, ?_⟩, (by intro h; cases h)⟩)
      conv => whnf
      try subst hk
      refine ⟨[some 0], ?_, rfl, ?_, rfl, ?_⟩
      all_goals repeat' (first | exact trivial | rfl | exact .inl rfl | exact .inr rfl | exact id | exact (fun h => Bool.noConfusion h) | refine And.intro ?_ ?_)
      · show 0 + l.length ≤ _
        rw [List.length_set, rowsZ_len]; omega
      · rw [Nat.zero_add, Int.toNat_natCast]
        refine (congrArg (fun r => List.take l.length (List.drop 0 r)) (putLow l i hi _)).trans ?_
        refine (take0 (by rw [rowsZ_len]; simp)).trans ?_
        rfl
    repeat ((conv => whnf); first | refine Cd.seq ?_ | refine Cd.cut ?_ | refine Cd.reg ?_ | refine Cd.block ?_ | refine Cd.cond ?_ | refine Cd.dreg ?_ | refine Cd.skip ?_ | refine Cd.ret ?_ | refine Cd.exit ?_ | refine Cd.loop ?_ | refine ⟨rfl, ?_⟩ | refine ⟨Nat.le_of_ble_eq_true rfl, ?_⟩ | refine ⟨.inl rfl, ?_⟩ | refine ⟨fun h => Bool.noConfusion h, ?_⟩ | refine .inr ⟨fun _ => ⟨[0], _, _, _, ok16n L _ _ hL (by omega) (by omega) (by omega), ⟨rfl, rfl, trivial⟩, rfl, rfl, rfl, rfl, ?_⟩, (by intro h; cases h)⟩ | refine .inr ⟨fun _ => ⟨[0], _, _, _, ok34 L _ hL (by omega), ⟨rfl, rfl, trivial⟩, rfl, rfl, rfl, rfl, ?_⟩, (by intro h; cases h)⟩ | refine .inr ⟨fun _ => ⟨[0], _, _, _, ok17 L _ hL (by omega), ⟨rfl, rfl, trivial⟩, rfl, rfl, rfl, rfl, ?_⟩, (by intro h; cases h)⟩)
    conv => whnf
    refine ⟨fun c3 => ?_, fun c3 => ?_⟩ <;> try simp only [Bool.cond_true_left, Bool.cond_false_right, Bool.not_eq_true', Bool.not_eq_false', Bool.not_not] at c3
    · simp only [spoilZ, c0, c1, c2, c3, cond_true, cond_false] at hk
      subst hk
      have hf := (check_small hc).free _ (List.getElem_mem hi)
      have hb : 1 ≤ 1 + nxV L (nxI L (nxI L (nxI L J))) 30 ∧ 1 + nxV L (nxI L (nxI L (nxI L J))) 30 ≤ 30 := by have := nxV_in L (nxI L (nxI L (nxI L J))) 30 (by decide) (by decide); omega
      generalize hv : 1 + nxV L (nxI L (nxI L (nxI L J))) 30 = v at hb ⊢
      repeat ((conv => whnf); first | refine Cd.seq ?_ | refine Cd.cut ?_ | refine Cd.reg ?_ | refine Cd.block ?_ | refine Cd.cond ?_ | refine Cd.dreg ?_ | refine Cd.skip ?_ | refine Cd.ret ?_ | refine Cd.exit ?_ | refine Cd.loop ?_ | refine ⟨rfl, ?_⟩ | refine ⟨Nat.le_of_ble_eq_true rfl, ?_⟩ | refine ⟨.inl rfl, ?_⟩ | refine ⟨fun h => Bool.noConfusion h, ?_⟩ | refine .inr ⟨fun _ => ⟨[0], _, _, _, ok16n L _ _ hL (by omega) (by omega) (by omega), ⟨rfl, rfl, trivial⟩, rfl, rfl, rfl, rfl, ?_⟩, (by intro h; cases h)⟩ | refine .inr ⟨fun _ => ⟨[0], _, _, _, ok34 L _ hL (by omega), ⟨rfl, rfl, trivial⟩, rfl, rfl, rfl, rfl, ?_⟩, (by intro h; cases h)⟩ | refine .inr ⟨fun _ => ⟨[0], _, _, _, ok17 L _ hL (by omega), ⟨rfl, rfl, trivial⟩, rfl, rfl, rfl, rfl, ?_⟩, (by intro h; cases h)⟩)
      conv => whnf
      refine ⟨Unit, fun _ => True, fun _ => ⟨[(0, ⟨[], true, .ptr 0 0 0⟩), (3, ⟨[], true, .sl 1 0 l.length⟩), (48, ⟨[], true, .sl 1 0 l.length⟩), (49, ⟨[], true, .int .i64 (i : Int)⟩), (60, ⟨[], true, .lst 1 false (rowsI (l[i].free ++ [v]))⟩)], [(0, tpO L (nxI L (nxI L (nxI L (nxI L J))))), (1, .row 6 (rowsZ l))], 2⟩, ?_, fun _ _ => ?_⟩
      · repeat ((conv => whnf); first | refine Cd.seq ?_ | refine Cd.cut ?_ | refine Cd.reg ?_ | refine Cd.block ?_ | refine Cd.cond ?_ | refine Cd.dreg ?_ | refine Cd.skip ?_ | refine Cd.ret ?_ | refine Cd.exit ?_ | refine Cd.loop ?_ | refine ⟨rfl, ?_⟩ | refine ⟨Nat.le_of_ble_eq_true rfl, ?_⟩ | refine ⟨.inl rfl, ?_⟩ | refine ⟨fun h => Bool.noConfusion h, ?_⟩ | refine .inr ⟨fun _ => ⟨[0], _, _, _, ok16n L _ _ hL (by omega) (by omega) (by omega), ⟨rfl, rfl, trivial⟩, rfl, rfl, rfl, rfl, ?_⟩, (by intro h; cases h)⟩ | refine .inr ⟨fun _ => ⟨[0], _, _, _, ok34 L _ hL (by omega), ⟨rfl, rfl, trivial⟩, rfl, rfl, rfl, rfl, ?_⟩, (by intro h; cases h)⟩ | refine .inr ⟨fun _ => ⟨[0], _, _, _, ok17 L _ hL (by omega), ⟨rfl, rfl, trivial⟩, rfl, rfl, rfl, rfl, ?_⟩, (by intro h; cases h)⟩)
        conv => whnf
        refine ⟨fun _ => ⟨by omega, by omega⟩, ?_⟩
        repeat ((conv => whnf); first | refine Cd.seq ?_ | refine Cd.cut ?_ | refine Cd.reg ?_ | refine Cd.block ?_ | refine Cd.cond ?_ | refine Cd.dreg ?_ | refine Cd.skip ?_ | refine Cd.ret ?_ | refine Cd.exit ?_ | refine Cd.loop ?_ | refine ⟨rfl, ?_⟩ | refine ⟨Nat.le_of_ble_eq_true rfl, ?_⟩ | refine ⟨.inl rfl, ?_⟩ | refine ⟨fun h => Bool.noConfusion h, ?_⟩ | refine .inr ⟨fun _ => ⟨[0], _, _, _, ok16n L _ _ hL (by omega) (by omega) (by omega), ⟨rfl, rfl, trivial⟩, rfl, rfl, rfl, rfl, ?_⟩, (by intro h; cases h)⟩ | refine .inr ⟨fun _ => ⟨[0], _, _, _, ok34 L _ hL (by omega), ⟨rfl, rfl, trivial⟩, rfl, rfl, rfl, rfl, ?_⟩, (by intro h; cases h)⟩ | refine .inr ⟨fun _ => ⟨[0], _, _, _, ok17 L _ hL (by omega), ⟨rfl, rfl, trivial⟩, rfl, rfl, rfl, rfl, ?_⟩, (by intro h; cases h)⟩)
        conv => whnf
        refine ⟨fun _ => by rw [rowsZ_len, Int.toNat_natCast]; omega, ?_⟩
        repeat ((conv => whnf); first | refine Cd.seq ?_ | refine Cd.cut ?_ | refine Cd.reg ?_ | refine Cd.block ?_ | refine Cd.cond ?_ | refine Cd.dreg ?_ | refine Cd.skip ?_ | refine Cd.ret ?_ | refine Cd.exit ?_ | refine Cd.loop ?_ | refine ⟨rfl, ?_⟩ | refine ⟨Nat.le_of_ble_eq_true rfl, ?_⟩ | refine ⟨.inl rfl, ?_⟩ | refine ⟨fun h => Bool.noConfusion h, ?_⟩ | refine .inr ⟨fun _ => ⟨[0], _, _, _, ok16n L _ _ hL (by omega) (by omega) (by omega), ⟨rfl, rfl, trivial⟩, rfl, rfl, rfl, rfl, ?_⟩, (by intro h; cases h)⟩ | refine .inr ⟨fun _ => ⟨[0], _, _, _, ok34 L _ hL (by omega), ⟨rfl, rfl, trivial⟩, rfl, rfl, rfl, rfl, ?_⟩, (by intro h; cases h)⟩ | refine .inr ⟨fun _ => ⟨[0], _, _, _, ok17 L _ hL (by omega), ⟨rfl, rfl, trivial⟩, rfl, rfl, rfl, rfl, ?_⟩, (by intro h; cases h)⟩)
        conv => whnf
        rw [Nat.zero_add, Int.toNat_natCast, rowsZ_get l i hi]
        repeat ((conv => whnf); first | refine Cd.seq ?_ | refine Cd.cut ?_ | refine Cd.reg ?_ | refine Cd.block ?_ | refine Cd.cond ?_ | refine Cd.dreg ?_ | refine Cd.skip ?_ | refine Cd.ret ?_ | refine Cd.exit ?_ | refine Cd.loop ?_ | refine ⟨rfl, ?_⟩ | refine ⟨Nat.le_of_ble_eq_true rfl, ?_⟩ | refine ⟨.inl rfl, ?_⟩ | refine ⟨fun h => Bool.noConfusion h, ?_⟩ | refine .inr ⟨fun _ => ⟨[0], _, _, _, ok16n L _ _ hL (by omega) (by omega) (by omega), ⟨rfl, rfl, trivial⟩, rfl, rfl, rfl, rfl, ?_⟩, (by intro h; cases h)⟩ | refine .inr ⟨fun _ => ⟨[0], _, _, _, ok34 L _ hL (by omega), ⟨rfl, rfl, trivial⟩, rfl, rfl, rfl, rfl, ?_⟩, (by intro h; cases h)⟩ | refine .inr ⟨fun _ => ⟨[0], _, _, _, ok17 L _ hL (by omega), ⟨rfl, rfl, trivial⟩, rfl, rfl, rfl, rfl, ?_⟩, (by intro h; cases h)⟩)
        conv => whnf
        rw [rowsI_len]
        refine ⟨by omega, by omega, ?_⟩
        repeat ((conv => whnf); first | refine Cd.seq ?_ | refine Cd.cut ?_ | refine Cd.reg ?_ | refine Cd.block ?_ | refine Cd.cond ?_ | refine Cd.dreg ?_ | refine Cd.skip ?_ | refine Cd.ret ?_ | refine Cd.exit ?_ | refine Cd.loop ?_ | refine ⟨rfl, ?_⟩ | refine ⟨Nat.le_of_ble_eq_true rfl, ?_⟩ | refine ⟨.inl rfl, ?_⟩ | refine ⟨fun h => Bool.noConfusion h, ?_⟩ | refine .inr ⟨fun _ => ⟨[0], _, _, _, ok16n L _ _ hL (by omega) (by omega) (by omega), ⟨rfl, rfl, trivial⟩, rfl, rfl, rfl, rfl, ?_⟩, (by intro h; cases h)⟩ | refine .inr ⟨fun _ => ⟨[0], _, _, _, ok34 L _ hL (by omega), ⟨rfl, rfl, trivial⟩, rfl, rfl, rfl, rfl, ?_⟩, (by intro h; cases h)⟩ | refine .inr ⟨fun _ => ⟨[0], _, _, _, ok17 L _ hL (by omega), ⟨rfl, rfl, trivial⟩, rfl, rfl, rfl, rfl, ?_⟩, (by intro h; cases h)⟩)
        conv => whnf
        rw [hv, wrapI (n := v) (by omega) (by omega)]
        refine ⟨(rowsI_len _).symm, by show (((rowsI l[i].free).length + 1 : Nat) : Int) ≤ _; rw [rowsI_len]; omega, by show ((rowsI l[i].free).length + 1) * 8 ≤ _; rw [rowsI_len]; omega, ?_⟩
        repeat ((conv => whnf); first | refine Cd.seq ?_ | refine Cd.cut ?_ | refine Cd.reg ?_ | refine Cd.block ?_ | refine Cd.cond ?_ | refine Cd.dreg ?_ | refine Cd.skip ?_ | refine Cd.ret ?_ | refine Cd.exit ?_ | refine Cd.loop ?_ | refine ⟨rfl, ?_⟩ | refine ⟨Nat.le_of_ble_eq_true rfl, ?_⟩ | refine ⟨.inl rfl, ?_⟩ | refine ⟨fun h => Bool.noConfusion h, ?_⟩ | refine .inr ⟨fun _ => ⟨[0], _, _, _, ok16n L _ _ hL (by omega) (by omega) (by omega), ⟨rfl, rfl, trivial⟩, rfl, rfl, rfl, rfl, ?_⟩, (by intro h; cases h)⟩ | refine .inr ⟨fun _ => ⟨[0], _, _, _, ok34 L _ hL (by omega), ⟨rfl, rfl, trivial⟩, rfl, rfl, rfl, rfl, ?_⟩, (by intro h; cases h)⟩ | refine .inr ⟨fun _ => ⟨[0], _, _, _, ok17 L _ hL (by omega), ⟨rfl, rfl, trivial⟩, rfl, rfl, rfl, rfl, ?_⟩, (by intro h; cases h)⟩)
        conv => whnf
        refine ⟨(), trivial, ?_⟩
        refine viewI [some 0, some ?k170_1] rfl rfl ?h3_170 ?h4_170 ?h5_170 ?h6_170 ?h7_170
        case' h7_170 => repeat' (first | exact trivial | rfl | exact .inl rfl | exact .inr rfl | exact id | exact (fun h => Bool.noConfusion h) | refine And.intro ?_ ?_)
        case' h4_170 => rfl
        case' h6_170 => rfl
        case' h3_170 => repeat' (first | exact trivial | rfl | exact .inl rfl | exact .inr rfl | exact id | exact (fun h => Bool.noConfusion h) | refine And.intro ?_ ?_)
        case' h5_170 => repeat' (first | exact trivial | rfl | exact .inl rfl | exact .inr rfl | exact id | exact (fun h => Bool.noConfusion h) | refine And.intro ?_ ?_)
        · show 0 + ((rowsI l[i].free).length + 1) ≤ (rowsI l[i].free ++ [[V.int .i64 v]]).length
          rw [rowsI_snoc, rowsI_len, rowsI_len]; simp
        · exact snoc_take l[i].free v
      repeat ((conv => whnf); first | refine Cd.seq ?_ | refine Cd.cut ?_ | refine Cd.reg ?_ | refine Cd.block ?_ | refine Cd.cond ?_ | refine Cd.dreg ?_ | refine Cd.skip ?_ | refine Cd.ret ?_ | refine Cd.exit ?_ | refine Cd.loop ?_ | refine ⟨rfl, ?_⟩ | refine ⟨Nat.le_of_ble_eq_true rfl, ?_⟩ | refine ⟨.inl rfl, ?_⟩ | refine ⟨fun h => Bool.noConfusion h, ?_⟩ | refine .inr ⟨fun _ => ⟨[0], _, _, _, ok16n L _ _ hL (by omega) (by omega) (by omega), ⟨rfl, rfl, trivial⟩, rfl, rfl, rfl, rfl, ?_⟩, (by intro h; cases h)⟩ | refine .inr ⟨fun _ => ⟨[0], _, _, _, ok34 L _ hL (by omega), ⟨rfl, rfl, trivial⟩, rfl, rfl, rfl, rfl, ?_⟩, (by intro h; cases h)⟩ | refine .inr ⟨fun _ => ⟨[0], _, _, _, ok17 L _ hL (by omega), ⟨rfl, rfl, trivial⟩, rfl, rfl, rfl, rfl, ?_⟩, (by intro h; cases h)⟩)
      conv => whnf
      refine ⟨fun _ => ⟨by omega, by omega⟩, ?_⟩
      repeat ((conv => whnf); first | refine Cd.seq ?_ | refine Cd.cut ?_ | refine Cd.reg ?_ | refine Cd.block ?_ | refine Cd.cond ?_ | refine Cd.dreg ?_ | refine Cd.skip ?_ | refine Cd.ret ?_ | refine Cd.exit ?_ | refine Cd.loop ?_ | refine ⟨rfl, ?_⟩ | refine ⟨Nat.le_of_ble_eq_true rfl, ?_⟩ | refine ⟨.inl rfl, ?_⟩ | refine ⟨fun h => Bool.noConfusion h, ?_⟩ | refine .inr ⟨fun _ => ⟨[0], _, _, _, ok16n L _ _ hL (by omega) (by omega) (by omega), ⟨rfl, rfl, trivial⟩, rfl, rfl, rfl, rfl, ?_⟩, (by intro h; cases h)⟩ | refine .inr ⟨fun _ => ⟨[0], _, _, _, ok34 L _ hL (by omega), ⟨rfl, rfl, trivial⟩, rfl, rfl, rfl, rfl, ?_⟩, (by intro h; cases h)⟩ | refine .inr ⟨fun _ => ⟨[0], _, _, _, ok17 L _ hL (by omega), ⟨rfl, rfl, trivial⟩, rfl, rfl, rfl, rfl, ?_⟩, (by intro h; cases h)⟩)
      conv => whnf
      refine ⟨by rw [rowsZ_len, Int.toNat_natCast]; omega, ?_⟩
      repeat ((conv => whnf); first | refine Cd.seq ?_ | refine Cd.cut ?_ | refine Cd.reg ?_ | refine Cd.block ?_ | refine Cd.cond ?_ | refine Cd.dreg ?_ | refine Cd.skip ?_ | refine Cd.ret ?_ | refine Cd.exit ?_ | refine Cd.loop ?_ | refine ⟨rfl, ?_⟩ | refine ⟨Nat.le_of_ble_eq_true rfl, ?_⟩ | refine ⟨.inl rfl, ?_⟩ | refine ⟨fun h => Bool.noConfusion h, ?_⟩ | refine .inr ⟨fun _ => ⟨[0], _, _, _, ok16n L _ _ hL (by omega) (by omega) (by omega), ⟨rfl, rfl, trivial⟩, rfl, rfl, rfl, rfl, ?_⟩, (by intro h; cases h)⟩ | refine .inr ⟨fun _ => ⟨[0], _, _, _, ok34 L _ hL (by omega), ⟨rfl, rfl, trivial⟩, rfl, rfl, rfl, rfl, ?_⟩, (by intro h; cases h)⟩ | refine .inr ⟨fun _ => ⟨[0], _, _, _, ok17 L _ hL (by omega), ⟨rfl, rfl, trivial⟩, rfl, rfl, rfl, rfl, ?_⟩, (by intro h; cases h)⟩)
      conv => whnf
      try subst hk
      refine ⟨[some 0], ?_, rfl, ?_, rfl, ?_⟩
      all_goals repeat' (first | exact trivial | rfl | exact .inl rfl | exact .inr rfl | exact id | exact (fun h => Bool.noConfusion h) | refine And.intro ?_ ?_)
      · show 0 + l.length ≤ _
        rw [List.length_set, rowsZ_len]; omega
      · rw [Nat.zero_add, Int.toNat_natCast]
        refine (congrArg (fun r => List.take l.length (List.drop 0 r)) (putFree l i hi _ false)).trans ?_
        refine (take0 (by rw [rowsZ_len]; simp)).trans ?_
        rfl
    repeat ((conv => whnf); first | refine Cd.seq ?_ | refine Cd.cut ?_ | refine Cd.reg ?_ | refine Cd.block ?_ | refine Cd.cond ?_ | refine Cd.dreg ?_ | refine Cd.skip ?_ | refine Cd.ret ?_ | refine Cd.exit ?_ | refine Cd.loop ?_ | refine ⟨rfl, ?_⟩ | refine ⟨Nat.le_of_ble_eq_true rfl, ?_⟩ | refine ⟨.inl rfl, ?_⟩ | refine ⟨fun h => Bool.noConfusion h, ?_⟩ | refine .inr ⟨fun _ => ⟨[0], _, _, _, ok16n L _ _ hL (by omega) (by omega) (by omega), ⟨rfl, rfl, trivial⟩, rfl, rfl, rfl, rfl, ?_⟩, (by intro h; cases h)⟩ | refine .inr ⟨fun _ => ⟨[0], _, _, _, ok34 L _ hL (by omega), ⟨rfl, rfl, trivial⟩, rfl, rfl, rfl, rfl, ?_⟩, (by intro h; cases h)⟩ | refine .inr ⟨fun _ => ⟨[0], _, _, _, ok17 L _ hL (by omega), ⟨rfl, rfl, trivial⟩, rfl, rfl, rfl, rfl, ?_⟩, (by intro h; cases h)⟩)
    conv => whnf
    refine ⟨fun c4 => ?_, fun c4 => ?_⟩ <;> try simp only [Bool.cond_true_left, Bool.cond_false_right, Bool.not_eq_true', Bool.not_eq_false', Bool.not_not] at c4
    · simp only [spoilZ, c0, c1, c2, c3, c4, cond_true, cond_false] at hk
      subst hk
      have hb := nxV_in L (nxI L (nxI L (nxI L J))) 5 (by decide) (by decide)
      repeat ((conv => whnf); first | refine Cd.seq ?_ | refine Cd.cut ?_ | refine Cd.reg ?_ | refine Cd.block ?_ | refine Cd.cond ?_ | refine Cd.dreg ?_ | refine Cd.skip ?_ | refine Cd.ret ?_ | refine Cd.exit ?_ | refine Cd.loop ?_ | refine ⟨rfl, ?_⟩ | refine ⟨Nat.le_of_ble_eq_true rfl, ?_⟩ | refine ⟨.inl rfl, ?_⟩ | refine ⟨fun h => Bool.noConfusion h, ?_⟩ | refine .inr ⟨fun _ => ⟨[0], _, _, _, ok16n L _ _ hL (by omega) (by omega) (by omega), ⟨rfl, rfl, trivial⟩, rfl, rfl, rfl, rfl, ?_⟩, (by intro h; cases h)⟩ | refine .inr ⟨fun _ => ⟨[0], _, _, _, ok34 L _ hL (by omega), ⟨rfl, rfl, trivial⟩, rfl, rfl, rfl, rfl, ?_⟩, (by intro h; cases h)⟩ | refine .inr ⟨fun _ => ⟨[0], _, _, _, ok17 L _ hL (by omega), ⟨rfl, rfl, trivial⟩, rfl, rfl, rfl, rfl, ?_⟩, (by intro h; cases h)⟩)
      conv => whnf
      rw [wrapI (n := nxV L _ 5 - 1) (by omega) (by omega)]
      refine ⟨fun _ => ⟨by omega, by omega⟩, ?_⟩
      repeat ((conv => whnf); first | refine Cd.seq ?_ | refine Cd.cut ?_ | refine Cd.reg ?_ | refine Cd.block ?_ | refine Cd.cond ?_ | refine Cd.dreg ?_ | refine Cd.skip ?_ | refine Cd.ret ?_ | refine Cd.exit ?_ | refine Cd.loop ?_ | refine ⟨rfl, ?_⟩ | refine ⟨Nat.le_of_ble_eq_true rfl, ?_⟩ | refine ⟨.inl rfl, ?_⟩ | refine ⟨fun h => Bool.noConfusion h, ?_⟩ | refine .inr ⟨fun _ => ⟨[0], _, _, _, ok16n L _ _ hL (by omega) (by omega) (by omega), ⟨rfl, rfl, trivial⟩, rfl, rfl, rfl, rfl, ?_⟩, (by intro h; cases h)⟩ | refine .inr ⟨fun _ => ⟨[0], _, _, _, ok34 L _ hL (by omega), ⟨rfl, rfl, trivial⟩, rfl, rfl, rfl, rfl, ?_⟩, (by intro h; cases h)⟩ | refine .inr ⟨fun _ => ⟨[0], _, _, _, ok17 L _ hL (by omega), ⟨rfl, rfl, trivial⟩, rfl, rfl, rfl, rfl, ?_⟩, (by intro h; cases h)⟩)
      conv => whnf
      refine ⟨by rw [rowsZ_len, Int.toNat_natCast]; omega, ?_⟩
      repeat ((conv => whnf); first | refine Cd.seq ?_ | refine Cd.cut ?_ | refine Cd.reg ?_ | refine Cd.block ?_ | refine Cd.cond ?_ | refine Cd.dreg ?_ | refine Cd.skip ?_ | refine Cd.ret ?_ | refine Cd.exit ?_ | refine Cd.loop ?_ | refine ⟨rfl, ?_⟩ | refine ⟨Nat.le_of_ble_eq_true rfl, ?_⟩ | refine ⟨.inl rfl, ?_⟩ | refine ⟨fun h => Bool.noConfusion h, ?_⟩ | refine .inr ⟨fun _ => ⟨[0], _, _, _, ok16n L _ _ hL (by omega) (by omega) (by omega), ⟨rfl, rfl, trivial⟩, rfl, rfl, rfl, rfl, ?_⟩, (by intro h; cases h)⟩ | refine .inr ⟨fun _ => ⟨[0], _, _, _, ok34 L _ hL (by omega), ⟨rfl, rfl, trivial⟩, rfl, rfl, rfl, rfl, ?_⟩, (by intro h; cases h)⟩ | refine .inr ⟨fun _ => ⟨[0], _, _, _, ok17 L _ hL (by omega), ⟨rfl, rfl, trivial⟩, rfl, rfl, rfl, rfl, ?_⟩, (by intro h; cases h)⟩)
      conv => whnf
      try subst hk
      refine ⟨[some 0], ?_, rfl, ?_, rfl, ?_⟩
      all_goals repeat' (first | exact trivial | rfl | exact .inl rfl | exact .inr rfl | exact id | exact (fun h => Bool.noConfusion h) | refine And.intro ?_ ?_)
      · show 0 + l.length ≤ _
        rw [List.length_set, rowsZ_len]; omega
      · rw [Nat.zero_add, Int.toNat_natCast]
        refine (congrArg (fun r => List.take l.length (List.drop 0 r)) (putMin l i hi _)).trans ?_
        refine (take0 (by rw [rowsZ_len]; simp)).trans ?_
        rfl
    exfalso
    have := nxV_in L (nxI L (nxI L J)) 5 (by decide) (by decide)
    simp only [beq_eq_false_iff_ne] at c0 c1 c2 c3 c4
    omega
  simp only [drawnG, h1, cond_false] at hk
  subst hk
  repeat ((conv => whnf); first | refine Cd.seq ?_ | refine Cd.cut ?_ | refine Cd.reg ?_ | refine Cd.block ?_ | refine Cd.cond ?_ | refine Cd.dreg ?_ | refine Cd.skip ?_ | refine Cd.ret ?_ | refine Cd.exit ?_ | refine Cd.loop ?_ | refine ⟨rfl, ?_⟩ | refine ⟨Nat.le_of_ble_eq_true rfl, ?_⟩ | refine ⟨.inl rfl, ?_⟩ | refine ⟨fun h => Bool.noConfusion h, ?_⟩ | refine .inr ⟨fun _ => ⟨[0], _, _, _, ok16n L _ _ hL (by omega) (by omega) (by omega), ⟨rfl, rfl, trivial⟩, rfl, rfl, rfl, rfl, ?_⟩, (by intro h; cases h)⟩ | refine .inr ⟨fun _ => ⟨[0], _, _, _, ok34 L _ hL (by omega), ⟨rfl, rfl, trivial⟩, rfl, rfl, rfl, rfl, ?_⟩, (by intro h; cases h)⟩ | refine .inr ⟨fun _ => ⟨[0], _, _, _, ok17 L _ hL (by omega), ⟨rfl, rfl, trivial⟩, rfl, rfl, rfl, rfl, ?_⟩, (by intro h; cases h)⟩)
  conv => whnf
  try subst hk
  refine ⟨[some 0], ?_, rfl, ?_, rfl, ?_⟩
  all_goals repeat' (first | exact trivial | rfl | exact .inl rfl | exact .inr rfl | exact id | exact (fun h => Bool.noConfusion h) | refine And.intro ?_ ?_)
  · show 0 + l.length ≤ _
    rw [rowsZ_len]; omega
  · exact take0 (rowsZ_len _)
end Go.Proofs.Ytcifhjkodbaghaa
