/- Stream: drawn, access. -/
import Derived.Test.YteelckbeekgfiaaW13
set_option linter.unusedSimpArgs false
set_option linter.unusedVariables false
namespace Go.Proofs.Yteelckbeekgfiaa
open Go Go.Sk Go.RowKit

/- pagecache/pagecachelaw06.drawn -/
def rc9 : RC :=
  (.seq
  (.reg [⟨(some 2), none, (.mv (.c (.lst 0 true [])))⟩] [])
  (.seq
  (.reg [⟨(some 5), none, (.mv (.t 0))⟩,
    ⟨(some 6), none, (.call 26 [(.t 5)])⟩,
    ⟨(some 7), none, (.app 6 48 (.c (.lst 0 true [])) (.t 6))⟩,
    ⟨(some 3), none, (.mv (.t 7))⟩] [5, 6, 7])
  (.seq
  (.seq
  (.reg [⟨(some 8), none, (.mv (.t 3))⟩,
    ⟨(some 9), none, (.len (.t 8))⟩,
    ⟨(some 10), none, (.bin .gtr (.t 9) (.c (.int .i64 0)))⟩,
    ⟨(some 11), none, (.mv (.t 10))⟩,
    ⟨(some 12), (some (11, true)), (.mv (.t 0))⟩,
    ⟨(some 13), (some (11, true)), (.call 25 [(.t 12), (.c (.int .i64 6))])⟩,
    ⟨(some 14), (some (11, true)), (.bin .eql (.t 13) (.c (.int .i64 0)))⟩,
    ⟨(some 15), none, (.pick (.t 11) (.t 14) (.c (.bool false)))⟩] [8, 9, 10, 11, 12, 13, 14])
  (.cond (.t 15)
   (.seq
   (.reg [⟨(some 16), none, (.mv (.t 0))⟩,
     ⟨(some 17), none, (.mv (.t 3))⟩,
     ⟨(some 18), none, (.len (.t 17))⟩,
     ⟨(some 19), none, (.call 25 [(.t 16), (.t 18)])⟩,
     ⟨(some 4), none, (.mv (.t 19))⟩] [16, 17, 18, 19])
   (.seq
   (.reg [⟨(some 20), none, (.mv (.t 0))⟩,
     ⟨(some 21), none, (.call 25 [(.t 20), (.c (.int .i64 6))])⟩] [20])
   (.block 0
    (.seq
    (.reg [⟨(some 23), none, (.bin .eql (.t 21) (.c (.int .i64 0)))⟩,
      ⟨(some 22), none, (.mv (.t 23))⟩] [23])
    (.cond (.t 22)
     (.reg [⟨(some 24), none, (.mv (.t 3))⟩,
       ⟨(some 25), none, (.mv (.t 4))⟩,
       ⟨(some 26), none, (.mv (.t 0))⟩,
       ⟨(some 27), none, (.call 25 [(.t 26), (.c (.int .i64 6))])⟩,
       ⟨(some 28), none, (.iaddr 6 (.t 24) (.t 25))⟩,
       ⟨(some 29), none, (.faddr 0 (.t 28))⟩,
       ⟨none, none, (.st 1 (.t 29) (.t 27))⟩] [24, 25, 26, 27, 28, 29])
     (.seq
     (.reg [⟨(some 31), none, (.bin .eql (.t 21) (.c (.int .i64 1)))⟩,
       ⟨(some 30), none, (.mv (.t 31))⟩] [31])
     (.cond (.t 30)
      (.reg [⟨(some 32), none, (.mv (.t 3))⟩,
        ⟨(some 33), none, (.mv (.t 4))⟩,
        ⟨(some 34), none, (.mv (.t 0))⟩,
        ⟨(some 35), none, (.call 27 [(.t 34)])⟩,
        ⟨(some 36), none, (.iaddr 6 (.t 32) (.t 33))⟩,
        ⟨(some 37), none, (.faddr 4 (.t 36))⟩,
        ⟨none, none, (.st 1 (.t 37) (.t 35))⟩] [32, 33, 34, 35, 36, 37])
      (.seq
      (.reg [⟨(some 39), none, (.bin .eql (.t 21) (.c (.int .i64 2)))⟩,
        ⟨(some 38), none, (.mv (.t 39))⟩] [39])
      (.cond (.t 38)
       (.reg [⟨(some 40), none, (.mv (.t 3))⟩,
         ⟨(some 41), none, (.mv (.t 4))⟩,
         ⟨(some 42), none, (.mv (.t 0))⟩,
         ⟨(some 43), none, (.call 27 [(.t 42)])⟩,
         ⟨(some 44), none, (.iaddr 6 (.t 40) (.t 41))⟩,
         ⟨(some 45), none, (.faddr 5 (.t 44))⟩,
         ⟨none, none, (.st 1 (.t 45) (.t 43))⟩] [40, 41, 42, 43, 44, 45])
       (.seq
       (.reg [⟨(some 47), none, (.bin .eql (.t 21) (.c (.int .i64 3)))⟩,
         ⟨(some 46), none, (.mv (.t 47))⟩] [47])
       (.cond (.t 46)
        (.reg [⟨(some 48), none, (.mv (.t 3))⟩,
          ⟨(some 49), none, (.mv (.t 4))⟩,
          ⟨(some 50), none, (.mv (.t 0))⟩,
          ⟨(some 51), none, (.call 25 [(.t 50), (.c (.int .i64 20))])⟩,
          ⟨(some 52), none, (.bin .sub (.t 51) (.c (.int .i64 10)))⟩,
          ⟨(some 53), none, (.iaddr 6 (.t 48) (.t 49))⟩,
          ⟨(some 54), none, (.faddr 3 (.t 53))⟩,
          ⟨none, none, (.st 1 (.t 54) (.t 52))⟩] [48, 49, 50, 51, 52, 53, 54])
        (.seq
        (.reg [⟨(some 56), none, (.bin .eql (.t 21) (.c (.int .i64 4)))⟩,
          ⟨(some 55), none, (.mv (.t 56))⟩] [56])
        (.cond (.t 55)
         (.reg [⟨(some 57), none, (.mv (.t 3))⟩,
           ⟨(some 58), none, (.mv (.t 4))⟩,
           ⟨(some 59), none, (.mv (.t 0))⟩,
           ⟨(some 60), none, (.call 27 [(.t 59)])⟩,
           ⟨(some 61), none, (.iaddr 6 (.t 57) (.t 58))⟩,
           ⟨(some 62), none, (.faddr 2 (.t 61))⟩,
           ⟨none, none, (.st 1 (.t 62) (.t 60))⟩] [57, 58, 59, 60, 61, 62])
         (.seq
         (.reg [⟨(some 64), none, (.bin .eql (.t 21) (.c (.int .i64 5)))⟩,
           ⟨(some 63), none, (.mv (.t 64))⟩] [64])
         (.cond (.t 63)
          (.reg [⟨(some 65), none, (.mv (.t 3))⟩,
            ⟨(some 66), none, (.mv (.t 4))⟩,
            ⟨(some 67), none, (.mv (.t 0))⟩,
            ⟨(some 68), none, (.call 27 [(.t 67)])⟩,
            ⟨(some 69), none, (.iaddr 6 (.t 65) (.t 66))⟩,
            ⟨(some 70), none, (.faddr 1 (.t 69))⟩,
            ⟨none, none, (.st 1 (.t 70) (.t 68))⟩] [65, 66, 67, 68, 69, 70])
          .skip)))))))))))))))
   .skip))
  (.seq
  (.reg [⟨(some 71), none, (.mv (.t 3))⟩,
    ⟨(some 2), none, (.mv (.t 71))⟩] [71])
  .ret))))
theorem rcq9 : resC Go.Proofs.Try.prog Go.Proofs.Try.f9.ntmps ((Go.Proofs.Try.f9.body).getD .skip) = some (strip rc9) := by kernel_rfl
def rv9 : List RV := [(.tmp 2)]
theorem rvq9 : Go.Proofs.Try.f9.results.toList.mapM (resRV Go.Proofs.Try.prog) = some rv9 := by kernel_rfl

/- pagecache/pagecachelaw06.access -/
def rc10 : RC :=
  (.seq
  (.reg [⟨(some 4), none, (.mv (.c (.int .i64 0)))⟩,
    ⟨(some 5), none, (.mv (.c (.int .i64 0)))⟩] [])
  (.seq
  (.reg [⟨(some 8), none, (.mv (.t 0))⟩,
    ⟨(some 9), none, (.call 25 [(.t 8), (.c (.int .i64 40))])⟩,
    ⟨(some 6), none, (.mv (.t 9))⟩] [8, 9])
  (.seq
  (.seq
  (.reg [⟨(some 10), none, (.mv (.t 1))⟩,
    ⟨(some 11), none, (.len (.t 10))⟩,
    ⟨(some 12), none, (.bin .gtr (.t 11) (.c (.int .i64 0)))⟩,
    ⟨(some 13), none, (.mv (.t 12))⟩,
    ⟨(some 14), (some (13, true)), (.mv (.t 0))⟩,
    ⟨(some 15), (some (13, true)), (.call 25 [(.t 14), (.c (.int .i64 4))])⟩,
    ⟨(some 16), (some (13, true)), (.bin .gtr (.t 15) (.c (.int .i64 0)))⟩,
    ⟨(some 17), none, (.pick (.t 13) (.t 16) (.c (.bool false)))⟩] [10, 11, 12, 13, 14, 15, 16])
  (.cond (.t 17)
   (.seq
   (.reg [⟨(some 18), none, (.mv (.t 1))⟩,
     ⟨(some 19), none, (.mv (.t 0))⟩,
     ⟨(some 20), none, (.mv (.t 1))⟩,
     ⟨(some 21), none, (.len (.t 20))⟩,
     ⟨(some 22), none, (.call 25 [(.t 19), (.t 21)])⟩,
     ⟨(some 23), none, (.iaddr 6 (.t 18) (.t 22))⟩,
     ⟨(some 24), none, (.ld true 6 (.t 23))⟩,
     ⟨(some 7), none, (.alloc [(.int .i64 0), (.int .i64 0), (.int .i64 0), (.int .i64 0), (.int .i64 0), (.int .i64 0)])⟩,
     ⟨none, none, (.st 6 (.t 7) (.t 24))⟩] [18, 19, 20, 21, 22, 23, 24])
   (.dreg 5120 5648 [⟨(some 25), none, (.faddr 2 (.t 7))⟩,
     ⟨(some 26), none, (.ld false 1 (.t 25))⟩,
     ⟨(some 27), none, (.faddr 2 (.t 7))⟩,
     ⟨(some 28), none, (.ld false 1 (.t 27))⟩,
     ⟨(some 29), none, (.bin .sub (.t 28) (.c (.int .i64 1)))⟩,
     ⟨(some 30), none, (.faddr 1 (.t 7))⟩,
     ⟨(some 31), none, (.ld false 1 (.t 30))⟩,
     ⟨(some 32), none, (.bin .sub (.t 31) (.c (.int .i64 1)))⟩,
     ⟨(some 33), none, (.faddr 1 (.t 7))⟩,
     ⟨(some 34), none, (.ld false 1 (.t 33))⟩,
     ⟨(some 35), none, (.bin .sub (.t 34) (.c (.int .i64 2)))⟩,
     ⟨(some 36), none, (.faddr 1 (.t 7))⟩,
     ⟨(some 37), none, (.ld false 1 (.t 36))⟩,
     ⟨(some 38), none, (.faddr 3 (.t 7))⟩,
     ⟨(some 39), none, (.ld false 1 (.t 38))⟩,
     ⟨(some 40), none, (.bin .add (.t 37) (.t 39))⟩,
     ⟨(some 41), none, (.faddr 1 (.t 7))⟩,
     ⟨(some 42), none, (.ld false 1 (.t 41))⟩,
     ⟨(some 43), none, (.faddr 1 (.t 7))⟩,
     ⟨(some 44), none, (.ld false 1 (.t 43))⟩,
     ⟨(some 45), none, (.bin .add (.t 44) (.c (.int .i64 2)))⟩,
     ⟨(some 46), none, (.faddr 1 (.t 7))⟩,
     ⟨(some 47), none, (.ld false 1 (.t 46))⟩,
     ⟨(some 48), none, (.bin .add (.t 47) (.c (.int .i64 8)))⟩,
     ⟨(some 49), none, (.faddr 1 (.t 7))⟩,
     ⟨(some 50), none, (.ld false 1 (.t 49))⟩,
     ⟨(some 51), none, (.bin .sub (.t 50) (.c (.int .i64 8)))⟩,
     ⟨(some 52), none, (.bslice 1 [(.int .i64 0)] 9 [(0, (.t 26)), (1, (.t 29)), (2, (.t 32)), (3, (.t 35)), (4, (.t 40)), (5, (.t 42)), (6, (.t 45)), (7, (.t 48)), (8, (.t 51))])⟩,
     ⟨(some 53), none, (.mv (.t 0))⟩,
     ⟨(some 54), none, (.call 25 [(.t 53), (.c (.int .i64 9))])⟩,
     ⟨(some 55), none, (.iaddr 1 (.t 52) (.t 54))⟩,
     ⟨(some 56), none, (.ld false 1 (.t 55))⟩,
     ⟨(some 6), none, (.mv (.t 56))⟩] [25, 26, 27, 28, 29, 30, 31, 32, 33, 34, 35, 36, 37, 38, 39, 40, 41, 42, 43, 44, 45, 46, 47, 48, 49, 50, 51, 52, 53, 54, 55, 56] [[], [0], [], [2], [3, 2], [], [5], [6, 5], [], [8], [9, 8], [], [11], [], [13], [12, 11, 14, 13], [], [16], [], [18], [19, 18], [], [21], [22, 21], [], [24], [25, 24], [1, 0, 4, 3, 2, 7, 6, 5, 10, 9, 8, 15, 12, 11, 14, 13, 17, 16, 20, 19, 18, 23, 22, 21, 26, 25, 24], [], [28], [27, 1, 0, 4, 3, 2, 7, 6, 5, 10, 9, 8, 15, 12, 11, 14, 13, 17, 16, 20, 19, 18, 23, 22, 21, 26, 25, 24, 29, 28], [30, 27, 1, 0, 4, 3, 2, 7, 6, 5, 10, 9, 8, 15, 12, 11, 14, 13, 17, 16, 20, 19, 18, 23, 22, 21, 26, 25, 24, 29, 28], [31, 30, 27, 1, 0, 4, 3, 2, 7, 6, 5, 10, 9, 8, 15, 12, 11, 14, 13, 17, 16, 20, 19, 18, 23, 22, 21, 26, 25, 24, 29, 28]] [5120, 5136, 5152, 5168, 5184, 5200, 5216, 5232, 5248, 5264, 5280, 5296, 5312, 5328, 5344, 5360, 5376, 5392, 5408, 5424, 5440, 5456, 5472, 5488, 5504, 5520, 5536, 5552, 5568, 5584, 5600, 5616, 5632]))
   .skip))
  (.seq
  (.seq
  (.reg [⟨(some 57), none, (.mv (.t 0))⟩,
    ⟨(some 58), none, (.call 25 [(.t 57), (.c (.int .i64 16))])⟩,
    ⟨(some 59), none, (.bin .eql (.t 58) (.c (.int .i64 0)))⟩] [57, 58])
  (.cond (.t 59)
   (.seq
   (.reg [⟨(some 60), none, (.mv (.t 0))⟩,
     ⟨(some 61), none, (.call 27 [(.t 60)])⟩,
     ⟨(some 62), none, (.mv (.t 0))⟩,
     ⟨(some 63), none, (.call 27 [(.t 62)])⟩,
     ⟨(some 4), none, (.mv (.t 61))⟩,
     ⟨(some 5), none, (.mv (.t 63))⟩] [60, 61, 62, 63])
   .ret)
   .skip))
  (.seq
  (.reg [⟨(some 64), none, (.mv (.t 6))⟩,
    ⟨(some 65), none, (.mv (.t 6))⟩,
    ⟨(some 66), none, (.mv (.t 0))⟩,
    ⟨(some 67), none, (.call 25 [(.t 66), (.c (.int .i64 5))])⟩,
    ⟨(some 68), none, (.bin .add (.t 65) (.t 67))⟩,
    ⟨(some 4), none, (.mv (.t 64))⟩,
    ⟨(some 5), none, (.mv (.t 68))⟩] [64, 65, 66, 67, 68])
  .ret)))))
theorem rcq10 : resC Go.Proofs.Try.prog Go.Proofs.Try.f10.ntmps ((Go.Proofs.Try.f10.body).getD .skip) = some (strip rc10) := by kernel_rfl
def rv10 : List RV := [(.tmp 4), (.tmp 5)]
theorem rvq10 : Go.Proofs.Try.f10.results.toList.mapM (resRV Go.Proofs.Try.prog) = some rv10 := by kernel_rfl

theorem streamsF_in (L : List Int) (I : Nat) (hI : I ≤ L.length) : (streamsF L I).1.length ≤ 4 ∧ (streamsF L I).2 ≤ L.length := by
  have key : ∀ (n : Nat) (l : List Stm) (J : Nat), l.length ≤ 4 → J ≤ L.length → (streamsLoop L n l J).1.length ≤ 4 ∧ (streamsLoop L n l J).2 ≤ L.length := by
    intro n
    induction n with
    | zero => intro l J h1 h2; exact ⟨h1, h2⟩
    | succ n ih =>
      intro l J h1 h2
      refine ih _ _ (feedR_len4 _ _ _ h1) (nxI_in L _ ?_)
      unfold fromG
      cases decide (0 < (l.length : Int)) <;> cases decide (0 < nxV L (nxI L J) 3) <;> simp only [cond_true, cond_false]
      · exact nxI_in L _ h2
      · exact nxI_in L _ h2
      · exact nxI_in L _ (nxI_in L _ h2)
      · exact nxI_in L _ (nxI_in L _ (nxI_in L _ (nxI_in L _ h2)))
  exact key _ _ _ (by simp) (nxI_in L I hI)
def spoil (L : List Int) (s : Stm) (I : Nat) (c : Int) : Stm :=
  bif c == 0 then ⟨nxV L I 6, s.start, s.stop, s.step, s.hits, s.stamp⟩ else
  bif c == 1 then ⟨s.kind, s.start, s.stop, s.step, oddF L I, s.stamp⟩ else
  bif c == 2 then ⟨s.kind, s.start, s.stop, s.step, s.hits, oddF L I⟩ else
  bif c == 3 then ⟨s.kind, s.start, s.stop, IntKind.i64.wrap (nxV L I 20 - 10), s.hits, s.stamp⟩ else
  bif c == 4 then ⟨s.kind, s.start, oddF L I, s.step, s.hits, s.stamp⟩ else
  ⟨s.kind, oddF L I, s.stop, s.step, s.hits, s.stamp⟩
def drawnF (L : List Int) (I : Nat) : List Stm × Nat :=
  bif decide (0 < ((streamsF L I).1.length : Int)) then
    bif nxV L (streamsF L I).2 6 == 0 then
      ((streamsF L I).1.set (nxV L (nxI L (streamsF L I).2) (streamsF L I).1.length).toNat
        (spoil L (nthS (streamsF L I).1 (nxV L (nxI L (streamsF L I).2) (streamsF L I).1.length)) (nxI L (nxI L (nxI L (streamsF L I).2))) (nxV L (nxI L (nxI L (streamsF L I).2)) 6)),
       nxI L (nxI L (nxI L (nxI L (streamsF L I).2))))
    else ((streamsF L I).1, nxI L (streamsF L I).2)
  else ((streamsF L I).1, (streamsF L I).2)
theorem out_put (l : List Stm) (j : Int) (h0 : 0 ≤ j) (h : j < l.length) (off : Nat) (cs : List V) (s : Stm) (he : putCells 6 (nthS l j).c off cs = s.c) :
    (((rowsS l).set (0 + j.toNat) (putCells 6 ((rowsS l).getD (0 + j.toNat) []) off cs)).drop 0).take l.length = rowsS (l.set j.toNat s) := by
  rw [rowsS_getZ l j h0 h]
  have : (l.getD j.toNat zeroS) = nthS l j := rfl
  rw [this, he]
  exact out_set l j.toNat s
set_option maxRecDepth 20000 in
theorem ok9 (L : List Int) (I : Nat) (hL : (L.length : Int) < 2 ^ 62) (hI : I ≤ L.length) : FnC Try.prog 9 [tpO L I] [.ptr 0 0 0] (.lst 6 false (rowsS (drawnF L I).1)) [tpO L (drawnF L I).2] := by
  refine fn_okC (ob0 := [tpO L I]) (rc := rc9) (rvs := rv9) Try.func9 rfl rcq9 rvq9 (show 1 ≤ _ by decide) ?_
  generalize hk : drawnF L I = q
  obtain ⟨b1, b2⟩ := streamsF_in L I hI
  unfold drawnF at hk
  repeat ((conv => whnf); first | refine Cd.seq ?_ | refine Cd.reg ?_ | refine Cd.block ?_ | refine Cd.cond ?_ | refine Cd.dreg ?_ | refine Cd.skip ?_ | refine Cd.ret ?_ | refine Cd.exit ?_ | refine Cd.loop ?_ | refine ⟨rfl, ?_⟩ | refine ⟨Nat.le_of_ble_eq_true rfl, ?_⟩ | refine ⟨.inl rfl, ?_⟩ | refine .inr ⟨fun _ => ⟨[0], _, _, _, ok25n L _ _ hL (by omega) (by omega) (by omega), ⟨rfl, rfl, trivial⟩, rfl, rfl, rfl, rfl, ?_⟩, (by intro h; cases h)⟩ | refine .inr ⟨fun _ => ⟨[0], _, _, _, ok27 L _ hL (by omega), ⟨rfl, rfl, trivial⟩, rfl, rfl, rfl, rfl, ?_⟩, (by intro h; cases h)⟩)
  conv => whnf
  refine .inr ⟨fun _ => ⟨[0], _, _, _, ok26 L I hL hI, ⟨rfl, rfl, trivial⟩, rfl, rfl, rfl, rfl, ?_⟩, (by intro h; cases h)⟩
  revert hk b1 b2
  generalize (streamsF L I).1 = l
  generalize (streamsF L I).2 = J
  intro hk b1 b2
  have a1 := nxI_in L _ b2
  have a2 := nxI_in L _ a1
  have a3 := nxI_in L _ a2
  have a4 := nxI_in L _ a3
  have hc := nxV_in L (nxI L (nxI L J)) 6 (by omega) (by omega)
  repeat ((conv => whnf); first | refine Cd.seq ?_ | refine Cd.reg ?_ | refine Cd.block ?_ | refine Cd.cond ?_ | refine Cd.dreg ?_ | refine Cd.skip ?_ | refine Cd.ret ?_ | refine Cd.exit ?_ | refine Cd.loop ?_ | refine ⟨rfl, ?_⟩ | refine ⟨Nat.le_of_ble_eq_true rfl, ?_⟩ | refine ⟨.inl rfl, ?_⟩ | refine .inr ⟨fun _ => ⟨[0], _, _, _, ok25n L _ _ hL (by omega) (by omega) (by omega), ⟨rfl, rfl, trivial⟩, rfl, rfl, rfl, rfl, ?_⟩, (by intro h; cases h)⟩ | refine .inr ⟨fun _ => ⟨[0], _, _, _, ok27 L _ hL (by omega), ⟨rfl, rfl, trivial⟩, rfl, rfl, rfl, rfl, ?_⟩, (by intro h; cases h)⟩)
  conv => whnf
  rw [rowsS_len]
  refine ⟨by omega, by omega, ?_⟩
  repeat ((conv => whnf); first | refine Cd.seq ?_ | refine Cd.reg ?_ | refine Cd.block ?_ | refine Cd.cond ?_ | refine Cd.dreg ?_ | refine Cd.skip ?_ | refine Cd.ret ?_ | refine Cd.exit ?_ | refine Cd.loop ?_ | refine ⟨rfl, ?_⟩ | refine ⟨Nat.le_of_ble_eq_true rfl, ?_⟩ | refine ⟨.inl rfl, ?_⟩ | refine .inr ⟨fun _ => ⟨[0], _, _, _, ok25n L _ _ hL (by omega) (by omega) (by omega), ⟨rfl, rfl, trivial⟩, rfl, rfl, rfl, rfl, ?_⟩, (by intro h; cases h)⟩ | refine .inr ⟨fun _ => ⟨[0], _, _, _, ok27 L _ hL (by omega), ⟨rfl, rfl, trivial⟩, rfl, rfl, rfl, rfl, ?_⟩, (by intro h; cases h)⟩)
  conv => whnf
  refine .inr ⟨fun hg => ⟨[0], _, _, _, ok25n L _ _ hL b2 (by omega) (by omega), ⟨rfl, rfl, trivial⟩, rfl, rfl, rfl, rfl, ?_⟩, fun hg => ?_⟩
  · have hg' : 0 < l.length := by simp at hg; omega
    have hw := nxV_in L (nxI L J) l.length (by omega) (by omega)
    simp only [hg]
    repeat ((conv => whnf); first | refine Cd.seq ?_ | refine Cd.reg ?_ | refine Cd.block ?_ | refine Cd.cond ?_ | refine Cd.dreg ?_ | refine Cd.skip ?_ | refine Cd.ret ?_ | refine Cd.exit ?_ | refine Cd.loop ?_ | refine ⟨rfl, ?_⟩ | refine ⟨Nat.le_of_ble_eq_true rfl, ?_⟩ | refine ⟨.inl rfl, ?_⟩ | refine .inr ⟨fun _ => ⟨[0], _, _, _, ok25n L _ _ hL (by omega) (by omega) (by omega), ⟨rfl, rfl, trivial⟩, rfl, rfl, rfl, rfl, ?_⟩, (by intro h; cases h)⟩ | refine .inr ⟨fun _ => ⟨[0], _, _, _, ok27 L _ hL (by omega), ⟨rfl, rfl, trivial⟩, rfl, rfl, rfl, rfl, ?_⟩, (by intro h; cases h)⟩)
    conv => whnf
    refine ⟨fun hb => ?_, fun hb => ?_⟩ <;> try simp only [Bool.cond_true_left, Bool.cond_false_right, Bool.not_eq_true', Bool.not_eq_false', Bool.not_not] at hb
    · simp only [Bool.true_and] at hb
      repeat ((conv => whnf); first | refine Cd.seq ?_ | refine Cd.reg ?_ | refine Cd.block ?_ | refine Cd.cond ?_ | refine Cd.dreg ?_ | refine Cd.skip ?_ | refine Cd.ret ?_ | refine Cd.exit ?_ | refine Cd.loop ?_ | refine ⟨rfl, ?_⟩ | refine ⟨Nat.le_of_ble_eq_true rfl, ?_⟩ | refine ⟨.inl rfl, ?_⟩ | refine .inr ⟨fun _ => ⟨[0], _, _, _, ok25n L _ _ hL (by omega) (by omega) (by omega), ⟨rfl, rfl, trivial⟩, rfl, rfl, rfl, rfl, ?_⟩, (by intro h; cases h)⟩ | refine .inr ⟨fun _ => ⟨[0], _, _, _, ok27 L _ hL (by omega), ⟨rfl, rfl, trivial⟩, rfl, rfl, rfl, rfl, ?_⟩, (by intro h; cases h)⟩)
      conv => whnf
      refine ⟨fun c0 => ?_, fun c0 => ?_⟩ <;> try simp only [Bool.cond_true_left, Bool.cond_false_right, Bool.not_eq_true', Bool.not_eq_false', Bool.not_not] at c0
      · repeat ((conv => whnf); first | refine Cd.seq ?_ | refine Cd.reg ?_ | refine Cd.block ?_ | refine Cd.cond ?_ | refine Cd.dreg ?_ | refine Cd.skip ?_ | refine Cd.ret ?_ | refine Cd.exit ?_ | refine Cd.loop ?_ | refine ⟨rfl, ?_⟩ | refine ⟨Nat.le_of_ble_eq_true rfl, ?_⟩ | refine ⟨.inl rfl, ?_⟩ | refine .inr ⟨fun _ => ⟨[0], _, _, _, ok25n L _ _ hL (by omega) (by omega) (by omega), ⟨rfl, rfl, trivial⟩, rfl, rfl, rfl, rfl, ?_⟩, (by intro h; cases h)⟩ | refine .inr ⟨fun _ => ⟨[0], _, _, _, ok27 L _ hL (by omega), ⟨rfl, rfl, trivial⟩, rfl, rfl, rfl, rfl, ?_⟩, (by intro h; cases h)⟩)
        conv => whnf
        refine ⟨fun _ => ⟨hw.1, by omega⟩, ?_⟩
        repeat ((conv => whnf); first | refine Cd.seq ?_ | refine Cd.reg ?_ | refine Cd.block ?_ | refine Cd.cond ?_ | refine Cd.dreg ?_ | refine Cd.skip ?_ | refine Cd.ret ?_ | refine Cd.exit ?_ | refine Cd.loop ?_ | refine ⟨rfl, ?_⟩ | refine ⟨Nat.le_of_ble_eq_true rfl, ?_⟩ | refine ⟨.inl rfl, ?_⟩ | refine .inr ⟨fun _ => ⟨[0], _, _, _, ok25n L _ _ hL (by omega) (by omega) (by omega), ⟨rfl, rfl, trivial⟩, rfl, rfl, rfl, rfl, ?_⟩, (by intro h; cases h)⟩ | refine .inr ⟨fun _ => ⟨[0], _, _, _, ok27 L _ hL (by omega), ⟨rfl, rfl, trivial⟩, rfl, rfl, rfl, rfl, ?_⟩, (by intro h; cases h)⟩)
        conv => whnf
        refine ⟨by rw [rowsS_len]; omega, ?_⟩
        repeat ((conv => whnf); first | refine Cd.seq ?_ | refine Cd.reg ?_ | refine Cd.block ?_ | refine Cd.cond ?_ | refine Cd.dreg ?_ | refine Cd.skip ?_ | refine Cd.ret ?_ | refine Cd.exit ?_ | refine Cd.loop ?_ | refine ⟨rfl, ?_⟩ | refine ⟨Nat.le_of_ble_eq_true rfl, ?_⟩ | refine ⟨.inl rfl, ?_⟩ | refine .inr ⟨fun _ => ⟨[0], _, _, _, ok25n L _ _ hL (by omega) (by omega) (by omega), ⟨rfl, rfl, trivial⟩, rfl, rfl, rfl, rfl, ?_⟩, (by intro h; cases h)⟩ | refine .inr ⟨fun _ => ⟨[0], _, _, _, ok27 L _ hL (by omega), ⟨rfl, rfl, trivial⟩, rfl, rfl, rfl, rfl, ?_⟩, (by intro h; cases h)⟩)
        conv => whnf
        try subst hk
        simp only [hg, hb, c0, spoil, cond_true, cond_false, Bool.not_true, Bool.not_false]
        refine ⟨[some 0], ?_, rfl, ?_, rfl, ?_⟩
        all_goals repeat' (first | exact trivial | rfl | exact .inl rfl | exact .inr rfl | exact id | exact (fun h => Bool.noConfusion h) | refine And.intro ?_ ?_)
        · exact out_le' l _ _
        · exact out_put l _ hw.1 hw.2 0 _ _ rfl
      repeat ((conv => whnf); first | refine Cd.seq ?_ | refine Cd.reg ?_ | refine Cd.block ?_ | refine Cd.cond ?_ | refine Cd.dreg ?_ | refine Cd.skip ?_ | refine Cd.ret ?_ | refine Cd.exit ?_ | refine Cd.loop ?_ | refine ⟨rfl, ?_⟩ | refine ⟨Nat.le_of_ble_eq_true rfl, ?_⟩ | refine ⟨.inl rfl, ?_⟩ | refine .inr ⟨fun _ => ⟨[0], _, _, _, ok25n L _ _ hL (by omega) (by omega) (by omega), ⟨rfl, rfl, trivial⟩, rfl, rfl, rfl, rfl, ?_⟩, (by intro h; cases h)⟩ | refine .inr ⟨fun _ => ⟨[0], _, _, _, ok27 L _ hL (by omega), ⟨rfl, rfl, trivial⟩, rfl, rfl, rfl, rfl, ?_⟩, (by intro h; cases h)⟩)
      conv => whnf
      refine ⟨fun c1 => ?_, fun c1 => ?_⟩ <;> try simp only [Bool.cond_true_left, Bool.cond_false_right, Bool.not_eq_true', Bool.not_eq_false', Bool.not_not] at c1
      · repeat ((conv => whnf); first | refine Cd.seq ?_ | refine Cd.reg ?_ | refine Cd.block ?_ | refine Cd.cond ?_ | refine Cd.dreg ?_ | refine Cd.skip ?_ | refine Cd.ret ?_ | refine Cd.exit ?_ | refine Cd.loop ?_ | refine ⟨rfl, ?_⟩ | refine ⟨Nat.le_of_ble_eq_true rfl, ?_⟩ | refine ⟨.inl rfl, ?_⟩ | refine .inr ⟨fun _ => ⟨[0], _, _, _, ok25n L _ _ hL (by omega) (by omega) (by omega), ⟨rfl, rfl, trivial⟩, rfl, rfl, rfl, rfl, ?_⟩, (by intro h; cases h)⟩ | refine .inr ⟨fun _ => ⟨[0], _, _, _, ok27 L _ hL (by omega), ⟨rfl, rfl, trivial⟩, rfl, rfl, rfl, rfl, ?_⟩, (by intro h; cases h)⟩)
        conv => whnf
        refine ⟨fun _ => ⟨hw.1, by omega⟩, ?_⟩
        repeat ((conv => whnf); first | refine Cd.seq ?_ | refine Cd.reg ?_ | refine Cd.block ?_ | refine Cd.cond ?_ | refine Cd.dreg ?_ | refine Cd.skip ?_ | refine Cd.ret ?_ | refine Cd.exit ?_ | refine Cd.loop ?_ | refine ⟨rfl, ?_⟩ | refine ⟨Nat.le_of_ble_eq_true rfl, ?_⟩ | refine ⟨.inl rfl, ?_⟩ | refine .inr ⟨fun _ => ⟨[0], _, _, _, ok25n L _ _ hL (by omega) (by omega) (by omega), ⟨rfl, rfl, trivial⟩, rfl, rfl, rfl, rfl, ?_⟩, (by intro h; cases h)⟩ | refine .inr ⟨fun _ => ⟨[0], _, _, _, ok27 L _ hL (by omega), ⟨rfl, rfl, trivial⟩, rfl, rfl, rfl, rfl, ?_⟩, (by intro h; cases h)⟩)
        conv => whnf
        refine ⟨by rw [rowsS_len]; omega, ?_⟩
        repeat ((conv => whnf); first | refine Cd.seq ?_ | refine Cd.reg ?_ | refine Cd.block ?_ | refine Cd.cond ?_ | refine Cd.dreg ?_ | refine Cd.skip ?_ | refine Cd.ret ?_ | refine Cd.exit ?_ | refine Cd.loop ?_ | refine ⟨rfl, ?_⟩ | refine ⟨Nat.le_of_ble_eq_true rfl, ?_⟩ | refine ⟨.inl rfl, ?_⟩ | refine .inr ⟨fun _ => ⟨[0], _, _, _, ok25n L _ _ hL (by omega) (by omega) (by omega), ⟨rfl, rfl, trivial⟩, rfl, rfl, rfl, rfl, ?_⟩, (by intro h; cases h)⟩ | refine .inr ⟨fun _ => ⟨[0], _, _, _, ok27 L _ hL (by omega), ⟨rfl, rfl, trivial⟩, rfl, rfl, rfl, rfl, ?_⟩, (by intro h; cases h)⟩)
        conv => whnf
        try subst hk
        simp only [hg, hb, c0, c1, spoil, cond_true, cond_false, Bool.not_true, Bool.not_false]
        refine ⟨[some 0], ?_, rfl, ?_, rfl, ?_⟩
        all_goals repeat' (first | exact trivial | rfl | exact .inl rfl | exact .inr rfl | exact id | exact (fun h => Bool.noConfusion h) | refine And.intro ?_ ?_)
        · exact out_le' l _ _
        · exact out_put l _ hw.1 hw.2 4 _ _ rfl
      repeat ((conv => whnf); first | refine Cd.seq ?_ | refine Cd.reg ?_ | refine Cd.block ?_ | refine Cd.cond ?_ | refine Cd.dreg ?_ | refine Cd.skip ?_ | refine Cd.ret ?_ | refine Cd.exit ?_ | refine Cd.loop ?_ | refine ⟨rfl, ?_⟩ | refine ⟨Nat.le_of_ble_eq_true rfl, ?_⟩ | refine ⟨.inl rfl, ?_⟩ | refine .inr ⟨fun _ => ⟨[0], _, _, _, ok25n L _ _ hL (by omega) (by omega) (by omega), ⟨rfl, rfl, trivial⟩, rfl, rfl, rfl, rfl, ?_⟩, (by intro h; cases h)⟩ | refine .inr ⟨fun _ => ⟨[0], _, _, _, ok27 L _ hL (by omega), ⟨rfl, rfl, trivial⟩, rfl, rfl, rfl, rfl, ?_⟩, (by intro h; cases h)⟩)
      conv => whnf
      refine ⟨fun c2 => ?_, fun c2 => ?_⟩ <;> try simp only [Bool.cond_true_left, Bool.cond_false_right, Bool.not_eq_true', Bool.not_eq_false', Bool.not_not] at c2
      · repeat ((conv => whnf); first | refine Cd.seq ?_ | refine Cd.reg ?_ | refine Cd.block ?_ | refine Cd.cond ?_ | refine Cd.dreg ?_ | refine Cd.skip ?_ | refine Cd.ret ?_ | refine Cd.exit ?_ | refine Cd.loop ?_ | refine ⟨rfl, ?_⟩ | refine ⟨Nat.le_of_ble_eq_true rfl, ?_⟩ | refine ⟨.inl rfl, ?_⟩ | refine .inr ⟨fun _ => ⟨[0], _, _, _, ok25n L _ _ hL (by omega) (by omega) (by omega), ⟨rfl, rfl, trivial⟩, rfl, rfl, rfl, rfl, ?_⟩, (by intro h; cases h)⟩ | refine .inr ⟨fun _ => ⟨[0], _, _, _, ok27 L _ hL (by omega), ⟨rfl, rfl, trivial⟩, rfl, rfl, rfl, rfl, ?_⟩, (by intro h; cases h)⟩)
        conv => whnf
        refine ⟨fun _ => ⟨hw.1, by omega⟩, ?_⟩
        repeat ((conv => whnf); first | refine Cd.seq ?_ | refine Cd.reg ?_ | refine Cd.block ?_ | refine Cd.cond ?_ | refine Cd.dreg ?_ | refine Cd.skip ?_ | refine Cd.ret ?_ | refine Cd.exit ?_ | refine Cd.loop ?_ | refine ⟨rfl, ?_⟩ | refine ⟨Nat.le_of_ble_eq_true rfl, ?_⟩ | refine ⟨.inl rfl, ?_⟩ | refine .inr ⟨fun _ => ⟨[0], _, _, _, ok25n L _ _ hL (by omega) (by omega) (by omega), ⟨rfl, rfl, trivial⟩, rfl, rfl, rfl, rfl, ?_⟩, (by intro h; cases h)⟩ | refine .inr ⟨fun _ => ⟨[0], _, _, _, ok27 L _ hL (by omega), ⟨rfl, rfl, trivial⟩, rfl, rfl, rfl, rfl, ?_⟩, (by intro h; cases h)⟩)
        conv => whnf
        refine ⟨by rw [rowsS_len]; omega, ?_⟩
        repeat ((conv => whnf); first | refine Cd.seq ?_ | refine Cd.reg ?_ | refine Cd.block ?_ | refine Cd.cond ?_ | refine Cd.dreg ?_ | refine Cd.skip ?_ | refine Cd.ret ?_ | refine Cd.exit ?_ | refine Cd.loop ?_ | refine ⟨rfl, ?_⟩ | refine ⟨Nat.le_of_ble_eq_true rfl, ?_⟩ | refine ⟨.inl rfl, ?_⟩ | refine .inr ⟨fun _ => ⟨[0], _, _, _, ok25n L _ _ hL (by omega) (by omega) (by omega), ⟨rfl, rfl, trivial⟩, rfl, rfl, rfl, rfl, ?_⟩, (by intro h; cases h)⟩ | refine .inr ⟨fun _ => ⟨[0], _, _, _, ok27 L _ hL (by omega), ⟨rfl, rfl, trivial⟩, rfl, rfl, rfl, rfl, ?_⟩, (by intro h; cases h)⟩)
        conv => whnf
        try subst hk
        simp only [hg, hb, c0, c1, c2, spoil, cond_true, cond_false, Bool.not_true, Bool.not_false]
        refine ⟨[some 0], ?_, rfl, ?_, rfl, ?_⟩
        all_goals repeat' (first | exact trivial | rfl | exact .inl rfl | exact .inr rfl | exact id | exact (fun h => Bool.noConfusion h) | refine And.intro ?_ ?_)
        · exact out_le' l _ _
        · exact out_put l _ hw.1 hw.2 5 _ _ rfl
      repeat ((conv => whnf); first | refine Cd.seq ?_ | refine Cd.reg ?_ | refine Cd.block ?_ | refine Cd.cond ?_ | refine Cd.dreg ?_ | refine Cd.skip ?_ | refine Cd.ret ?_ | refine Cd.exit ?_ | refine Cd.loop ?_ | refine ⟨rfl, ?_⟩ | refine ⟨Nat.le_of_ble_eq_true rfl, ?_⟩ | refine ⟨.inl rfl, ?_⟩ | refine .inr ⟨fun _ => ⟨[0], _, _, _, ok25n L _ _ hL (by omega) (by omega) (by omega), ⟨rfl, rfl, trivial⟩, rfl, rfl, rfl, rfl, ?_⟩, (by intro h; cases h)⟩ | refine .inr ⟨fun _ => ⟨[0], _, _, _, ok27 L _ hL (by omega), ⟨rfl, rfl, trivial⟩, rfl, rfl, rfl, rfl, ?_⟩, (by intro h; cases h)⟩)
      conv => whnf
      refine ⟨fun c3 => ?_, fun c3 => ?_⟩ <;> try simp only [Bool.cond_true_left, Bool.cond_false_right, Bool.not_eq_true', Bool.not_eq_false', Bool.not_not] at c3
      · repeat ((conv => whnf); first | refine Cd.seq ?_ | refine Cd.reg ?_ | refine Cd.block ?_ | refine Cd.cond ?_ | refine Cd.dreg ?_ | refine Cd.skip ?_ | refine Cd.ret ?_ | refine Cd.exit ?_ | refine Cd.loop ?_ | refine ⟨rfl, ?_⟩ | refine ⟨Nat.le_of_ble_eq_true rfl, ?_⟩ | refine ⟨.inl rfl, ?_⟩ | refine .inr ⟨fun _ => ⟨[0], _, _, _, ok25n L _ _ hL (by omega) (by omega) (by omega), ⟨rfl, rfl, trivial⟩, rfl, rfl, rfl, rfl, ?_⟩, (by intro h; cases h)⟩ | refine .inr ⟨fun _ => ⟨[0], _, _, _, ok27 L _ hL (by omega), ⟨rfl, rfl, trivial⟩, rfl, rfl, rfl, rfl, ?_⟩, (by intro h; cases h)⟩)
        conv => whnf
        refine ⟨fun _ => ⟨hw.1, by omega⟩, ?_⟩
        repeat ((conv => whnf); first | refine Cd.seq ?_ | refine Cd.reg ?_ | refine Cd.block ?_ | refine Cd.cond ?_ | refine Cd.dreg ?_ | refine Cd.skip ?_ | refine Cd.ret ?_ | refine Cd.exit ?_ | refine Cd.loop ?_ | refine ⟨rfl, ?_⟩ | refine ⟨Nat.le_of_ble_eq_true rfl, ?_⟩ | refine ⟨.inl rfl, ?_⟩ | refine .inr ⟨fun _ => ⟨[0], _, _, _, ok25n L _ _ hL (by omega) (by omega) (by omega), ⟨rfl, rfl, trivial⟩, rfl, rfl, rfl, rfl, ?_⟩, (by intro h; cases h)⟩ | refine .inr ⟨fun _ => ⟨[0], _, _, _, ok27 L _ hL (by omega), ⟨rfl, rfl, trivial⟩, rfl, rfl, rfl, rfl, ?_⟩, (by intro h; cases h)⟩)
        conv => whnf
        refine ⟨by rw [rowsS_len]; omega, ?_⟩
        repeat ((conv => whnf); first | refine Cd.seq ?_ | refine Cd.reg ?_ | refine Cd.block ?_ | refine Cd.cond ?_ | refine Cd.dreg ?_ | refine Cd.skip ?_ | refine Cd.ret ?_ | refine Cd.exit ?_ | refine Cd.loop ?_ | refine ⟨rfl, ?_⟩ | refine ⟨Nat.le_of_ble_eq_true rfl, ?_⟩ | refine ⟨.inl rfl, ?_⟩ | refine .inr ⟨fun _ => ⟨[0], _, _, _, ok25n L _ _ hL (by omega) (by omega) (by omega), ⟨rfl, rfl, trivial⟩, rfl, rfl, rfl, rfl, ?_⟩, (by intro h; cases h)⟩ | refine .inr ⟨fun _ => ⟨[0], _, _, _, ok27 L _ hL (by omega), ⟨rfl, rfl, trivial⟩, rfl, rfl, rfl, rfl, ?_⟩, (by intro h; cases h)⟩)
        conv => whnf
        try subst hk
        simp only [hg, hb, c0, c1, c2, c3, spoil, cond_true, cond_false, Bool.not_true, Bool.not_false]
        refine ⟨[some 0], ?_, rfl, ?_, rfl, ?_⟩
        all_goals repeat' (first | exact trivial | rfl | exact .inl rfl | exact .inr rfl | exact id | exact (fun h => Bool.noConfusion h) | refine And.intro ?_ ?_)
        · exact out_le' l _ _
        · exact out_put l _ hw.1 hw.2 3 _ _ rfl
      repeat ((conv => whnf); first | refine Cd.seq ?_ | refine Cd.reg ?_ | refine Cd.block ?_ | refine Cd.cond ?_ | refine Cd.dreg ?_ | refine Cd.skip ?_ | refine Cd.ret ?_ | refine Cd.exit ?_ | refine Cd.loop ?_ | refine ⟨rfl, ?_⟩ | refine ⟨Nat.le_of_ble_eq_true rfl, ?_⟩ | refine ⟨.inl rfl, ?_⟩ | refine .inr ⟨fun _ => ⟨[0], _, _, _, ok25n L _ _ hL (by omega) (by omega) (by omega), ⟨rfl, rfl, trivial⟩, rfl, rfl, rfl, rfl, ?_⟩, (by intro h; cases h)⟩ | refine .inr ⟨fun _ => ⟨[0], _, _, _, ok27 L _ hL (by omega), ⟨rfl, rfl, trivial⟩, rfl, rfl, rfl, rfl, ?_⟩, (by intro h; cases h)⟩)
      conv => whnf
      refine ⟨fun c4 => ?_, fun c4 => ?_⟩ <;> try simp only [Bool.cond_true_left, Bool.cond_false_right, Bool.not_eq_true', Bool.not_eq_false', Bool.not_not] at c4
      · repeat ((conv => whnf); first | refine Cd.seq ?_ | refine Cd.reg ?_ | refine Cd.block ?_ | refine Cd.cond ?_ | refine Cd.dreg ?_ | refine Cd.skip ?_ | refine Cd.ret ?_ | refine Cd.exit ?_ | refine Cd.loop ?_ | refine ⟨rfl, ?_⟩ | refine ⟨Nat.le_of_ble_eq_true rfl, ?_⟩ | refine ⟨.inl rfl, ?_⟩ | refine .inr ⟨fun _ => ⟨[0], _, _, _, ok25n L _ _ hL (by omega) (by omega) (by omega), ⟨rfl, rfl, trivial⟩, rfl, rfl, rfl, rfl, ?_⟩, (by intro h; cases h)⟩ | refine .inr ⟨fun _ => ⟨[0], _, _, _, ok27 L _ hL (by omega), ⟨rfl, rfl, trivial⟩, rfl, rfl, rfl, rfl, ?_⟩, (by intro h; cases h)⟩)
        conv => whnf
        refine ⟨fun _ => ⟨hw.1, by omega⟩, ?_⟩
        repeat ((conv => whnf); first | refine Cd.seq ?_ | refine Cd.reg ?_ | refine Cd.block ?_ | refine Cd.cond ?_ | refine Cd.dreg ?_ | refine Cd.skip ?_ | refine Cd.ret ?_ | refine Cd.exit ?_ | refine Cd.loop ?_ | refine ⟨rfl, ?_⟩ | refine ⟨Nat.le_of_ble_eq_true rfl, ?_⟩ | refine ⟨.inl rfl, ?_⟩ | refine .inr ⟨fun _ => ⟨[0], _, _, _, ok25n L _ _ hL (by omega) (by omega) (by omega), ⟨rfl, rfl, trivial⟩, rfl, rfl, rfl, rfl, ?_⟩, (by intro h; cases h)⟩ | refine .inr ⟨fun _ => ⟨[0], _, _, _, ok27 L _ hL (by omega), ⟨rfl, rfl, trivial⟩, rfl, rfl, rfl, rfl, ?_⟩, (by intro h; cases h)⟩)
        conv => whnf
        refine ⟨by rw [rowsS_len]; omega, ?_⟩
        repeat ((conv => whnf); first | refine Cd.seq ?_ | refine Cd.reg ?_ | refine Cd.block ?_ | refine Cd.cond ?_ | refine Cd.dreg ?_ | refine Cd.skip ?_ | refine Cd.ret ?_ | refine Cd.exit ?_ | refine Cd.loop ?_ | refine ⟨rfl, ?_⟩ | refine ⟨Nat.le_of_ble_eq_true rfl, ?_⟩ | refine ⟨.inl rfl, ?_⟩ | refine .inr ⟨fun _ => ⟨[0], _, _, _, ok25n L _ _ hL (by omega) (by omega) (by omega), ⟨rfl, rfl, trivial⟩, rfl, rfl, rfl, rfl, ?_⟩, (by intro h; cases h)⟩ | refine .inr ⟨fun _ => ⟨[0], _, _, _, ok27 L _ hL (by omega), ⟨rfl, rfl, trivial⟩, rfl, rfl, rfl, rfl, ?_⟩, (by intro h; cases h)⟩)
        conv => whnf
        try subst hk
        simp only [hg, hb, c0, c1, c2, c3, c4, spoil, cond_true, cond_false, Bool.not_true, Bool.not_false]
        refine ⟨[some 0], ?_, rfl, ?_, rfl, ?_⟩
        all_goals repeat' (first | exact trivial | rfl | exact .inl rfl | exact .inr rfl | exact id | exact (fun h => Bool.noConfusion h) | refine And.intro ?_ ?_)
        · exact out_le' l _ _
        · exact out_put l _ hw.1 hw.2 2 _ _ rfl
      repeat ((conv => whnf); first | refine Cd.seq ?_ | refine Cd.reg ?_ | refine Cd.block ?_ | refine Cd.cond ?_ | refine Cd.dreg ?_ | refine Cd.skip ?_ | refine Cd.ret ?_ | refine Cd.exit ?_ | refine Cd.loop ?_ | refine ⟨rfl, ?_⟩ | refine ⟨Nat.le_of_ble_eq_true rfl, ?_⟩ | refine ⟨.inl rfl, ?_⟩ | refine .inr ⟨fun _ => ⟨[0], _, _, _, ok25n L _ _ hL (by omega) (by omega) (by omega), ⟨rfl, rfl, trivial⟩, rfl, rfl, rfl, rfl, ?_⟩, (by intro h; cases h)⟩ | refine .inr ⟨fun _ => ⟨[0], _, _, _, ok27 L _ hL (by omega), ⟨rfl, rfl, trivial⟩, rfl, rfl, rfl, rfl, ?_⟩, (by intro h; cases h)⟩)
      conv => whnf
      refine ⟨fun c5 => ?_, fun c5 => ?_⟩ <;> try simp only [Bool.cond_true_left, Bool.cond_false_right, Bool.not_eq_true', Bool.not_eq_false', Bool.not_not] at c5
      · repeat ((conv => whnf); first | refine Cd.seq ?_ | refine Cd.reg ?_ | refine Cd.block ?_ | refine Cd.cond ?_ | refine Cd.dreg ?_ | refine Cd.skip ?_ | refine Cd.ret ?_ | refine Cd.exit ?_ | refine Cd.loop ?_ | refine ⟨rfl, ?_⟩ | refine ⟨Nat.le_of_ble_eq_true rfl, ?_⟩ | refine ⟨.inl rfl, ?_⟩ | refine .inr ⟨fun _ => ⟨[0], _, _, _, ok25n L _ _ hL (by omega) (by omega) (by omega), ⟨rfl, rfl, trivial⟩, rfl, rfl, rfl, rfl, ?_⟩, (by intro h; cases h)⟩ | refine .inr ⟨fun _ => ⟨[0], _, _, _, ok27 L _ hL (by omega), ⟨rfl, rfl, trivial⟩, rfl, rfl, rfl, rfl, ?_⟩, (by intro h; cases h)⟩)
        conv => whnf
        refine ⟨fun _ => ⟨hw.1, by omega⟩, ?_⟩
        repeat ((conv => whnf); first | refine Cd.seq ?_ | refine Cd.reg ?_ | refine Cd.block ?_ | refine Cd.cond ?_ | refine Cd.dreg ?_ | refine Cd.skip ?_ | refine Cd.ret ?_ | refine Cd.exit ?_ | refine Cd.loop ?_ | refine ⟨rfl, ?_⟩ | refine ⟨Nat.le_of_ble_eq_true rfl, ?_⟩ | refine ⟨.inl rfl, ?_⟩ | refine .inr ⟨fun _ => ⟨[0], _, _, _, ok25n L _ _ hL (by omega) (by omega) (by omega), ⟨rfl, rfl, trivial⟩, rfl, rfl, rfl, rfl, ?_⟩, (by intro h; cases h)⟩ | refine .inr ⟨fun _ => ⟨[0], _, _, _, ok27 L _ hL (by omega), ⟨rfl, rfl, trivial⟩, rfl, rfl, rfl, rfl, ?_⟩, (by intro h; cases h)⟩)
        conv => whnf
        refine ⟨by rw [rowsS_len]; omega, ?_⟩
        repeat ((conv => whnf); first | refine Cd.seq ?_ | refine Cd.reg ?_ | refine Cd.block ?_ | refine Cd.cond ?_ | refine Cd.dreg ?_ | refine Cd.skip ?_ | refine Cd.ret ?_ | refine Cd.exit ?_ | refine Cd.loop ?_ | refine ⟨rfl, ?_⟩ | refine ⟨Nat.le_of_ble_eq_true rfl, ?_⟩ | refine ⟨.inl rfl, ?_⟩ | refine .inr ⟨fun _ => ⟨[0], _, _, _, ok25n L _ _ hL (by omega) (by omega) (by omega), ⟨rfl, rfl, trivial⟩, rfl, rfl, rfl, rfl, ?_⟩, (by intro h; cases h)⟩ | refine .inr ⟨fun _ => ⟨[0], _, _, _, ok27 L _ hL (by omega), ⟨rfl, rfl, trivial⟩, rfl, rfl, rfl, rfl, ?_⟩, (by intro h; cases h)⟩)
        conv => whnf
        try subst hk
        simp only [hg, hb, c0, c1, c2, c3, c4, spoil, cond_true, cond_false, Bool.not_true, Bool.not_false]
        refine ⟨[some 0], ?_, rfl, ?_, rfl, ?_⟩
        all_goals repeat' (first | exact trivial | rfl | exact .inl rfl | exact .inr rfl | exact id | exact (fun h => Bool.noConfusion h) | refine And.intro ?_ ?_)
        · exact out_le' l _ _
        · exact out_put l _ hw.1 hw.2 1 _ _ rfl
      · simp at c0 c1 c2 c3 c4 c5
        omega
    · simp only [Bool.true_and] at hb
      repeat ((conv => whnf); first | refine Cd.seq ?_ | refine Cd.reg ?_ | refine Cd.block ?_ | refine Cd.cond ?_ | refine Cd.dreg ?_ | refine Cd.skip ?_ | refine Cd.ret ?_ | refine Cd.exit ?_ | refine Cd.loop ?_ | refine ⟨rfl, ?_⟩ | refine ⟨Nat.le_of_ble_eq_true rfl, ?_⟩ | refine ⟨.inl rfl, ?_⟩ | refine .inr ⟨fun _ => ⟨[0], _, _, _, ok25n L _ _ hL (by omega) (by omega) (by omega), ⟨rfl, rfl, trivial⟩, rfl, rfl, rfl, rfl, ?_⟩, (by intro h; cases h)⟩ | refine .inr ⟨fun _ => ⟨[0], _, _, _, ok27 L _ hL (by omega), ⟨rfl, rfl, trivial⟩, rfl, rfl, rfl, rfl, ?_⟩, (by intro h; cases h)⟩)
      conv => whnf
      try subst hk
      simp only [hg, hb, cond_true, cond_false, Bool.not_true, Bool.not_false]
      refine ⟨[some 0], ?_, rfl, ?_, rfl, ?_⟩
      all_goals repeat' (first | exact trivial | rfl | exact .inl rfl | exact .inr rfl | exact id | exact (fun h => Bool.noConfusion h) | refine And.intro ?_ ?_)
      · exact out_le l
      · exact out_take l
  · simp only [hg]
    repeat ((conv => whnf); first | refine Cd.seq ?_ | refine Cd.reg ?_ | refine Cd.block ?_ | refine Cd.cond ?_ | refine Cd.dreg ?_ | refine Cd.skip ?_ | refine Cd.ret ?_ | refine Cd.exit ?_ | refine Cd.loop ?_ | refine ⟨rfl, ?_⟩ | refine ⟨Nat.le_of_ble_eq_true rfl, ?_⟩ | refine ⟨.inl rfl, ?_⟩ | refine .inr ⟨fun _ => ⟨[0], _, _, _, ok25n L _ _ hL (by omega) (by omega) (by omega), ⟨rfl, rfl, trivial⟩, rfl, rfl, rfl, rfl, ?_⟩, (by intro h; cases h)⟩ | refine .inr ⟨fun _ => ⟨[0], _, _, _, ok27 L _ hL (by omega), ⟨rfl, rfl, trivial⟩, rfl, rfl, rfl, rfl, ?_⟩, (by intro h; cases h)⟩)
    conv => whnf
    refine ⟨fun h => (by cases h), fun _ => ?_⟩
    repeat ((conv => whnf); first | refine Cd.seq ?_ | refine Cd.reg ?_ | refine Cd.block ?_ | refine Cd.cond ?_ | refine Cd.dreg ?_ | refine Cd.skip ?_ | refine Cd.ret ?_ | refine Cd.exit ?_ | refine Cd.loop ?_ | refine ⟨rfl, ?_⟩ | refine ⟨Nat.le_of_ble_eq_true rfl, ?_⟩ | refine ⟨.inl rfl, ?_⟩ | refine .inr ⟨fun _ => ⟨[0], _, _, _, ok25n L _ _ hL (by omega) (by omega) (by omega), ⟨rfl, rfl, trivial⟩, rfl, rfl, rfl, rfl, ?_⟩, (by intro h; cases h)⟩ | refine .inr ⟨fun _ => ⟨[0], _, _, _, ok27 L _ hL (by omega), ⟨rfl, rfl, trivial⟩, rfl, rfl, rfl, rfl, ?_⟩, (by intro h; cases h)⟩)
    conv => whnf
    try subst hk
    simp only [hg, cond_true, cond_false, Bool.not_true, Bool.not_false]
    refine ⟨[some 0], ?_, rfl, ?_, rfl, ?_⟩
    all_goals repeat' (first | exact trivial | rfl | exact .inl rfl | exact .inr rfl | exact id | exact (fun h => Bool.noConfusion h) | refine And.intro ?_ ?_)
    · exact out_le l
    · exact out_take l
def pick9 (s : Stm) : List Int := [s.stop, IntKind.i64.wrap (s.stop - 1), IntKind.i64.wrap (s.start - 1), IntKind.i64.wrap (s.start - 2), IntKind.i64.wrap (s.start + s.step), s.start, IntKind.i64.wrap (s.start + 2), IntKind.i64.wrap (s.start + 8), IntKind.i64.wrap (s.start - 8)]
def fromA (L : List Int) (l : List Stm) (I : Nat) : Int × Nat :=
  bif decide (0 < (l.length : Int)) then
    bif decide (0 < nxV L (nxI L I) 4) then ((pick9 (nthS l (nxV L (nxI L (nxI L I)) l.length))).getD (nxV L (nxI L (nxI L (nxI L I))) 9).toNat 0, nxI L (nxI L (nxI L (nxI L I))))
    else (nxV L I 40, nxI L (nxI L I))
  else (nxV L I 40, nxI L I)
def accTail (L : List Int) (a : Int) (J : Nat) : (Int × Int) × Nat :=
  bif nxV L J 16 == 0 then ((oddF L (nxI L J), oddF L (nxI L (nxI L J))), nxI L (nxI L (nxI L J)))
  else ((a, IntKind.i64.wrap (a + nxV L (nxI L J) 5)), nxI L (nxI L J))
def accessF (L : List Int) (l : List Stm) (I : Nat) : (Int × Int) × Nat := accTail L (fromA L l I).1 (fromA L l I).2
set_option maxRecDepth 20000 in
theorem ok10 (L : List Int) (l : List Stm) (I : Nat) (hL : (L.length : Int) < 2 ^ 62) (hI : I ≤ L.length) (hl : l.length ≤ 1000) :
    FnC Try.prog 10 [tpO L I] [.ptr 0 0 0, .lst 6 false (rowsS l)] (.tup [.int .i64 (accessF L l I).1.1, .int .i64 (accessF L l I).1.2]) [tpO L (accessF L l I).2] := by
  refine fn_okC (ob0 := [tpO L I]) (rc := rc10) (rvs := rv10) Try.func10 rfl rcq10 rvq10 (show 2 ≤ _ by decide) ?_
  generalize hk : accessF L l I = q
  unfold accessF fromA at hk
  have a1 := nxI_in L _ hI
  have a2 := nxI_in L _ a1
  have a3 := nxI_in L _ a2
  have a4 := nxI_in L _ a3
  have a5 := nxI_in L _ a4
  have a6 := nxI_in L _ a5
  have a7 := nxI_in L _ a6
  repeat ((conv => whnf); first | refine Cd.seq ?_ | refine Cd.reg ?_ | refine Cd.block ?_ | refine Cd.cond ?_ | refine Cd.dreg ?_ | refine Cd.skip ?_ | refine Cd.ret ?_ | refine Cd.exit ?_ | refine Cd.loop ?_ | refine ⟨rfl, ?_⟩ | refine ⟨Nat.le_of_ble_eq_true rfl, ?_⟩ | refine ⟨.inl rfl, ?_⟩ | refine .inr ⟨fun _ => ⟨[0], _, _, _, ok25n L _ _ hL (by omega) (by omega) (by omega), ⟨rfl, rfl, trivial⟩, rfl, rfl, rfl, rfl, ?_⟩, (by intro h; cases h)⟩ | refine .inr ⟨fun _ => ⟨[0], _, _, _, ok27 L _ hL (by omega), ⟨rfl, rfl, trivial⟩, rfl, rfl, rfl, rfl, ?_⟩, (by intro h; cases h)⟩)
  conv => whnf
  rw [rowsS_len]
  refine .inr ⟨fun hg => ⟨[0], _, _, _, ok25n L _ _ hL a1 (by omega) (by omega), ⟨rfl, rfl, trivial⟩, rfl, rfl, rfl, rfl, ?_⟩, fun hg => ?_⟩
  · have hg' : 0 < l.length := by simp at hg; omega
    have hw := nxV_in L (nxI L (nxI L I)) l.length (by omega) (by omega)
    have hw9 := nxV_in L (nxI L (nxI L (nxI L I))) 9 (by omega) (by omega)
    simp only [hg, cond_true] at hk ⊢
    repeat ((conv => whnf); first | refine Cd.seq ?_ | refine Cd.reg ?_ | refine Cd.block ?_ | refine Cd.cond ?_ | refine Cd.dreg ?_ | refine Cd.skip ?_ | refine Cd.ret ?_ | refine Cd.exit ?_ | refine Cd.loop ?_ | refine ⟨rfl, ?_⟩ | refine ⟨Nat.le_of_ble_eq_true rfl, ?_⟩ | refine ⟨.inl rfl, ?_⟩ | refine .inr ⟨fun _ => ⟨[0], _, _, _, ok25n L _ _ hL (by omega) (by omega) (by omega), ⟨rfl, rfl, trivial⟩, rfl, rfl, rfl, rfl, ?_⟩, (by intro h; cases h)⟩ | refine .inr ⟨fun _ => ⟨[0], _, _, _, ok27 L _ hL (by omega), ⟨rfl, rfl, trivial⟩, rfl, rfl, rfl, rfl, ?_⟩, (by intro h; cases h)⟩)
    conv => whnf
    refine ⟨fun hb => ?_, fun hb => ?_⟩ <;> try simp only [Bool.cond_true_left, Bool.cond_false_right, Bool.not_eq_true', Bool.not_eq_false', Bool.not_not] at hb
    · simp only [Bool.true_and] at hb
      simp only [hb, cond_true] at hk
      repeat ((conv => whnf); first | refine Cd.seq ?_ | refine Cd.reg ?_ | refine Cd.block ?_ | refine Cd.cond ?_ | refine Cd.dreg ?_ | refine Cd.skip ?_ | refine Cd.ret ?_ | refine Cd.exit ?_ | refine Cd.loop ?_ | refine ⟨rfl, ?_⟩ | refine ⟨Nat.le_of_ble_eq_true rfl, ?_⟩ | refine ⟨.inl rfl, ?_⟩ | refine .inr ⟨fun _ => ⟨[0], _, _, _, ok25n L _ _ hL (by omega) (by omega) (by omega), ⟨rfl, rfl, trivial⟩, rfl, rfl, rfl, rfl, ?_⟩, (by intro h; cases h)⟩ | refine .inr ⟨fun _ => ⟨[0], _, _, _, ok27 L _ hL (by omega), ⟨rfl, rfl, trivial⟩, rfl, rfl, rfl, rfl, ?_⟩, (by intro h; cases h)⟩)
      conv => whnf
      rw [rowsS_len]
      repeat ((conv => whnf); first | refine Cd.seq ?_ | refine Cd.reg ?_ | refine Cd.block ?_ | refine Cd.cond ?_ | refine Cd.dreg ?_ | refine Cd.skip ?_ | refine Cd.ret ?_ | refine Cd.exit ?_ | refine Cd.loop ?_ | refine ⟨rfl, ?_⟩ | refine ⟨Nat.le_of_ble_eq_true rfl, ?_⟩ | refine ⟨.inl rfl, ?_⟩ | refine .inr ⟨fun _ => ⟨[0], _, _, _, ok25n L _ _ hL (by omega) (by omega) (by omega), ⟨rfl, rfl, trivial⟩, rfl, rfl, rfl, rfl, ?_⟩, (by intro h; cases h)⟩ | refine .inr ⟨fun _ => ⟨[0], _, _, _, ok27 L _ hL (by omega), ⟨rfl, rfl, trivial⟩, rfl, rfl, rfl, rfl, ?_⟩, (by intro h; cases h)⟩)
      conv => whnf
      refine ⟨fun _ => ⟨rfl, hw.1, by rw [rowsS_len]; exact hw.2⟩, ?_⟩
      rw [rowsS_getI l _ hw.1 hw.2]
      obtain ⟨s, hs⟩ : ∃ s, s = nthS l (nxV L (nxI L (nxI L I)) l.length) := ⟨_, rfl⟩
      rw [← hs] at hk
      rw [show l.getD (nxV L (nxI L (nxI L I)) ↑l.length).toNat zeroS = s from hs.symm]
      repeat ((conv => whnf); first | refine Cd.seq ?_ | refine Cd.reg ?_ | refine Cd.block ?_ | refine Cd.cond ?_ | refine Cd.dreg ?_ | refine Cd.skip ?_ | refine Cd.ret ?_ | refine Cd.exit ?_ | refine Cd.loop ?_ | refine ⟨rfl, ?_⟩ | refine ⟨Nat.le_of_ble_eq_true rfl, ?_⟩ | refine ⟨.inl rfl, ?_⟩ | refine .inr ⟨fun _ => ⟨[0], _, _, _, ok25n L _ _ hL (by omega) (by omega) (by omega), ⟨rfl, rfl, trivial⟩, rfl, rfl, rfl, rfl, ?_⟩, (by intro h; cases h)⟩ | refine .inr ⟨fun _ => ⟨[0], _, _, _, ok27 L _ hL (by omega), ⟨rfl, rfl, trivial⟩, rfl, rfl, rfl, rfl, ?_⟩, (by intro h; cases h)⟩)
      conv => whnf
      refine ⟨fun _ => hw9, ?_⟩
      repeat ((conv => whnf); first | refine Cd.seq ?_ | refine Cd.reg ?_ | refine Cd.block ?_ | refine Cd.cond ?_ | refine Cd.dreg ?_ | refine Cd.skip ?_ | refine Cd.ret ?_ | refine Cd.exit ?_ | refine Cd.loop ?_ | refine ⟨rfl, ?_⟩ | refine ⟨Nat.le_of_ble_eq_true rfl, ?_⟩ | refine ⟨.inl rfl, ?_⟩ | refine .inr ⟨fun _ => ⟨[0], _, _, _, ok25n L _ _ hL (by omega) (by omega) (by omega), ⟨rfl, rfl, trivial⟩, rfl, rfl, rfl, rfl, ?_⟩, (by intro h; cases h)⟩ | refine .inr ⟨fun _ => ⟨[0], _, _, _, ok27 L _ hL (by omega), ⟨rfl, rfl, trivial⟩, rfl, rfl, rfl, rfl, ?_⟩, (by intro h; cases h)⟩)
      conv => whnf
      refine ⟨fun _ => by simp only [List.length_set, List.length_replicate]; omega, ?_⟩
      rw [getLit (M := pick9 s) _ ?hR hw9.1 hw9.2]
      case hR => rfl
      repeat ((conv => whnf); first | refine Cd.seq ?_ | refine Cd.reg ?_ | refine Cd.block ?_ | refine Cd.cond ?_ | refine Cd.dreg ?_ | refine Cd.skip ?_ | refine Cd.ret ?_ | refine Cd.exit ?_ | refine Cd.loop ?_ | refine ⟨rfl, ?_⟩ | refine ⟨Nat.le_of_ble_eq_true rfl, ?_⟩ | refine ⟨.inl rfl, ?_⟩ | refine .inr ⟨fun _ => ⟨[0], _, _, _, ok25n L _ _ hL (by omega) (by omega) (by omega), ⟨rfl, rfl, trivial⟩, rfl, rfl, rfl, rfl, ?_⟩, (by intro h; cases h)⟩ | refine .inr ⟨fun _ => ⟨[0], _, _, _, ok27 L _ hL (by omega), ⟨rfl, rfl, trivial⟩, rfl, rfl, rfl, rfl, ?_⟩, (by intro h; cases h)⟩)
      conv => whnf
      refine ⟨fun ht => ?_, fun ht => ?_⟩ <;> try simp only [Bool.cond_true_left, Bool.cond_false_right, Bool.not_eq_true', Bool.not_eq_false', Bool.not_not] at ht
      · repeat ((conv => whnf); first | refine Cd.seq ?_ | refine Cd.reg ?_ | refine Cd.block ?_ | refine Cd.cond ?_ | refine Cd.dreg ?_ | refine Cd.skip ?_ | refine Cd.ret ?_ | refine Cd.exit ?_ | refine Cd.loop ?_ | refine ⟨rfl, ?_⟩ | refine ⟨Nat.le_of_ble_eq_true rfl, ?_⟩ | refine ⟨.inl rfl, ?_⟩ | refine .inr ⟨fun _ => ⟨[0], _, _, _, ok25n L _ _ hL (by omega) (by omega) (by omega), ⟨rfl, rfl, trivial⟩, rfl, rfl, rfl, rfl, ?_⟩, (by intro h; cases h)⟩ | refine .inr ⟨fun _ => ⟨[0], _, _, _, ok27 L _ hL (by omega), ⟨rfl, rfl, trivial⟩, rfl, rfl, rfl, rfl, ?_⟩, (by intro h; cases h)⟩)
        conv => whnf
        try subst hk
        simp only [accTail, ht, cond_true, cond_false, Bool.not_true, Bool.not_false]
        refine ⟨[some 0], ?_, rfl, ?_, rfl, ?_⟩
        all_goals repeat' (first | exact trivial | rfl | exact .inl rfl | exact .inr rfl | exact id | exact (fun h => Bool.noConfusion h) | refine And.intro ?_ ?_)
      repeat ((conv => whnf); first | refine Cd.seq ?_ | refine Cd.reg ?_ | refine Cd.block ?_ | refine Cd.cond ?_ | refine Cd.dreg ?_ | refine Cd.skip ?_ | refine Cd.ret ?_ | refine Cd.exit ?_ | refine Cd.loop ?_ | refine ⟨rfl, ?_⟩ | refine ⟨Nat.le_of_ble_eq_true rfl, ?_⟩ | refine ⟨.inl rfl, ?_⟩ | refine .inr ⟨fun _ => ⟨[0], _, _, _, ok25n L _ _ hL (by omega) (by omega) (by omega), ⟨rfl, rfl, trivial⟩, rfl, rfl, rfl, rfl, ?_⟩, (by intro h; cases h)⟩ | refine .inr ⟨fun _ => ⟨[0], _, _, _, ok27 L _ hL (by omega), ⟨rfl, rfl, trivial⟩, rfl, rfl, rfl, rfl, ?_⟩, (by intro h; cases h)⟩)
      conv => whnf
      try subst hk
      simp only [accTail, ht, cond_true, cond_false, Bool.not_true, Bool.not_false]
      refine ⟨[some 0], ?_, rfl, ?_, rfl, ?_⟩
      all_goals repeat' (first | exact trivial | rfl | exact .inl rfl | exact .inr rfl | exact id | exact (fun h => Bool.noConfusion h) | refine And.intro ?_ ?_)
    · simp only [Bool.true_and] at hb
      simp only [hb, cond_false] at hk
      repeat ((conv => whnf); first | refine Cd.seq ?_ | refine Cd.reg ?_ | refine Cd.block ?_ | refine Cd.cond ?_ | refine Cd.dreg ?_ | refine Cd.skip ?_ | refine Cd.ret ?_ | refine Cd.exit ?_ | refine Cd.loop ?_ | refine ⟨rfl, ?_⟩ | refine ⟨Nat.le_of_ble_eq_true rfl, ?_⟩ | refine ⟨.inl rfl, ?_⟩ | refine .inr ⟨fun _ => ⟨[0], _, _, _, ok25n L _ _ hL (by omega) (by omega) (by omega), ⟨rfl, rfl, trivial⟩, rfl, rfl, rfl, rfl, ?_⟩, (by intro h; cases h)⟩ | refine .inr ⟨fun _ => ⟨[0], _, _, _, ok27 L _ hL (by omega), ⟨rfl, rfl, trivial⟩, rfl, rfl, rfl, rfl, ?_⟩, (by intro h; cases h)⟩)
      conv => whnf
      refine ⟨fun ht => ?_, fun ht => ?_⟩ <;> try simp only [Bool.cond_true_left, Bool.cond_false_right, Bool.not_eq_true', Bool.not_eq_false', Bool.not_not] at ht
      · repeat ((conv => whnf); first | refine Cd.seq ?_ | refine Cd.reg ?_ | refine Cd.block ?_ | refine Cd.cond ?_ | refine Cd.dreg ?_ | refine Cd.skip ?_ | refine Cd.ret ?_ | refine Cd.exit ?_ | refine Cd.loop ?_ | refine ⟨rfl, ?_⟩ | refine ⟨Nat.le_of_ble_eq_true rfl, ?_⟩ | refine ⟨.inl rfl, ?_⟩ | refine .inr ⟨fun _ => ⟨[0], _, _, _, ok25n L _ _ hL (by omega) (by omega) (by omega), ⟨rfl, rfl, trivial⟩, rfl, rfl, rfl, rfl, ?_⟩, (by intro h; cases h)⟩ | refine .inr ⟨fun _ => ⟨[0], _, _, _, ok27 L _ hL (by omega), ⟨rfl, rfl, trivial⟩, rfl, rfl, rfl, rfl, ?_⟩, (by intro h; cases h)⟩)
        conv => whnf
        try subst hk
        simp only [accTail, ht, cond_true, cond_false, Bool.not_true, Bool.not_false]
        refine ⟨[some 0], ?_, rfl, ?_, rfl, ?_⟩
        all_goals repeat' (first | exact trivial | rfl | exact .inl rfl | exact .inr rfl | exact id | exact (fun h => Bool.noConfusion h) | refine And.intro ?_ ?_)
      repeat ((conv => whnf); first | refine Cd.seq ?_ | refine Cd.reg ?_ | refine Cd.block ?_ | refine Cd.cond ?_ | refine Cd.dreg ?_ | refine Cd.skip ?_ | refine Cd.ret ?_ | refine Cd.exit ?_ | refine Cd.loop ?_ | refine ⟨rfl, ?_⟩ | refine ⟨Nat.le_of_ble_eq_true rfl, ?_⟩ | refine ⟨.inl rfl, ?_⟩ | refine .inr ⟨fun _ => ⟨[0], _, _, _, ok25n L _ _ hL (by omega) (by omega) (by omega), ⟨rfl, rfl, trivial⟩, rfl, rfl, rfl, rfl, ?_⟩, (by intro h; cases h)⟩ | refine .inr ⟨fun _ => ⟨[0], _, _, _, ok27 L _ hL (by omega), ⟨rfl, rfl, trivial⟩, rfl, rfl, rfl, rfl, ?_⟩, (by intro h; cases h)⟩)
      conv => whnf
      try subst hk
      simp only [accTail, ht, cond_true, cond_false, Bool.not_true, Bool.not_false]
      refine ⟨[some 0], ?_, rfl, ?_, rfl, ?_⟩
      all_goals repeat' (first | exact trivial | rfl | exact .inl rfl | exact .inr rfl | exact id | exact (fun h => Bool.noConfusion h) | refine And.intro ?_ ?_)
  · simp only [hg, cond_false] at hk ⊢
    repeat ((conv => whnf); first | refine Cd.seq ?_ | refine Cd.reg ?_ | refine Cd.block ?_ | refine Cd.cond ?_ | refine Cd.dreg ?_ | refine Cd.skip ?_ | refine Cd.ret ?_ | refine Cd.exit ?_ | refine Cd.loop ?_ | refine ⟨rfl, ?_⟩ | refine ⟨Nat.le_of_ble_eq_true rfl, ?_⟩ | refine ⟨.inl rfl, ?_⟩ | refine .inr ⟨fun _ => ⟨[0], _, _, _, ok25n L _ _ hL (by omega) (by omega) (by omega), ⟨rfl, rfl, trivial⟩, rfl, rfl, rfl, rfl, ?_⟩, (by intro h; cases h)⟩ | refine .inr ⟨fun _ => ⟨[0], _, _, _, ok27 L _ hL (by omega), ⟨rfl, rfl, trivial⟩, rfl, rfl, rfl, rfl, ?_⟩, (by intro h; cases h)⟩)
    conv => whnf
    refine ⟨fun h => (by cases h), fun _ => ?_⟩
    repeat ((conv => whnf); first | refine Cd.seq ?_ | refine Cd.reg ?_ | refine Cd.block ?_ | refine Cd.cond ?_ | refine Cd.dreg ?_ | refine Cd.skip ?_ | refine Cd.ret ?_ | refine Cd.exit ?_ | refine Cd.loop ?_ | refine ⟨rfl, ?_⟩ | refine ⟨Nat.le_of_ble_eq_true rfl, ?_⟩ | refine ⟨.inl rfl, ?_⟩ | refine .inr ⟨fun _ => ⟨[0], _, _, _, ok25n L _ _ hL (by omega) (by omega) (by omega), ⟨rfl, rfl, trivial⟩, rfl, rfl, rfl, rfl, ?_⟩, (by intro h; cases h)⟩ | refine .inr ⟨fun _ => ⟨[0], _, _, _, ok27 L _ hL (by omega), ⟨rfl, rfl, trivial⟩, rfl, rfl, rfl, rfl, ?_⟩, (by intro h; cases h)⟩)
    conv => whnf
    refine ⟨fun ht => ?_, fun ht => ?_⟩ <;> try simp only [Bool.cond_true_left, Bool.cond_false_right, Bool.not_eq_true', Bool.not_eq_false', Bool.not_not] at ht
    · repeat ((conv => whnf); first | refine Cd.seq ?_ | refine Cd.reg ?_ | refine Cd.block ?_ | refine Cd.cond ?_ | refine Cd.dreg ?_ | refine Cd.skip ?_ | refine Cd.ret ?_ | refine Cd.exit ?_ | refine Cd.loop ?_ | refine ⟨rfl, ?_⟩ | refine ⟨Nat.le_of_ble_eq_true rfl, ?_⟩ | refine ⟨.inl rfl, ?_⟩ | refine .inr ⟨fun _ => ⟨[0], _, _, _, ok25n L _ _ hL (by omega) (by omega) (by omega), ⟨rfl, rfl, trivial⟩, rfl, rfl, rfl, rfl, ?_⟩, (by intro h; cases h)⟩ | refine .inr ⟨fun _ => ⟨[0], _, _, _, ok27 L _ hL (by omega), ⟨rfl, rfl, trivial⟩, rfl, rfl, rfl, rfl, ?_⟩, (by intro h; cases h)⟩)
      conv => whnf
      try subst hk
      simp only [accTail, ht, cond_true, cond_false, Bool.not_true, Bool.not_false]
      refine ⟨[some 0], ?_, rfl, ?_, rfl, ?_⟩
      all_goals repeat' (first | exact trivial | rfl | exact .inl rfl | exact .inr rfl | exact id | exact (fun h => Bool.noConfusion h) | refine And.intro ?_ ?_)
    repeat ((conv => whnf); first | refine Cd.seq ?_ | refine Cd.reg ?_ | refine Cd.block ?_ | refine Cd.cond ?_ | refine Cd.dreg ?_ | refine Cd.skip ?_ | refine Cd.ret ?_ | refine Cd.exit ?_ | refine Cd.loop ?_ | refine ⟨rfl, ?_⟩ | refine ⟨Nat.le_of_ble_eq_true rfl, ?_⟩ | refine ⟨.inl rfl, ?_⟩ | refine .inr ⟨fun _ => ⟨[0], _, _, _, ok25n L _ _ hL (by omega) (by omega) (by omega), ⟨rfl, rfl, trivial⟩, rfl, rfl, rfl, rfl, ?_⟩, (by intro h; cases h)⟩ | refine .inr ⟨fun _ => ⟨[0], _, _, _, ok27 L _ hL (by omega), ⟨rfl, rfl, trivial⟩, rfl, rfl, rfl, rfl, ?_⟩, (by intro h; cases h)⟩)
    conv => whnf
    try subst hk
    simp only [accTail, ht, cond_true, cond_false, Bool.not_true, Bool.not_false]
    refine ⟨[some 0], ?_, rfl, ?_, rfl, ?_⟩
    all_goals repeat' (first | exact trivial | rfl | exact .inl rfl | exact .inr rfl | exact id | exact (fun h => Bool.noConfusion h) | refine And.intro ?_ ?_)
end Go.Proofs.Yteelckbeekgfiaa
