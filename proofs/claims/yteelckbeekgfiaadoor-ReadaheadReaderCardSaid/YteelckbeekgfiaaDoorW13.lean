/- Stream: the tape. -/
import Derived.Test.YteelckbeekgfiaaDoorW12b
import Derived.Test.YteelckbeekgfiaaDoorW10
import Derived.Test.YteelckbeekgfiaaDoorT2
set_option linter.unusedSimpArgs false
set_option linter.unusedVariables false
namespace Go.Proofs.YteelckbeekgfiaaDoor
open Go Go.Sk Go.RowKit

/- (*pagecache/pagecachemade.Tape).Odd -/
def rc8 : RC :=
  (.seq
  (.reg [⟨(some 2), none, (.mv (.c (.int .i64 0)))⟩] [])
  (.seq
  (.reg [⟨(some 3), none, (.bslice 1 [(.int .i64 0)] 19 [(0, (.c (.int .i64 0))), (1, (.c (.int .i64 1))), (2, (.c (.int .i64 2))), (3, (.c (.int .i64 3))), (4, (.c (.int .i64 4))), (5, (.c (.int .i64 7))), (6, (.c (.int .i64 8))), (7, (.c (.int .i64 15))), (8, (.c (.int .i64 16))), (9, (.c (.int .i64 63))), (10, (.c (.int .i64 64))), (11, (.c (.int .i64 128))), (12, (.c (.int .i64 255))), (13, (.c (.int .i64 256))), (14, (.c (.int .i64 (-1)))), (15, (.c (.int .i64 1000000))), (16, (.c (.int .i64 1000001))), (17, (.c (.int .i64 4611686018427387904))), (18, (.c (.int .i64 (-9223372036854775808))))])⟩,
    ⟨(some 4), none, (.mv (.t 0))⟩,
    ⟨(some 5), none, (.call 7 [(.t 4), (.c (.int .i64 19))])⟩,
    ⟨(some 6), none, (.iaddr 1 (.t 3) (.t 5))⟩,
    ⟨(some 7), none, (.ld false 1 (.t 6))⟩,
    ⟨(some 2), none, (.mv (.t 7))⟩] [3, 4, 5, 6, 7])
  .ret))
theorem rcq8 : resC Go.Proofs.Tryd.prog Go.Proofs.Tryd.f8.ntmps ((Go.Proofs.Tryd.f8.body).getD .skip) = some (strip rc8) := by kernel_rfl
def rv8 : List RV := [(.tmp 2)]
theorem rvq8 : Go.Proofs.Tryd.f8.results.toList.mapM (resRV Go.Proofs.Tryd.prog) = some rv8 := by kernel_rfl

/- pagecache/pagecachemade.Streams -/
def rc6 : RC :=
  (.seq
  (.reg [⟨(some 2), none, (.mv (.c (.lst 0 true [])))⟩] [])
  (.seq
  (.reg [⟨(some 3), none, (.mv (.c (.lst 0 true [])))⟩] [])
  (.seq
  (.seq
  (.reg [⟨(some 7), none, (.mv (.t 0))⟩,
    ⟨(some 8), none, (.call 7 [(.t 7), (.c (.int .i64 12))])⟩,
    ⟨(some 4), none, (.mv (.t 8))⟩] [7, 8])
  (.block 0
   (.loop
    (.seq
    (.seq
    (.reg [⟨(some 9), none, (.mv (.t 4))⟩,
      ⟨(some 10), none, (.bin .gtr (.t 9) (.c (.int .i64 0)))⟩] [9])
    (.cond (.t 10)
     .skip
     (.exit 0)))
    (.seq
    (.block 1
     (.seq
     (.reg [⟨(some 13), none, (.mv (.t 0))⟩,
       ⟨(some 14), none, (.call 7 [(.t 13), (.c (.int .i64 30))])⟩,
       ⟨(some 5), none, (.mv (.t 14))⟩] [13, 14])
     (.seq
     (.seq
     (.reg [⟨(some 15), none, (.mv (.t 3))⟩,
       ⟨(some 16), none, (.len (.t 15))⟩,
       ⟨(some 17), none, (.bin .gtr (.t 16) (.c (.int .i64 0)))⟩,
       ⟨(some 18), none, (.mv (.t 17))⟩,
       ⟨(some 19), (some (18, true)), (.mv (.t 0))⟩,
       ⟨(some 20), (some (18, true)), (.call 7 [(.t 19), (.c (.int .i64 3))])⟩,
       ⟨(some 21), (some (18, true)), (.bin .gtr (.t 20) (.c (.int .i64 0)))⟩,
       ⟨(some 22), none, (.pick (.t 18) (.t 21) (.c (.bool false)))⟩] [15, 16, 17, 18, 19, 20, 21])
     (.cond (.t 22)
      (.seq
      (.reg [⟨(some 23), none, (.mv (.t 3))⟩,
        ⟨(some 24), none, (.mv (.t 0))⟩,
        ⟨(some 25), none, (.mv (.t 3))⟩,
        ⟨(some 26), none, (.len (.t 25))⟩,
        ⟨(some 27), none, (.call 7 [(.t 24), (.t 26)])⟩,
        ⟨(some 28), none, (.iaddr 6 (.t 23) (.t 27))⟩,
        ⟨(some 29), none, (.ld true 6 (.t 28))⟩,
        ⟨(some 6), none, (.alloc [(.int .i64 0), (.int .i64 0), (.int .i64 0), (.int .i64 0), (.int .i64 0), (.int .i64 0)])⟩,
        ⟨none, none, (.st 6 (.t 6) (.t 29))⟩] [23, 24, 25, 26, 27, 28, 29])
      (.dreg 9216 9552 [⟨(some 30), none, (.faddr 2 (.t 6))⟩,
        ⟨(some 31), none, (.ld false 1 (.t 30))⟩,
        ⟨(some 32), none, (.faddr 1 (.t 6))⟩,
        ⟨(some 33), none, (.ld false 1 (.t 32))⟩,
        ⟨(some 34), none, (.bin .sub (.t 33) (.c (.int .i64 1)))⟩,
        ⟨(some 35), none, (.faddr 1 (.t 6))⟩,
        ⟨(some 36), none, (.ld false 1 (.t 35))⟩,
        ⟨(some 37), none, (.faddr 3 (.t 6))⟩,
        ⟨(some 38), none, (.ld false 1 (.t 37))⟩,
        ⟨(some 39), none, (.bin .add (.t 36) (.t 38))⟩,
        ⟨(some 40), none, (.faddr 2 (.t 6))⟩,
        ⟨(some 41), none, (.ld false 1 (.t 40))⟩,
        ⟨(some 42), none, (.bin .add (.t 41) (.c (.int .i64 1)))⟩,
        ⟨(some 43), none, (.faddr 1 (.t 6))⟩,
        ⟨(some 44), none, (.ld false 1 (.t 43))⟩,
        ⟨(some 45), none, (.bslice 1 [(.int .i64 0)] 5 [(0, (.t 31)), (1, (.t 34)), (2, (.t 39)), (3, (.t 42)), (4, (.t 44))])⟩,
        ⟨(some 46), none, (.mv (.t 0))⟩,
        ⟨(some 47), none, (.call 7 [(.t 46), (.c (.int .i64 5))])⟩,
        ⟨(some 48), none, (.iaddr 1 (.t 45) (.t 47))⟩,
        ⟨(some 49), none, (.ld false 1 (.t 48))⟩,
        ⟨(some 5), none, (.mv (.t 49))⟩] [30, 31, 32, 33, 34, 35, 36, 37, 38, 39, 40, 41, 42, 43, 44, 45, 46, 47, 48, 49] [[], [0], [], [2], [3, 2], [], [5], [], [7], [6, 5, 8, 7], [], [10], [11, 10], [], [13], [1, 0, 4, 2, 3, 9, 7, 8, 5, 6, 12, 10, 11, 14, 13], [], [16], [15, 13, 14, 11, 10, 12, 6, 5, 8, 7, 9, 3, 2, 4, 0, 1, 17, 16], [18, 16, 17, 1, 0, 4, 2, 3, 9, 7, 8, 5, 6, 12, 10, 11, 14, 13, 15], [19, 15, 13, 14, 11, 10, 12, 6, 5, 8, 7, 9, 3, 2, 4, 0, 1, 17, 16, 18]] [9216, 9232, 9248, 9264, 9280, 9296, 9312, 9328, 9344, 9360, 9376, 9392, 9408, 9424, 9440, 9456, 9472, 9488, 9504, 9520, 9536]))
      .skip))
     (.reg [⟨(some 51), none, (.mv (.t 3))⟩,
       ⟨(some 52), none, (.mv (.t 5))⟩,
       ⟨(some 53), none, (.mv (.t 5))⟩,
       ⟨(some 54), none, (.bin .add (.t 53) (.c (.int .i64 1)))⟩,
       ⟨(some 55), none, (.mv (.t 0))⟩,
       ⟨(some 56), none, (.call 7 [(.t 55), (.c (.int .i64 3))])⟩,
       ⟨(some 57), none, (.bin .add (.t 54) (.t 56))⟩,
       ⟨(some 58), none, (.call 24 [(.t 51), (.t 52), (.t 57)])⟩,
       ⟨(some 50), none, (.mv (.t 58))⟩,
       ⟨(some 59), none, (.extr 0 (.t 50))⟩,
       ⟨(some 60), none, (.extr 1 (.t 50))⟩,
       ⟨(some 61), none, (.extr 2 (.t 50))⟩,
       ⟨(some 3), none, (.mv (.t 59))⟩] [51, 52, 53, 54, 55, 56, 57, 58, 50, 59, 60, 61]))))
    (.reg [⟨(some 11), none, (.mv (.t 4))⟩,
      ⟨(some 12), none, (.bin .sub (.t 11) (.c (.int .i64 1)))⟩,
      ⟨(some 4), none, (.mv (.t 12))⟩] [11, 12]))))))
  (.seq
  (.reg [⟨(some 62), none, (.mv (.t 3))⟩,
    ⟨(some 2), none, (.mv (.t 62))⟩] [62])
  .ret))))
theorem rcq6 : resC Go.Proofs.Tryd.prog Go.Proofs.Tryd.f6.ntmps ((Go.Proofs.Tryd.f6.body).getD .skip) = some (strip rc6) := by kernel_rfl
def rv6 : List RV := [(.tmp 2)]
theorem rvq6 : Go.Proofs.Tryd.f6.results.toList.mapM (resRV Go.Proofs.Tryd.prog) = some rv6 := by kernel_rfl

def nxV (L : List Int) (I : Nat) (n : Int) : Int := bif decide (L.length ≤ I) then 0 else cutF (L.getD I 0) n
def nxI (L : List Int) (I : Nat) : Nat := bif decide (L.length ≤ I) then I else I + 1
def tpO (L : List Int) (I : Nat) : Sk.Obj := tapeO L (I : Int)
theorem u64_of {n : Int} (h0 : 0 < n) (h1 : n < 4611686018427387904) : IntKind.u64.wrap n = n := by rw [IntKind.wrap_u64]; omega
theorem cutF_in (x n : Int) (h0 : 0 < n) (h1 : n < 4611686018427387904) : 0 ≤ cutF x n ∧ cutF x n < n := by
  unfold cutF
  rw [u64_of h0 h1]
  have hx : 0 ≤ IntKind.u64.wrap x := by rw [IntKind.wrap_u64]; omega
  have a1 := Int.tmod_nonneg n hx
  have a2 := Int.tmod_lt_of_pos (IntKind.u64.wrap x) h0
  rw [wrapI (by omega) (by omega)]
  exact ⟨a1, a2⟩
theorem nxV_in (L : List Int) (I : Nat) (n : Int) (h0 : 0 < n) (h1 : n < 4611686018427387904) : 0 ≤ nxV L I n ∧ nxV L I n < n := by
  unfold nxV
  cases decide (L.length ≤ I) with
  | true => exact ⟨by simp, by simpa using h0⟩
  | false => exact cutF_in _ n h0 h1
theorem nxI_in (L : List Int) (I : Nat) (h : I ≤ L.length) : nxI L I ≤ L.length := by
  unfold nxI
  by_cases h' : L.length ≤ I
  · simp [h']; exact h
  · simp [h']; omega
set_option maxRecDepth 20000 in
theorem ok7n (L : List Int) (I : Nat) (n : Int) (hL : (L.length : Int) < 2 ^ 62) (hI : I ≤ L.length) (h0 : 0 < n) (h1 : n < 4611686018427387904) :
    FnC Tryd.prog 7 [tpO L I] [.ptr 0 0 0, .int .i64 n] (.int .i64 (nxV L I n)) [tpO L (nxI L I)] := by
  have hn : IntKind.u64.wrap n ≠ 0 := by rw [u64_of h0 h1]; omega
  by_cases hlt : I < L.length
  · have e1 : nxV L I n = cutF (L.getD I 0) n := by simp [nxV, show ¬ L.length ≤ I by omega]
    have e2 : nxI L I = I + 1 := by simp [nxI, show ¬ L.length ≤ I by omega]
    have := ok7 L I n hn (by omega) (by omega) (by omega)
    rw [e1, e2]
    simpa [tpO] using this
  · have e1 : nxV L I n = 0 := by simp [nxV, show L.length ≤ I by omega]
    have e2 : nxI L I = I := by simp [nxI, show L.length ≤ I by omega]
    rw [e1, e2]
    refine fn_okC (ob0 := [tpO L I]) (rc := rc7) (rvs := rv7) Tryd.func7 rfl rcq7 rvq7 (show 2 ≤ _ by decide) ?_
    repeat ((conv => whnf); first | refine Cd.seq ?_ | refine Cd.cut ?_ | refine Cd.reg ?_ | refine Cd.block ?_ | refine Cd.cond ?_ | refine Cd.dreg ?_ | refine Cd.skip ?_ | refine Cd.ret ?_ | refine Cd.exit ?_ | refine Cd.loop ?_ | refine ⟨rfl, ?_⟩ | refine ⟨Nat.le_of_ble_eq_true rfl, ?_⟩ | refine ⟨.inl rfl, ?_⟩ | refine ⟨fun h => Bool.noConfusion h, ?_⟩)
    conv => whnf
    rw [rowsI_len]
    refine ⟨fun h => ?_, fun h => ?_⟩
    · repeat ((conv => whnf); first | refine Cd.seq ?_ | refine Cd.cut ?_ | refine Cd.reg ?_ | refine Cd.block ?_ | refine Cd.cond ?_ | refine Cd.dreg ?_ | refine Cd.skip ?_ | refine Cd.ret ?_ | refine Cd.exit ?_ | refine Cd.loop ?_ | refine ⟨rfl, ?_⟩ | refine ⟨Nat.le_of_ble_eq_true rfl, ?_⟩ | refine ⟨.inl rfl, ?_⟩ | refine ⟨fun h => Bool.noConfusion h, ?_⟩)
      conv => whnf
      refine ⟨[some 0], ?_, rfl, ?_, rfl, ?_⟩
      · exact ⟨⟨⟨.inl rfl, fun h => h, rfl⟩, ⟨rfl, rfl⟩, trivial⟩, trivial⟩
      · exact ⟨rfl, trivial⟩
      · conv => whnf
        exact ⟨rfl, rfl⟩
    · simp at h; omega
def oddL : List Int := [0, 1, 2, 3, 4, 7, 8, 15, 16, 63, 64, 128, 255, 256, -1, 1000000, 1000001, 4611686018427387904, -9223372036854775808]
def oddF (L : List Int) (I : Nat) : Int := oddL.getD (nxV L I 19).toNat 0
theorem getLit {R : List (List V)} {M : List Int} (j : Int) (hR : R = rowsI M) (h0 : 0 ≤ j) (h : j < M.length) : R.getD (0 + j.toNat) [] = [.int .i64 (M.getD j.toNat 0)] := by
  subst hR
  rw [Nat.zero_add]
  have : j.toNat < M.length := by omega
  rw [rowsI_get M _ this]; simp [List.getD_eq_getElem?_getD, this]
set_option maxRecDepth 20000 in
theorem ok8 (L : List Int) (I : Nat) (hL : (L.length : Int) < 2 ^ 62) (hI : I ≤ L.length) : FnC Tryd.prog 8 [tpO L I] [.ptr 0 0 0] (.int .i64 (oddF L I)) [tpO L (nxI L I)] := by
  refine fn_okC (ob0 := [tpO L I]) (rc := rc8) (rvs := rv8) Tryd.func8 rfl rcq8 rvq8 (show 1 ≤ _ by decide) ?_
  repeat ((conv => whnf); first | refine Cd.seq ?_ | refine Cd.cut ?_ | refine Cd.reg ?_ | refine Cd.block ?_ | refine Cd.cond ?_ | refine Cd.dreg ?_ | refine Cd.skip ?_ | refine Cd.ret ?_ | refine Cd.exit ?_ | refine Cd.loop ?_ | refine ⟨rfl, ?_⟩ | refine ⟨Nat.le_of_ble_eq_true rfl, ?_⟩ | refine ⟨.inl rfl, ?_⟩ | refine ⟨fun h => Bool.noConfusion h, ?_⟩ | refine .inr ⟨fun _ => ⟨[0], _, _, _, ok7n L _ _ hL (by omega) (by omega) (by omega), ⟨rfl, rfl, trivial⟩, rfl, rfl, rfl, rfl, ?_⟩, (by intro h; cases h)⟩)
  conv => whnf
  have hv := nxV_in L I 19 (by omega) (by omega)
  refine ⟨fun _ => hv, ?_⟩
  repeat ((conv => whnf); first | refine Cd.seq ?_ | refine Cd.cut ?_ | refine Cd.reg ?_ | refine Cd.block ?_ | refine Cd.cond ?_ | refine Cd.dreg ?_ | refine Cd.skip ?_ | refine Cd.ret ?_ | refine Cd.exit ?_ | refine Cd.loop ?_ | refine ⟨rfl, ?_⟩ | refine ⟨Nat.le_of_ble_eq_true rfl, ?_⟩ | refine ⟨.inl rfl, ?_⟩ | refine ⟨fun h => Bool.noConfusion h, ?_⟩ | refine .inr ⟨fun _ => ⟨[0], _, _, _, ok7n L _ _ hL (by omega) (by omega) (by omega), ⟨rfl, rfl, trivial⟩, rfl, rfl, rfl, rfl, ?_⟩, (by intro h; cases h)⟩)
  conv => whnf
  refine ⟨fun _ => by simp only [List.length_set, List.length_replicate]; omega, ?_⟩
  rw [getLit (M := oddL) _ ?hR hv.1 hv.2]
  case hR => rfl
  repeat ((conv => whnf); first | refine Cd.seq ?_ | refine Cd.cut ?_ | refine Cd.reg ?_ | refine Cd.block ?_ | refine Cd.cond ?_ | refine Cd.dreg ?_ | refine Cd.skip ?_ | refine Cd.ret ?_ | refine Cd.exit ?_ | refine Cd.loop ?_ | refine ⟨rfl, ?_⟩ | refine ⟨Nat.le_of_ble_eq_true rfl, ?_⟩ | refine ⟨.inl rfl, ?_⟩ | refine ⟨fun h => Bool.noConfusion h, ?_⟩ | refine .inr ⟨fun _ => ⟨[0], _, _, _, ok7n L _ _ hL (by omega) (by omega) (by omega), ⟨rfl, rfl, trivial⟩, rfl, rfl, rfl, rfl, ?_⟩, (by intro h; cases h)⟩)
  conv => whnf
  try subst hk
  refine ⟨[some 0], ?_, rfl, ?_, rfl, ?_⟩
  all_goals repeat' (first | exact trivial | rfl | exact .inl rfl | exact .inr rfl | exact id | exact (fun h => Bool.noConfusion h) | refine And.intro ?_ ?_)
def nthS (l : List Stm) (j : Int) : Stm := l.getD j.toNat zeroS
def pick5 (s : Stm) : List Int := [s.stop, IntKind.i64.wrap (s.start - 1), IntKind.i64.wrap (s.start + s.step), IntKind.i64.wrap (s.stop + 1), s.start]
/-- Where an access begins that is drawn. -/
def fromG (L : List Int) (l : List Stm) (I : Nat) : Int × Nat :=
  bif decide (0 < (l.length : Int)) then
    bif decide (0 < nxV L (nxI L I) 3) then ((pick5 (nthS l (nxV L (nxI L (nxI L I)) l.length))).getD (nxV L (nxI L (nxI L (nxI L I))) 5).toNat 0, nxI L (nxI L (nxI L (nxI L I))))
    else (nxV L I 30, nxI L (nxI L I))
  else (nxV L I 30, nxI L I)
def streamsStep (L : List Int) (l : List Stm) (I : Nat) : List Stm × Nat :=
  ((feedR l (fromG L l I).1 (IntKind.i64.wrap (IntKind.i64.wrap ((fromG L l I).1 + 1) + nxV L (fromG L l I).2 3))).1, nxI L (fromG L l I).2)
def streamsLoop (L : List Int) : Nat → List Stm → Nat → List Stm × Nat
  | 0, l, I => (l, I)
  | n + 1, l, I => streamsLoop L n (streamsStep L l I).1 (streamsStep L l I).2
def streamsF (L : List Int) (I : Nat) : List Stm × Nat := streamsLoop L (nxV L I 12).toNat [] (nxI L I)
theorem feedR_len (l : List Stm) (a b : Int) : (feedR l a b).1.length ≤ l.length + 1 := by
  unfold feedR
  cases checkF l <;> cases validF a b <;> cases decide (1000000 < stampR l l.length) <;> cases decide (0 ≤ bestR l a b l.length) <;> cases decide ((l.length : Int) < 4) <;> simp
theorem feedR_len4 (l : List Stm) (a b : Int) (h : l.length ≤ 4) : (feedR l a b).1.length ≤ 4 := by
  unfold feedR
  by_cases h4 : (l.length : Int) < 4
  · have := feedR_len l a b
    unfold feedR at this
    omega
  · simp only [h4, decide_false, cond_false]
    cases checkF l <;> cases validF a b <;> cases decide (1000000 < stampR l l.length) <;> cases decide (0 ≤ bestR l a b l.length) <;> simp [h]
set_option maxRecDepth 20000 in
theorem ok6 (L : List Int) (I : Nat) (hL : (L.length : Int) < 2 ^ 62) (hI : I ≤ L.length) : FnC Tryd.prog 6 [tpO L I] [.ptr 0 0 0] (.lst 6 false (rowsS (streamsF L I).1)) [tpO L (streamsF L I).2] := by
  refine fn_okC (ob0 := [tpO L I]) (rc := rc6) (rvs := rv6) Tryd.func6 rfl rcq6 rvq6 (show 1 ≤ _ by decide) ?_
  have hI1 := nxI_in L I hI
  have hv := nxV_in L I 12 (by omega) (by omega)
  repeat ((conv => whnf); first | refine Cd.seq ?_ | refine Cd.cut ?_ | refine Cd.reg ?_ | refine Cd.block ?_ | refine Cd.cond ?_ | refine Cd.dreg ?_ | refine Cd.skip ?_ | refine Cd.ret ?_ | refine Cd.exit ?_ | refine Cd.loop ?_ | refine ⟨rfl, ?_⟩ | refine ⟨Nat.le_of_ble_eq_true rfl, ?_⟩ | refine ⟨.inl rfl, ?_⟩ | refine ⟨fun h => Bool.noConfusion h, ?_⟩ | refine .inr ⟨fun _ => ⟨[0], _, _, _, ok7n L _ _ hL (by omega) (by omega) (by omega), ⟨rfl, rfl, trivial⟩, rfl, rfl, rfl, rfl, ?_⟩, (by intro h; cases h)⟩)
  conv => whnf
  refine ⟨Nat × List Stm × Nat, fun p => p.1 < 12 ∧ p.2.1.length ≤ 4 ∧ p.2.2 ≤ L.length ∧ streamsLoop L p.1 p.2.1 p.2.2 = streamsF L I,
    fun | (n, l, J) => ⟨[(0, ⟨[], true, .ptr 0 0 0⟩), (2, ⟨[], true, .lst 0 true []⟩), (3, ⟨[], true, .lst 6 false (rowsS l)⟩), (4, ⟨[], true, .int .i64 (n : Int)⟩)], [(0, tpO L J)], 1⟩, fun p => p.1, ⟨((nxV L I 12).toNat, [], nxI L I), ⟨by simp; omega, by simp, hI1, rfl⟩, ?_⟩, fun p hJ => ?_⟩
  · refine viewI [some 0] rfl rfl ?_ rfl ?_ rfl ?_
    repeat' (first | exact trivial | rfl | exact .inl rfl | exact .inr rfl | exact id | exact (fun h => Bool.noConfusion h) | refine And.intro ?_ ?_)
    omega
  obtain ⟨n, l, J⟩ := p
  obtain ⟨hJ1, hJ2, hJ3, hJ4⟩ := hJ
  simp only at hJ1 hJ2 hJ3 hJ4
  repeat ((conv => whnf); first | refine Cd.seq ?_ | refine Cd.cut ?_ | refine Cd.reg ?_ | refine Cd.block ?_ | refine Cd.cond ?_ | refine Cd.dreg ?_ | refine Cd.skip ?_ | refine Cd.ret ?_ | refine Cd.exit ?_ | refine Cd.loop ?_ | refine ⟨rfl, ?_⟩ | refine ⟨Nat.le_of_ble_eq_true rfl, ?_⟩ | refine ⟨.inl rfl, ?_⟩ | refine ⟨fun h => Bool.noConfusion h, ?_⟩ | refine .inr ⟨fun _ => ⟨[0], _, _, _, ok7n L _ _ hL (by omega) (by omega) (by omega), ⟨rfl, rfl, trivial⟩, rfl, rfl, rfl, rfl, ?_⟩, (by intro h; cases h)⟩)
  conv => whnf
  refine ⟨fun hn => ?_, fun hn => ?_⟩ <;> try simp only [Bool.cond_true_left, Bool.cond_false_right, Bool.not_eq_true', Bool.not_eq_false', Bool.not_not] at hn
  · cases n with
    | zero => simp at hn
    | succ n =>
    have hJ4 : streamsLoop L n (streamsStep L l J).1 (streamsStep L l J).2 = streamsF L I := hJ4
    have a1 := nxI_in L J hJ3
    have a2 := nxI_in L _ a1
    have a3 := nxI_in L _ a2
    have a4 := nxI_in L _ a3
    have hl4 : ∀ a b, (feedR l a b).1.length ≤ 4 := fun a b => feedR_len4 l a b hJ2
    have hwn : IntKind.i64.wrap (((n + 1 : Nat) : Int) - 1) = (n : Int) := by rw [wrapI (by omega) (by omega)]; omega
    repeat ((conv => whnf); first | refine Cd.seq ?_ | refine Cd.cut ?_ | refine Cd.reg ?_ | refine Cd.block ?_ | refine Cd.cond ?_ | refine Cd.dreg ?_ | refine Cd.skip ?_ | refine Cd.ret ?_ | refine Cd.exit ?_ | refine Cd.loop ?_ | refine ⟨rfl, ?_⟩ | refine ⟨Nat.le_of_ble_eq_true rfl, ?_⟩ | refine ⟨.inl rfl, ?_⟩ | refine ⟨fun h => Bool.noConfusion h, ?_⟩ | refine .inr ⟨fun _ => ⟨[0], _, _, _, ok7n L _ _ hL (by omega) (by omega) (by omega), ⟨rfl, rfl, trivial⟩, rfl, rfl, rfl, rfl, ?_⟩, (by intro h; cases h)⟩)
    conv => whnf
    rw [rowsS_len]
    refine .inr ⟨fun hg => ⟨[0], _, _, _, ok7n L _ _ hL a1 (by omega) (by omega), ⟨rfl, rfl, trivial⟩, rfl, rfl, rfl, rfl, ?_⟩, fun hg => ?_⟩
    · simp only [hg]
      repeat ((conv => whnf); first | refine Cd.seq ?_ | refine Cd.cut ?_ | refine Cd.reg ?_ | refine Cd.block ?_ | refine Cd.cond ?_ | refine Cd.dreg ?_ | refine Cd.skip ?_ | refine Cd.ret ?_ | refine Cd.exit ?_ | refine Cd.loop ?_ | refine ⟨rfl, ?_⟩ | refine ⟨Nat.le_of_ble_eq_true rfl, ?_⟩ | refine ⟨.inl rfl, ?_⟩ | refine ⟨fun h => Bool.noConfusion h, ?_⟩ | refine .inr ⟨fun _ => ⟨[0], _, _, _, ok7n L _ _ hL (by omega) (by omega) (by omega), ⟨rfl, rfl, trivial⟩, rfl, rfl, rfl, rfl, ?_⟩, (by intro h; cases h)⟩)
      conv => whnf
      refine ⟨fun hb => ?_, fun hb => ?_⟩ <;> try simp only [Bool.cond_true_left, Bool.cond_false_right, Bool.not_eq_true', Bool.not_eq_false', Bool.not_not] at hb
      · simp only [Bool.true_and] at hb
        have hg' : 0 < l.length := by simp at hg; omega
        have hw := nxV_in L (nxI L (nxI L J)) l.length (by omega) (by omega)
        have hw5 := nxV_in L (nxI L (nxI L (nxI L J))) 5 (by omega) (by omega)
        have hfg : fromG L l J = ((pick5 (nthS l (nxV L (nxI L (nxI L J)) l.length))).getD (nxV L (nxI L (nxI L (nxI L J))) 5).toNat 0, nxI L (nxI L (nxI L (nxI L J)))) := by
          simp only [fromG, hg, hb, cond_true]
        have hst : streamsStep L l J = ((feedR l (fromG L l J).1 (IntKind.i64.wrap (IntKind.i64.wrap ((fromG L l J).1 + 1) + nxV L (fromG L l J).2 3))).1, nxI L (fromG L l J).2) := rfl
        rw [hfg] at hst
        have hw3 := nxV_in L (nxI L (nxI L (nxI L (nxI L J)))) 3 (by omega) (by omega)
        repeat ((conv => whnf); first | refine Cd.seq ?_ | refine Cd.cut ?_ | refine Cd.reg ?_ | refine Cd.block ?_ | refine Cd.cond ?_ | refine Cd.dreg ?_ | refine Cd.skip ?_ | refine Cd.ret ?_ | refine Cd.exit ?_ | refine Cd.loop ?_ | refine ⟨rfl, ?_⟩ | refine ⟨Nat.le_of_ble_eq_true rfl, ?_⟩ | refine ⟨.inl rfl, ?_⟩ | refine ⟨fun h => Bool.noConfusion h, ?_⟩ | refine .inr ⟨fun _ => ⟨[0], _, _, _, ok7n L _ _ hL (by omega) (by omega) (by omega), ⟨rfl, rfl, trivial⟩, rfl, rfl, rfl, rfl, ?_⟩, (by intro h; cases h)⟩)
        conv => whnf
        rw [rowsS_len]
        repeat ((conv => whnf); first | refine Cd.seq ?_ | refine Cd.cut ?_ | refine Cd.reg ?_ | refine Cd.block ?_ | refine Cd.cond ?_ | refine Cd.dreg ?_ | refine Cd.skip ?_ | refine Cd.ret ?_ | refine Cd.exit ?_ | refine Cd.loop ?_ | refine ⟨rfl, ?_⟩ | refine ⟨Nat.le_of_ble_eq_true rfl, ?_⟩ | refine ⟨.inl rfl, ?_⟩ | refine ⟨fun h => Bool.noConfusion h, ?_⟩ | refine .inr ⟨fun _ => ⟨[0], _, _, _, ok7n L _ _ hL (by omega) (by omega) (by omega), ⟨rfl, rfl, trivial⟩, rfl, rfl, rfl, rfl, ?_⟩, (by intro h; cases h)⟩)
        conv => whnf
        refine ⟨fun _ => ⟨rfl, hw.1, by rw [rowsS_len]; exact hw.2⟩, ?_⟩
        rw [rowsS_getI l _ hw.1 hw.2]
        obtain ⟨s, hs⟩ : ∃ s, s = nthS l (nxV L (nxI L (nxI L J)) l.length) := ⟨_, rfl⟩
        rw [← hs] at hst
        rw [show l.getD (nxV L (nxI L (nxI L J)) ↑l.length).toNat zeroS = s from hs.symm]
        repeat ((conv => whnf); first | refine Cd.seq ?_ | refine Cd.cut ?_ | refine Cd.reg ?_ | refine Cd.block ?_ | refine Cd.cond ?_ | refine Cd.dreg ?_ | refine Cd.skip ?_ | refine Cd.ret ?_ | refine Cd.exit ?_ | refine Cd.loop ?_ | refine ⟨rfl, ?_⟩ | refine ⟨Nat.le_of_ble_eq_true rfl, ?_⟩ | refine ⟨.inl rfl, ?_⟩ | refine ⟨fun h => Bool.noConfusion h, ?_⟩ | refine .inr ⟨fun _ => ⟨[0], _, _, _, ok7n L _ _ hL (by omega) (by omega) (by omega), ⟨rfl, rfl, trivial⟩, rfl, rfl, rfl, rfl, ?_⟩, (by intro h; cases h)⟩)
        conv => whnf
        refine ⟨fun _ => hw5, ?_⟩
        repeat ((conv => whnf); first | refine Cd.seq ?_ | refine Cd.cut ?_ | refine Cd.reg ?_ | refine Cd.block ?_ | refine Cd.cond ?_ | refine Cd.dreg ?_ | refine Cd.skip ?_ | refine Cd.ret ?_ | refine Cd.exit ?_ | refine Cd.loop ?_ | refine ⟨rfl, ?_⟩ | refine ⟨Nat.le_of_ble_eq_true rfl, ?_⟩ | refine ⟨.inl rfl, ?_⟩ | refine ⟨fun h => Bool.noConfusion h, ?_⟩ | refine .inr ⟨fun _ => ⟨[0], _, _, _, ok7n L _ _ hL (by omega) (by omega) (by omega), ⟨rfl, rfl, trivial⟩, rfl, rfl, rfl, rfl, ?_⟩, (by intro h; cases h)⟩)
        conv => whnf
        refine ⟨fun _ => by simp only [List.length_set, List.length_replicate]; omega, ?_⟩
        rw [getLit (M := pick5 s) _ ?hR hw5.1 hw5.2]
        case hR => rfl
        repeat ((conv => whnf); first | refine Cd.seq ?_ | refine Cd.cut ?_ | refine Cd.reg ?_ | refine Cd.block ?_ | refine Cd.cond ?_ | refine Cd.dreg ?_ | refine Cd.skip ?_ | refine Cd.ret ?_ | refine Cd.exit ?_ | refine Cd.loop ?_ | refine ⟨rfl, ?_⟩ | refine ⟨Nat.le_of_ble_eq_true rfl, ?_⟩ | refine ⟨.inl rfl, ?_⟩ | refine ⟨fun h => Bool.noConfusion h, ?_⟩ | refine .inl ⟨_, fun _ => ⟨purA rfl, (by first | exact ok24 l false _ _ (by omega))⟩, .inl rfl, ?_⟩ | refine .inr ⟨fun _ => ⟨[0], _, _, _, ok7n L _ _ hL (by omega) (by omega) (by omega), ⟨rfl, rfl, trivial⟩, rfl, rfl, rfl, rfl, ?_⟩, (by intro h; cases h)⟩)
        conv => whnf
        rw [hwn]
        rw [hst] at hJ4
        refine ⟨(n, _, _), ⟨by show n < 12; omega, hl4 _ _, nxI_in L _ a4, hJ4⟩, ?_, by show n < n + 1; omega⟩
        refine viewI [some 0] rfl rfl ?_ rfl ?_ rfl ?_
        repeat' (first | exact trivial | rfl | exact .inl rfl | exact .inr rfl | exact id | exact (fun h => Bool.noConfusion h) | refine And.intro ?_ ?_)
      · simp only [Bool.true_and] at hb
        have hfg : fromG L l J = (nxV L J 30, nxI L (nxI L J)) := by
          simp only [fromG, hg, hb, cond_true, cond_false]
        have hst : streamsStep L l J = ((feedR l (fromG L l J).1 (IntKind.i64.wrap (IntKind.i64.wrap ((fromG L l J).1 + 1) + nxV L (fromG L l J).2 3))).1, nxI L (fromG L l J).2) := rfl
        rw [hfg] at hst
        repeat ((conv => whnf); first | refine Cd.seq ?_ | refine Cd.cut ?_ | refine Cd.reg ?_ | refine Cd.block ?_ | refine Cd.cond ?_ | refine Cd.dreg ?_ | refine Cd.skip ?_ | refine Cd.ret ?_ | refine Cd.exit ?_ | refine Cd.loop ?_ | refine ⟨rfl, ?_⟩ | refine ⟨Nat.le_of_ble_eq_true rfl, ?_⟩ | refine ⟨.inl rfl, ?_⟩ | refine ⟨fun h => Bool.noConfusion h, ?_⟩ | refine .inl ⟨_, fun _ => ⟨purA rfl, (by first | exact ok24 l false _ _ (by omega))⟩, .inl rfl, ?_⟩ | refine .inr ⟨fun _ => ⟨[0], _, _, _, ok7n L _ _ hL (by omega) (by omega) (by omega), ⟨rfl, rfl, trivial⟩, rfl, rfl, rfl, rfl, ?_⟩, (by intro h; cases h)⟩)
        conv => whnf
        rw [hwn]
        rw [hst] at hJ4
        refine ⟨(n, _, _), ⟨by show n < 12; omega, hl4 _ _, nxI_in L _ a2, hJ4⟩, ?_, by show n < n + 1; omega⟩
        refine viewI [some 0] rfl rfl ?_ rfl ?_ rfl ?_
        repeat' (first | exact trivial | rfl | exact .inl rfl | exact .inr rfl | exact id | exact (fun h => Bool.noConfusion h) | refine And.intro ?_ ?_)
    · simp only [hg]
      have hfg : fromG L l J = (nxV L J 30, nxI L J) := by
        simp only [fromG, hg, cond_false]
      have hst : streamsStep L l J = ((feedR l (fromG L l J).1 (IntKind.i64.wrap (IntKind.i64.wrap ((fromG L l J).1 + 1) + nxV L (fromG L l J).2 3))).1, nxI L (fromG L l J).2) := rfl
      rw [hfg] at hst
      repeat ((conv => whnf); first | refine Cd.seq ?_ | refine Cd.cut ?_ | refine Cd.reg ?_ | refine Cd.block ?_ | refine Cd.cond ?_ | refine Cd.dreg ?_ | refine Cd.skip ?_ | refine Cd.ret ?_ | refine Cd.exit ?_ | refine Cd.loop ?_ | refine ⟨rfl, ?_⟩ | refine ⟨Nat.le_of_ble_eq_true rfl, ?_⟩ | refine ⟨.inl rfl, ?_⟩ | refine ⟨fun h => Bool.noConfusion h, ?_⟩ | refine .inl ⟨_, fun _ => ⟨purA rfl, (by first | exact ok24 l false _ _ (by omega))⟩, .inl rfl, ?_⟩ | refine .inr ⟨fun _ => ⟨[0], _, _, _, ok7n L _ _ hL (by omega) (by omega) (by omega), ⟨rfl, rfl, trivial⟩, rfl, rfl, rfl, rfl, ?_⟩, (by intro h; cases h)⟩)
      conv => whnf
      first | refine ⟨fun h => (by cases h), fun _ => ?_⟩ | refine fun _ => ?_
      repeat ((conv => whnf); first | refine Cd.seq ?_ | refine Cd.cut ?_ | refine Cd.reg ?_ | refine Cd.block ?_ | refine Cd.cond ?_ | refine Cd.dreg ?_ | refine Cd.skip ?_ | refine Cd.ret ?_ | refine Cd.exit ?_ | refine Cd.loop ?_ | refine ⟨rfl, ?_⟩ | refine ⟨Nat.le_of_ble_eq_true rfl, ?_⟩ | refine ⟨.inl rfl, ?_⟩ | refine ⟨fun h => Bool.noConfusion h, ?_⟩ | refine .inl ⟨_, fun _ => ⟨purA rfl, (by first | exact ok24 l false _ _ (by omega))⟩, .inl rfl, ?_⟩ | refine .inr ⟨fun _ => ⟨[0], _, _, _, ok7n L _ _ hL (by omega) (by omega) (by omega), ⟨rfl, rfl, trivial⟩, rfl, rfl, rfl, rfl, ?_⟩, (by intro h; cases h)⟩)
      conv => whnf
      rw [hwn]
      rw [hst] at hJ4
      refine ⟨(n, _, _), ⟨by show n < 12; omega, hl4 _ _, nxI_in L _ a1, hJ4⟩, ?_, by show n < n + 1; omega⟩
      refine viewI [some 0] rfl rfl ?_ rfl ?_ rfl ?_
      repeat' (first | exact trivial | rfl | exact .inl rfl | exact .inr rfl | exact id | exact (fun h => Bool.noConfusion h) | refine And.intro ?_ ?_)
  cases n with
  | succ n => simp at hn
  | zero =>
  have hJ4 : (l, J) = streamsF L I := hJ4
  repeat ((conv => whnf); first | refine Cd.seq ?_ | refine Cd.cut ?_ | refine Cd.reg ?_ | refine Cd.block ?_ | refine Cd.cond ?_ | refine Cd.dreg ?_ | refine Cd.skip ?_ | refine Cd.ret ?_ | refine Cd.exit ?_ | refine Cd.loop ?_ | refine ⟨rfl, ?_⟩ | refine ⟨Nat.le_of_ble_eq_true rfl, ?_⟩ | refine ⟨.inl rfl, ?_⟩ | refine ⟨fun h => Bool.noConfusion h, ?_⟩ | refine .inr ⟨fun _ => ⟨[0], _, _, _, ok7n L _ _ hL (by omega) (by omega) (by omega), ⟨rfl, rfl, trivial⟩, rfl, rfl, rfl, rfl, ?_⟩, (by intro h; cases h)⟩)
  conv => whnf
  rw [← hJ4]
  try subst hk
  refine ⟨[some 0], ?_, rfl, ?_, rfl, ?_⟩
  all_goals repeat' (first | exact trivial | rfl | exact .inl rfl | exact .inr rfl | exact id | exact (fun h => Bool.noConfusion h) | refine And.intro ?_ ?_)
end Go.Proofs.YteelckbeekgfiaaDoor
