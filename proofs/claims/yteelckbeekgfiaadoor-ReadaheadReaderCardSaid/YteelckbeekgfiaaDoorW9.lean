/- Stream: Feed. -/
import Derived.Test.YteelckbeekgfiaaDoorW8
set_option linter.unusedSimpArgs false
set_option linter.unusedVariables false
namespace Go.Proofs.YteelckbeekgfiaaDoor
open Go Go.Sk Go.RowKit

/- pagecache/stream.Feed -/
def rc23 : RC :=
  (.seq
  (.reg [⟨(some 6), none, (.mv (.c (.lst 0 true [])))⟩,
    ⟨(some 7), none, (.mv (.c (.int .i64 0)))⟩,
    ⟨(some 8), none, (.mv (.c (.int .i64 0)))⟩] [])
  (.seq
  (.reg [⟨(some 19), none, (.mv (.t 0))⟩,
    ⟨(some 20), none, (.app 6 48 (.c (.lst 0 true [])) (.t 19))⟩,
    ⟨(some 9), none, (.mv (.t 20))⟩] [19, 20])
  (.seq
  (.seq
  (.reg [⟨(some 21), none, (.mv (.t 0))⟩,
    ⟨(some 22), none, (.call 26 [(.t 21)])⟩,
    ⟨(some 23), none, (.un .not (.t 22))⟩] [21, 22])
  (.cond (.t 23)
   (.seq
   (.reg [⟨(some 24), none, (.mv (.t 9))⟩,
     ⟨(some 6), none, (.mv (.t 24))⟩,
     ⟨(some 7), none, (.mv (.c (.int .i64 0)))⟩,
     ⟨(some 8), none, (.mv (.c (.int .i64 1)))⟩] [24])
   .ret)
   .skip))
  (.seq
  (.seq
  (.reg [⟨(some 25), none, (.mv (.t 1))⟩,
    ⟨(some 26), none, (.mv (.t 2))⟩,
    ⟨(some 27), none, (.call 35 [(.t 25), (.t 26)])⟩,
    ⟨(some 28), none, (.un .not (.t 27))⟩] [25, 26, 27])
  (.cond (.t 28)
   (.seq
   (.reg [⟨(some 29), none, (.mv (.t 9))⟩,
     ⟨(some 6), none, (.mv (.t 29))⟩,
     ⟨(some 7), none, (.mv (.c (.int .i64 0)))⟩,
     ⟨(some 8), none, (.mv (.c (.int .i64 2)))⟩] [29])
   .ret)
   .skip))
  (.seq
  (.reg [⟨(some 10), none, (.alloc [(.int .i64 0), (.int .i64 0), (.int .i64 0), (.int .i64 0), (.int .i64 0), (.int .i64 0)])⟩] [])
  (.seq
  (.reg [⟨(some 30), none, (.mv (.t 1))⟩,
    ⟨(some 31), none, (.mv (.t 2))⟩,
    ⟨(some 32), none, (.build [(.int .i64 0), (.int .i64 0), (.int .i64 0), (.int .i64 0), (.int .i64 0), (.int .i64 0)] [(0, (1, (.c (.int .i64 1)))), (1, (1, (.t 30))), (2, (1, (.t 31)))])⟩,
    ⟨(some 11), none, (.alloc [(.int .i64 0), (.int .i64 0), (.int .i64 0), (.int .i64 0), (.int .i64 0), (.int .i64 0)])⟩,
    ⟨none, none, (.st 6 (.t 11) (.t 32))⟩] [30, 31, 32])
  (.seq
  (.reg [⟨(some 33), none, (.mv (.t 0))⟩,
    ⟨(some 34), none, (.len (.t 33))⟩,
    ⟨(some 12), none, (.mv (.t 34))⟩,
    ⟨(some 13), none, (.mv (.c (.int .i64 0)))⟩,
    ⟨(some 14), none, (.mv (.c (.int .i64 0)))⟩] [33, 34])
  (.seq
  (.seq
  (.reg [⟨(some 35), none, (.mv (.t 0))⟩,
    ⟨(some 36), none, (.len (.t 35))⟩,
    ⟨(some 37), none, (.mv (.c (.int .i64 0)))⟩] [])
  (.block 0
   (.loop
    (.seq
    (.reg [⟨(some 38), none, (.bin .lss (.t 37) (.t 36))⟩] [])
    (.seq
    (.cond (.t 38)
     .skip
     (.exit 0))
    (.seq
    (.block 1
     (.seq
     (.reg [⟨(some 39), none, (.mv (.t 37))⟩,
       ⟨(some 40), none, (.iaddr 6 (.t 35) (.t 37))⟩,
       ⟨(some 41), none, (.ld true 6 (.t 40))⟩,
       ⟨(some 16), none, (.alloc [(.int .i64 0), (.int .i64 0), (.int .i64 0), (.int .i64 0), (.int .i64 0), (.int .i64 0)])⟩,
       ⟨(some 15), none, (.mv (.t 39))⟩,
       ⟨none, none, (.st 6 (.t 16) (.t 41))⟩] [39, 40, 41])
     (.seq
     (.reg [⟨(some 42), none, (.mv (.t 14))⟩,
       ⟨(some 43), none, (.faddr 5 (.t 16))⟩,
       ⟨(some 44), none, (.ld false 1 (.t 43))⟩,
       ⟨(some 45), none, (.mx (.t 42) (.t 44))⟩,
       ⟨(some 14), none, (.mv (.t 45))⟩] [42, 43, 44, 45])
     (.seq
     (.seq
     (.dreg 14336 14464 [⟨(some 46), none, (.faddr 5 (.t 16))⟩,
       ⟨(some 47), none, (.ld false 1 (.t 46))⟩,
       ⟨(some 48), none, (.mv (.t 0))⟩,
       ⟨(some 49), none, (.mv (.t 13))⟩,
       ⟨(some 50), none, (.iaddr 6 (.t 48) (.t 49))⟩,
       ⟨(some 51), none, (.faddr 5 (.t 50))⟩,
       ⟨(some 52), none, (.ld false 1 (.t 51))⟩,
       ⟨(some 53), none, (.bin .lss (.t 47) (.t 52))⟩] [46, 47, 48, 49, 50, 51, 52] [[], [0], [], [], [2, 3], [4, 3, 2], [5, 2, 3, 4], [1, 0, 6, 4, 3, 2, 5]] [14336, 14352, 14368, 14384, 14400, 14416, 14432, 14448])
     (.cond (.t 53)
      (.reg [⟨(some 54), none, (.mv (.t 15))⟩,
        ⟨(some 13), none, (.mv (.t 54))⟩] [54])
      .skip))
     (.seq
     (.reg [⟨(some 56), none, (.ld true 6 (.t 16))⟩,
       ⟨(some 57), none, (.mv (.t 1))⟩,
       ⟨(some 58), none, (.mv (.t 2))⟩,
       ⟨(some 59), none, (.call 36 [(.t 56), (.t 57), (.t 58)])⟩,
       ⟨(some 55), none, (.mv (.t 59))⟩,
       ⟨(some 60), none, (.extr 0 (.t 55))⟩,
       ⟨(some 61), none, (.extr 1 (.t 55))⟩,
       ⟨(some 17), none, (.alloc [(.int .i64 0), (.int .i64 0), (.int .i64 0), (.int .i64 0), (.int .i64 0), (.int .i64 0)])⟩,
       ⟨none, none, (.st 6 (.t 17) (.t 60))⟩,
       ⟨(some 18), none, (.mv (.t 61))⟩] [56, 57, 58, 59, 55, 60, 61])
     (.seq
     (.reg [⟨(some 62), none, (.mv (.t 18))⟩,
       ⟨(some 63), none, (.mv (.t 62))⟩,
       ⟨(some 64), (some (63, true)), (.ld true 6 (.t 16))⟩,
       ⟨(some 65), (some (63, true)), (.ld true 6 (.t 10))⟩,
       ⟨(some 66), (some (63, true)), (.call 37 [(.t 64), (.t 65)])⟩,
       ⟨(some 67), none, (.pick (.t 63) (.t 66) (.c (.bool false)))⟩] [62, 63, 64, 65, 66])
     (.cond (.t 67)
      (.dreg 18432 18528 [⟨(some 68), none, (.ld true 6 (.t 16))⟩,
        ⟨(some 69), none, (.ld true 6 (.t 17))⟩,
        ⟨(some 70), none, (.mv (.t 15))⟩,
        ⟨none, none, (.st 6 (.t 10) (.t 68))⟩,
        ⟨none, none, (.st 6 (.t 11) (.t 69))⟩,
        ⟨(some 12), none, (.mv (.t 70))⟩] [68, 69, 70] [[], [], [], [0], [1, 3, 0], [2, 4, 0, 3, 1]] [18432, 18448, 18464, 18480, 18496, 18512])
      .skip)))))))
    (.reg [⟨(some 71), none, (.bin .add (.t 37) (.c (.int .i64 1)))⟩,
      ⟨(some 37), none, (.mv (.t 71))⟩] [71])))))))
  (.seq
  (.seq
  (.reg [⟨(some 72), none, (.mv (.t 14))⟩,
    ⟨(some 73), none, (.bin .eql (.t 72) (.c (.int .i64 1000000)))⟩] [72])
  (.cond (.t 73)
   (.seq
   (.reg [⟨(some 74), none, (.mv (.t 9))⟩,
     ⟨(some 6), none, (.mv (.t 74))⟩,
     ⟨(some 7), none, (.mv (.c (.int .i64 0)))⟩,
     ⟨(some 8), none, (.mv (.c (.int .i64 3)))⟩] [74])
   .ret)
   .skip))
  (.seq
  (.reg [⟨(some 75), none, (.mv (.t 14))⟩,
    ⟨(some 76), none, (.bin .add (.t 75) (.c (.int .i64 1)))⟩,
    ⟨(some 77), none, (.faddr 5 (.t 11))⟩,
    ⟨none, none, (.st 1 (.t 77) (.t 76))⟩] [75, 76, 77])
  (.seq
  (.seq
  (.reg [⟨(some 78), none, (.mv (.t 12))⟩,
    ⟨(some 79), none, (.bin .eql (.t 78) (.c (.int .i64 4)))⟩] [78])
  (.cond (.t 79)
   (.reg [⟨(some 80), none, (.mv (.t 13))⟩,
     ⟨(some 12), none, (.mv (.t 80))⟩] [80])
   .skip))
  (.seq
  (.seq
  (.reg [⟨(some 81), none, (.mv (.t 12))⟩,
    ⟨(some 82), none, (.mv (.t 0))⟩,
    ⟨(some 83), none, (.len (.t 82))⟩,
    ⟨(some 84), none, (.bin .eql (.t 81) (.t 83))⟩] [81, 82, 83])
  (.cond (.t 84)
   (.seq
   (.reg [⟨(some 85), none, (.mv (.t 9))⟩,
     ⟨(some 86), none, (.ld true 6 (.t 11))⟩,
     ⟨(some 87), none, (.bslice 6 [(.int .i64 0), (.int .i64 0), (.int .i64 0), (.int .i64 0), (.int .i64 0), (.int .i64 0)] 1 [(0, (.t 86))])⟩,
     ⟨(some 88), none, (.app 6 48 (.t 85) (.t 87))⟩,
     ⟨(some 89), none, (.mv (.t 12))⟩,
     ⟨(some 6), none, (.mv (.t 88))⟩,
     ⟨(some 7), none, (.mv (.t 89))⟩,
     ⟨(some 8), none, (.mv (.c (.int .i64 0)))⟩] [85, 86, 87, 88, 89])
   .ret)
   .skip))
  (.seq
  (.reg [⟨(some 90), none, (.mv (.t 9))⟩,
    ⟨(some 91), none, (.mv (.t 12))⟩,
    ⟨(some 92), none, (.ld true 6 (.t 11))⟩,
    ⟨(some 93), none, (.iaddr 6 (.t 90) (.t 91))⟩,
    ⟨none, none, (.st 6 (.t 93) (.t 92))⟩] [90, 91, 92, 93])
  (.seq
  (.reg [⟨(some 94), none, (.mv (.t 9))⟩,
    ⟨(some 95), none, (.mv (.t 12))⟩,
    ⟨(some 6), none, (.mv (.t 94))⟩,
    ⟨(some 7), none, (.mv (.t 95))⟩,
    ⟨(some 8), none, (.mv (.c (.int .i64 0)))⟩] [94, 95])
  .ret))))))))))))))
theorem rcq23 : resC Go.Proofs.Tryd.prog Go.Proofs.Tryd.f23.ntmps ((Go.Proofs.Tryd.f23.body).getD .skip) = some (strip rc23) := by kernel_rfl
def rv23 : List RV := [(.tmp 6), (.tmp 7), (.tmp 8)]
theorem rvq23 : Go.Proofs.Tryd.f23.results.toList.mapM (resRV Go.Proofs.Tryd.prog) = some rv23 := by kernel_rfl

def zeroS : Stm := ⟨0, 0, 0, 0, 0, 0⟩
structure FeedSt where
  best : Stm
  next : Stm
  pos : Int
  oldest : Int
  stamp : Int
def feedOld (l : List Stm) (i : Nat) (s : Stm) (o : Int) : Int := bif decide (s.stamp < (l.getD o.toNat zeroS).stamp) then (i : Int) else o
def feedTake (a b : Int) (s : Stm) (best : Stm) : Bool := (matchesF s a b).2 && betterP s best
def feedStep (l : List Stm) (a b : Int) (i : Nat) (s : Stm) (f : FeedSt) : FeedSt :=
  bif feedTake a b s f.best then ⟨s, (matchesF s a b).1, i, feedOld l i s f.oldest, max f.stamp s.stamp⟩
  else ⟨f.best, f.next, f.pos, feedOld l i s f.oldest, max f.stamp s.stamp⟩
def foldP (l : List Stm) (a b : Int) : Nat → FeedSt
  | 0 => ⟨zeroS, ⟨1, a, b, 0, 0, 0⟩, l.length, 0, 0⟩
  | i + 1 => feedStep l a b i (l.getD i zeroS) (foldP l a b i)
theorem foldP_old (l : List Stm) (a b : Int) : ∀ (i : Nat), i ≤ l.length → 0 < l.length → 0 ≤ (foldP l a b i).oldest ∧ (foldP l a b i).oldest < l.length
  | 0, _, h => ⟨by simp [foldP], by simp [foldP]; omega⟩
  | i + 1, hi, h => by
    have ih := foldP_old l a b i (by omega) h
    simp only [foldP, feedStep]
    have : (feedOld l i (l.getD i zeroS) (foldP l a b i).oldest) = i ∨ feedOld l i (l.getD i zeroS) (foldP l a b i).oldest = (foldP l a b i).oldest := by
      unfold feedOld
      cases decide ((l.getD i zeroS).stamp < (l.getD (foldP l a b i).oldest.toNat zeroS).stamp) <;> simp
    cases feedTake a b (l.getD i zeroS) (foldP l a b i).best <;> simp only [cond_true, cond_false] <;> rcases this with h | h <;> rw [h] <;> omega
theorem foldP_pos (l : List Stm) (a b : Int) : ∀ (i : Nat), i ≤ l.length → 0 ≤ (foldP l a b i).pos ∧ ((foldP l a b i).pos < i ∨ (foldP l a b i).pos = l.length)
  | 0, _ => ⟨by simp [foldP], by simp [foldP]⟩
  | i + 1, hi => by
    have ih := foldP_pos l a b i (by omega)
    simp only [foldP, feedStep]
    cases feedTake a b (l.getD i zeroS) (foldP l a b i).best <;> simp only [cond_true, cond_false] <;> omega
def feedAt (l : List Stm) (f : FeedSt) : Int := bif f.pos == 4 then f.oldest else f.pos
def feedNext (f : FeedSt) : Stm := ⟨f.next.kind, f.next.start, f.next.stop, f.next.step, f.next.hits, IntKind.i64.wrap (f.stamp + 1)⟩
def feedP (l : List Stm) (a b : Int) : List Stm × Int × Int :=
  bif !checkF l then (l, 0, 1) else bif !validF a b then (l, 0, 2) else
  bif (foldP l a b l.length).stamp == 1000000 then (l, 0, 3) else
  bif feedAt l (foldP l a b l.length) == l.length then (l ++ [feedNext (foldP l a b l.length)], feedAt l (foldP l a b l.length), 0)
  else (l.set (feedAt l (foldP l a b l.length)).toNat (feedNext (foldP l a b l.length)), feedAt l (foldP l a b l.length), 0)
theorem rowsS_getI (l : List Stm) (j : Int) (h0 : 0 ≤ j) (h : j < l.length) : (rowsS l).getD j.toNat [] = (l.getD j.toNat zeroS).c := by
  have : j.toNat < l.length := by omega
  rw [rowsS_get l _ this]; simp [List.getD_eq_getElem?_getD, this]
theorem out_le (l : List Stm) : 0 + l.length ≤ (rowsS l).length := by rw [rowsS_len]; omega
theorem out_take (l : List Stm) : ((rowsS l).drop 0).take l.length = rowsS l := by rw [← rowsS_len l]; simp
theorem take0 {xs : List (List V)} {n : Nat} (h : xs.length = n) : (xs.drop 0).take n = xs := by subst h; simp
theorem out_le' (l : List Stm) (i : Nat) (c : List V) : 0 + l.length ≤ ((rowsS l).set i c).length := by rw [List.length_set, rowsS_len]; omega
theorem out_set (l : List Stm) (i : Nat) (s : Stm) : (((rowsS l).set (0 + i) s.c).drop 0).take l.length = rowsS (l.set i s) := by
  have : ((rowsS l).set (0 + i) s.c).length = l.length := by rw [List.length_set, rowsS_len]
  refine (take0 this).trans ?_
  rw [Nat.zero_add, rowsS, rowsS, List.map_set]
set_option maxRecDepth 20000 in
theorem ok23 (l : List Stm) (t : Bool) (a b : Int) (hl : l.length * 48 ≤ 140737488355328) : FnC Tryd.prog 23 [] [.lst 6 t (rowsS l), .int .i64 a, .int .i64 b] (.tup [.lst 6 false (rowsS (feedP l a b).1), .int .i64 (feedP l a b).2.1, .int .i64 (feedP l a b).2.2]) [] := by
  refine fn_okC (ob0 := []) (rc := rc23) (rvs := rv23) Tryd.func23 rfl rcq23 rvq23 (show 3 ≤ _ by decide) ?_
  generalize hk : feedP l a b = q
  repeat ((conv => whnf); first | refine Cd.seq ?_ | refine Cd.cut ?_ | refine Cd.reg ?_ | refine Cd.block ?_ | refine Cd.cond ?_ | refine Cd.dreg ?_ | refine Cd.skip ?_ | refine Cd.ret ?_ | refine Cd.exit ?_ | refine Cd.loop ?_ | refine ⟨rfl, ?_⟩ | refine ⟨Nat.le_of_ble_eq_true rfl, ?_⟩ | refine ⟨.inl rfl, ?_⟩ | refine ⟨fun h => Bool.noConfusion h, ?_⟩)
  conv => whnf
  rw [rowsS_len]
  refine ⟨by omega, by omega, ?_⟩
  repeat ((conv => whnf); first | refine Cd.seq ?_ | refine Cd.cut ?_ | refine Cd.reg ?_ | refine Cd.block ?_ | refine Cd.cond ?_ | refine Cd.dreg ?_ | refine Cd.skip ?_ | refine Cd.ret ?_ | refine Cd.exit ?_ | refine Cd.loop ?_ | refine ⟨rfl, ?_⟩ | refine ⟨Nat.le_of_ble_eq_true rfl, ?_⟩ | refine ⟨.inl rfl, ?_⟩ | refine ⟨fun h => Bool.noConfusion h, ?_⟩ | refine .inl ⟨_, fun _ => ⟨purA rfl, (by first | exact ok26 l t (by omega) | exact ok35 a b)⟩, .inl rfl, ?_⟩)
  conv => whnf
  refine ⟨fun h1 => ?_, fun h1 => ?_⟩ <;> try simp only [Bool.cond_true_left, Bool.cond_false_right, Bool.not_eq_true', Bool.not_eq_false', Bool.not_not] at h1
  · repeat ((conv => whnf); first | refine Cd.seq ?_ | refine Cd.cut ?_ | refine Cd.reg ?_ | refine Cd.block ?_ | refine Cd.cond ?_ | refine Cd.dreg ?_ | refine Cd.skip ?_ | refine Cd.ret ?_ | refine Cd.exit ?_ | refine Cd.loop ?_ | refine ⟨rfl, ?_⟩ | refine ⟨Nat.le_of_ble_eq_true rfl, ?_⟩ | refine ⟨.inl rfl, ?_⟩ | refine ⟨fun h => Bool.noConfusion h, ?_⟩)
    conv => whnf
    refine ⟨[], ?_, rfl, trivial, rfl, ?_⟩
    · exact trivial
    try subst hk
    simp only [feedP, h1, cond_true, cond_false, Bool.not_true, Bool.not_false]
    repeat' (first | exact trivial | rfl | exact .inl rfl | exact .inr rfl | exact id | exact (fun h => Bool.noConfusion h) | refine And.intro ?_ ?_)
    · exact out_le l
    · exact out_take l
  repeat ((conv => whnf); first | refine Cd.seq ?_ | refine Cd.cut ?_ | refine Cd.reg ?_ | refine Cd.block ?_ | refine Cd.cond ?_ | refine Cd.dreg ?_ | refine Cd.skip ?_ | refine Cd.ret ?_ | refine Cd.exit ?_ | refine Cd.loop ?_ | refine ⟨rfl, ?_⟩ | refine ⟨Nat.le_of_ble_eq_true rfl, ?_⟩ | refine ⟨.inl rfl, ?_⟩ | refine ⟨fun h => Bool.noConfusion h, ?_⟩ | refine .inl ⟨_, fun _ => ⟨purA rfl, (by first | exact ok26 l t (by omega) | exact ok35 a b)⟩, .inl rfl, ?_⟩)
  conv => whnf
  refine ⟨fun h2 => ?_, fun h2 => ?_⟩ <;> try simp only [Bool.cond_true_left, Bool.cond_false_right, Bool.not_eq_true', Bool.not_eq_false', Bool.not_not] at h2
  · repeat ((conv => whnf); first | refine Cd.seq ?_ | refine Cd.cut ?_ | refine Cd.reg ?_ | refine Cd.block ?_ | refine Cd.cond ?_ | refine Cd.dreg ?_ | refine Cd.skip ?_ | refine Cd.ret ?_ | refine Cd.exit ?_ | refine Cd.loop ?_ | refine ⟨rfl, ?_⟩ | refine ⟨Nat.le_of_ble_eq_true rfl, ?_⟩ | refine ⟨.inl rfl, ?_⟩ | refine ⟨fun h => Bool.noConfusion h, ?_⟩)
    conv => whnf
    refine ⟨[], ?_, rfl, trivial, rfl, ?_⟩
    · exact trivial
    try subst hk
    simp only [feedP, h1, h2, cond_true, cond_false, Bool.not_true, Bool.not_false]
    repeat' (first | exact trivial | rfl | exact .inl rfl | exact .inr rfl | exact id | exact (fun h => Bool.noConfusion h) | refine And.intro ?_ ?_)
    · exact out_le l
    · exact out_take l
  repeat ((conv => whnf); first | refine Cd.seq ?_ | refine Cd.cut ?_ | refine Cd.reg ?_ | refine Cd.block ?_ | refine Cd.cond ?_ | refine Cd.dreg ?_ | refine Cd.skip ?_ | refine Cd.ret ?_ | refine Cd.exit ?_ | refine Cd.loop ?_ | refine ⟨rfl, ?_⟩ | refine ⟨Nat.le_of_ble_eq_true rfl, ?_⟩ | refine ⟨.inl rfl, ?_⟩ | refine ⟨fun h => Bool.noConfusion h, ?_⟩)
  conv => whnf
  have h4 := ((checkF_iff l).1 h1).1
  refine ⟨Nat × FeedSt, fun p => p.1 ≤ l.length ∧ p.2 = foldP l a b p.1,
    fun | (i, f) => ⟨[(0, ⟨[], true, .lst 6 t (rowsS l)⟩), (1, ⟨[], true, .int .i64 a⟩), (2, ⟨[], true, .int .i64 b⟩), (6, ⟨[], true, .lst 0 true []⟩), (7, ⟨[], true, .int .i64 0⟩), (8, ⟨[], true, .int .i64 0⟩),
      (9, ⟨[], true, .sl 0 0 l.length⟩), (10, ⟨[], true, .ptr 1 0 0⟩), (11, ⟨[], true, .ptr 2 0 0⟩), (12, ⟨[], true, .int .i64 f.pos⟩), (13, ⟨[], true, .int .i64 f.oldest⟩), (14, ⟨[], true, .int .i64 f.stamp⟩),
      (35, ⟨[], true, .lst 6 t (rowsS l)⟩), (36, ⟨[], true, .int .i64 l.length⟩), (37, ⟨[], true, .int .i64 i⟩)], [(0, .row 6 (rowsS l)), (1, .box f.best.c), (2, .box f.next.c)], 3⟩, fun p => l.length - p.1, ⟨(0, foldP l a b 0), ⟨by simp, rfl⟩, ?_⟩, fun p hI => ?_⟩
  · rw [rowsS_len]
    refine viewI [some 0, some 1, some 2] rfl rfl ?_ rfl ?_ rfl ?_
    repeat' (first | exact trivial | rfl | exact .inl rfl | exact .inr rfl | exact id | exact (fun h => Bool.noConfusion h) | refine And.intro ?_ ?_)
  obtain ⟨i, f⟩ := p
  obtain ⟨hI1, hI2⟩ := hI
  simp only at hI1 hI2
  repeat ((conv => whnf); first | refine Cd.seq ?_ | refine Cd.cut ?_ | refine Cd.reg ?_ | refine Cd.block ?_ | refine Cd.cond ?_ | refine Cd.dreg ?_ | refine Cd.skip ?_ | refine Cd.ret ?_ | refine Cd.exit ?_ | refine Cd.loop ?_ | refine ⟨rfl, ?_⟩ | refine ⟨Nat.le_of_ble_eq_true rfl, ?_⟩ | refine ⟨.inl rfl, ?_⟩ | refine ⟨fun h => Bool.noConfusion h, ?_⟩)
  conv => whnf
  refine ⟨fun h3 => ?_, fun h3 => ?_⟩ <;> try simp only [Bool.cond_true_left, Bool.cond_false_right, Bool.not_eq_true', Bool.not_eq_false', Bool.not_not] at h3
  · have h3 : i < l.length := by simp at h3; omega
    obtain ⟨ho1, ho2⟩ := foldP_old l a b i (by omega) (by omega)
    rw [← hI2] at ho1 ho2
    have hst : foldP l a b (i + 1) = feedStep l a b i (l.getD i zeroS) f := by rw [hI2]; rfl
    repeat ((conv => whnf); first | refine Cd.seq ?_ | refine Cd.cut ?_ | refine Cd.reg ?_ | refine Cd.block ?_ | refine Cd.cond ?_ | refine Cd.dreg ?_ | refine Cd.skip ?_ | refine Cd.ret ?_ | refine Cd.exit ?_ | refine Cd.loop ?_ | refine ⟨rfl, ?_⟩ | refine ⟨Nat.le_of_ble_eq_true rfl, ?_⟩ | refine ⟨.inl rfl, ?_⟩ | refine ⟨fun h => Bool.noConfusion h, ?_⟩)
    conv => whnf
    refine ⟨fun _ => ⟨rfl, by simp, by rw [rowsS_len]; simp; omega⟩, ?_⟩
    rw [rowsS_getI l _ (by simp) (by simp; omega), Int.toNat_natCast]
    obtain ⟨s, hs⟩ : ∃ s, s = l.getD i zeroS := ⟨_, rfl⟩
    rw [← hs] at hst ⊢
    repeat ((conv => whnf); first | refine Cd.seq ?_ | refine Cd.cut ?_ | refine Cd.reg ?_ | refine Cd.block ?_ | refine Cd.cond ?_ | refine Cd.dreg ?_ | refine Cd.skip ?_ | refine Cd.ret ?_ | refine Cd.exit ?_ | refine Cd.loop ?_ | refine ⟨rfl, ?_⟩ | refine ⟨Nat.le_of_ble_eq_true rfl, ?_⟩ | refine ⟨.inl rfl, ?_⟩ | refine ⟨fun h => Bool.noConfusion h, ?_⟩)
    conv => whnf
    refine ⟨fun _ => ⟨rfl, ho1, by rw [rowsS_len]; omega⟩, ?_⟩
    rw [rowsS_getI l _ ho1 ho2]
    repeat ((conv => whnf); first | refine Cd.seq ?_ | refine Cd.cut ?_ | refine Cd.reg ?_ | refine Cd.block ?_ | refine Cd.cond ?_ | refine Cd.dreg ?_ | refine Cd.skip ?_ | refine Cd.ret ?_ | refine Cd.exit ?_ | refine Cd.loop ?_ | refine ⟨rfl, ?_⟩ | refine ⟨Nat.le_of_ble_eq_true rfl, ?_⟩ | refine ⟨.inl rfl, ?_⟩ | refine ⟨fun h => Bool.noConfusion h, ?_⟩)
    conv => whnf
    have hwr : IntKind.i64.wrap ((i : Int) + 1) = ((i + 1 : Nat) : Int) := by rw [wrapI (by omega) (by omega)]; omega
    refine ⟨fun h5 => ?_, fun h5 => ?_⟩ <;> try simp only [Bool.cond_true_left, Bool.cond_false_right, Bool.not_eq_true', Bool.not_eq_false', Bool.not_not] at h5
    · have h5 : feedOld l i s f.oldest = i := by rw [feedOld, h5]; rfl
      repeat ((conv => whnf); first | refine Cd.seq ?_ | refine Cd.cut ?_ | refine Cd.reg ?_ | refine Cd.block ?_ | refine Cd.cond ?_ | refine Cd.dreg ?_ | refine Cd.skip ?_ | refine Cd.ret ?_ | refine Cd.exit ?_ | refine Cd.loop ?_ | refine ⟨rfl, ?_⟩ | refine ⟨Nat.le_of_ble_eq_true rfl, ?_⟩ | refine ⟨.inl rfl, ?_⟩ | refine ⟨fun h => Bool.noConfusion h, ?_⟩ | refine .inl ⟨_, fun _ => ⟨purA rfl, (by first | exact ok36 s a b | exact ok37 s f.best)⟩, .inl rfl, ?_⟩)
      conv => whnf
      refine ⟨fun h6 => ?_, fun h6 => ?_⟩ <;> try simp only [Bool.cond_true_left, Bool.cond_false_right, Bool.not_eq_true', Bool.not_eq_false', Bool.not_not] at h6
      · have h6 : feedTake a b s f.best = true := h6
        rw [feedStep, h6, h5] at hst
        repeat ((conv => whnf); first | refine Cd.seq ?_ | refine Cd.cut ?_ | refine Cd.reg ?_ | refine Cd.block ?_ | refine Cd.cond ?_ | refine Cd.dreg ?_ | refine Cd.skip ?_ | refine Cd.ret ?_ | refine Cd.exit ?_ | refine Cd.loop ?_ | refine ⟨rfl, ?_⟩ | refine ⟨Nat.le_of_ble_eq_true rfl, ?_⟩ | refine ⟨.inl rfl, ?_⟩ | refine ⟨fun h => Bool.noConfusion h, ?_⟩)
        conv => whnf
        rw [hwr]
        refine ⟨(i + 1, _), ⟨by show i + 1 ≤ _; omega, hst.symm⟩, ?_, by show l.length - (i + 1) < l.length - i; omega⟩
        refine viewI [some 0, some 1, some 2] rfl rfl ?_ rfl ?_ rfl ?_
        repeat' (first | exact trivial | rfl | exact .inl rfl | exact .inr rfl | exact id | exact (fun h => Bool.noConfusion h) | refine And.intro ?_ ?_)
      · have h6 : feedTake a b s f.best = false := h6
        rw [feedStep, h6, h5] at hst
        repeat ((conv => whnf); first | refine Cd.seq ?_ | refine Cd.cut ?_ | refine Cd.reg ?_ | refine Cd.block ?_ | refine Cd.cond ?_ | refine Cd.dreg ?_ | refine Cd.skip ?_ | refine Cd.ret ?_ | refine Cd.exit ?_ | refine Cd.loop ?_ | refine ⟨rfl, ?_⟩ | refine ⟨Nat.le_of_ble_eq_true rfl, ?_⟩ | refine ⟨.inl rfl, ?_⟩ | refine ⟨fun h => Bool.noConfusion h, ?_⟩)
        conv => whnf
        rw [hwr]
        refine ⟨(i + 1, _), ⟨by show i + 1 ≤ _; omega, hst.symm⟩, ?_, by show l.length - (i + 1) < l.length - i; omega⟩
        refine viewI [some 0, some 1, some 2] rfl rfl ?_ rfl ?_ rfl ?_
        repeat' (first | exact trivial | rfl | exact .inl rfl | exact .inr rfl | exact id | exact (fun h => Bool.noConfusion h) | refine And.intro ?_ ?_)
    · have h5 : feedOld l i s f.oldest = f.oldest := by rw [feedOld, h5]; rfl
      repeat ((conv => whnf); first | refine Cd.seq ?_ | refine Cd.cut ?_ | refine Cd.reg ?_ | refine Cd.block ?_ | refine Cd.cond ?_ | refine Cd.dreg ?_ | refine Cd.skip ?_ | refine Cd.ret ?_ | refine Cd.exit ?_ | refine Cd.loop ?_ | refine ⟨rfl, ?_⟩ | refine ⟨Nat.le_of_ble_eq_true rfl, ?_⟩ | refine ⟨.inl rfl, ?_⟩ | refine ⟨fun h => Bool.noConfusion h, ?_⟩ | refine .inl ⟨_, fun _ => ⟨purA rfl, (by first | exact ok36 s a b | exact ok37 s f.best)⟩, .inl rfl, ?_⟩)
      conv => whnf
      refine ⟨fun h6 => ?_, fun h6 => ?_⟩ <;> try simp only [Bool.cond_true_left, Bool.cond_false_right, Bool.not_eq_true', Bool.not_eq_false', Bool.not_not] at h6
      · have h6 : feedTake a b s f.best = true := h6
        rw [feedStep, h6, h5] at hst
        repeat ((conv => whnf); first | refine Cd.seq ?_ | refine Cd.cut ?_ | refine Cd.reg ?_ | refine Cd.block ?_ | refine Cd.cond ?_ | refine Cd.dreg ?_ | refine Cd.skip ?_ | refine Cd.ret ?_ | refine Cd.exit ?_ | refine Cd.loop ?_ | refine ⟨rfl, ?_⟩ | refine ⟨Nat.le_of_ble_eq_true rfl, ?_⟩ | refine ⟨.inl rfl, ?_⟩ | refine ⟨fun h => Bool.noConfusion h, ?_⟩)
        conv => whnf
        rw [hwr]
        refine ⟨(i + 1, _), ⟨by show i + 1 ≤ _; omega, hst.symm⟩, ?_, by show l.length - (i + 1) < l.length - i; omega⟩
        refine viewI [some 0, some 1, some 2] rfl rfl ?_ rfl ?_ rfl ?_
        repeat' (first | exact trivial | rfl | exact .inl rfl | exact .inr rfl | exact id | exact (fun h => Bool.noConfusion h) | refine And.intro ?_ ?_)
      · have h6 : feedTake a b s f.best = false := h6
        rw [feedStep, h6, h5] at hst
        repeat ((conv => whnf); first | refine Cd.seq ?_ | refine Cd.cut ?_ | refine Cd.reg ?_ | refine Cd.block ?_ | refine Cd.cond ?_ | refine Cd.dreg ?_ | refine Cd.skip ?_ | refine Cd.ret ?_ | refine Cd.exit ?_ | refine Cd.loop ?_ | refine ⟨rfl, ?_⟩ | refine ⟨Nat.le_of_ble_eq_true rfl, ?_⟩ | refine ⟨.inl rfl, ?_⟩ | refine ⟨fun h => Bool.noConfusion h, ?_⟩)
        conv => whnf
        rw [hwr]
        refine ⟨(i + 1, _), ⟨by show i + 1 ≤ _; omega, hst.symm⟩, ?_, by show l.length - (i + 1) < l.length - i; omega⟩
        refine viewI [some 0, some 1, some 2] rfl rfl ?_ rfl ?_ rfl ?_
        repeat' (first | exact trivial | rfl | exact .inl rfl | exact .inr rfl | exact id | exact (fun h => Bool.noConfusion h) | refine And.intro ?_ ?_)
  have h3 : i = l.length := by simp at h3; omega
  subst h3
  have hp := foldP_pos l a b l.length (by omega)
  have ho := foldP_old l a b l.length (by omega)
  rw [← hI2] at hp ho
  repeat ((conv => whnf); first | refine Cd.seq ?_ | refine Cd.cut ?_ | refine Cd.reg ?_ | refine Cd.block ?_ | refine Cd.cond ?_ | refine Cd.dreg ?_ | refine Cd.skip ?_ | refine Cd.ret ?_ | refine Cd.exit ?_ | refine Cd.loop ?_ | refine ⟨rfl, ?_⟩ | refine ⟨Nat.le_of_ble_eq_true rfl, ?_⟩ | refine ⟨.inl rfl, ?_⟩ | refine ⟨fun h => Bool.noConfusion h, ?_⟩)
  conv => whnf
  refine ⟨fun h5 => ?_, fun h5 => ?_⟩ <;> try simp only [Bool.cond_true_left, Bool.cond_false_right, Bool.not_eq_true', Bool.not_eq_false', Bool.not_not] at h5
  · repeat ((conv => whnf); first | refine Cd.seq ?_ | refine Cd.cut ?_ | refine Cd.reg ?_ | refine Cd.block ?_ | refine Cd.cond ?_ | refine Cd.dreg ?_ | refine Cd.skip ?_ | refine Cd.ret ?_ | refine Cd.exit ?_ | refine Cd.loop ?_ | refine ⟨rfl, ?_⟩ | refine ⟨Nat.le_of_ble_eq_true rfl, ?_⟩ | refine ⟨.inl rfl, ?_⟩ | refine ⟨fun h => Bool.noConfusion h, ?_⟩)
    conv => whnf
    refine ⟨[], ?_, rfl, trivial, rfl, ?_⟩
    · exact trivial
    try subst hk
    simp only [feedP, h1, h2, ← hI2, h5, cond_true, cond_false, Bool.not_true, Bool.not_false]
    repeat' (first | exact trivial | rfl | exact .inl rfl | exact .inr rfl | exact id | exact (fun h => Bool.noConfusion h) | refine And.intro ?_ ?_)
    · exact out_le l
    · exact out_take l
  repeat ((conv => whnf); first | refine Cd.seq ?_ | refine Cd.cut ?_ | refine Cd.reg ?_ | refine Cd.block ?_ | refine Cd.cond ?_ | refine Cd.dreg ?_ | refine Cd.skip ?_ | refine Cd.ret ?_ | refine Cd.exit ?_ | refine Cd.loop ?_ | refine ⟨rfl, ?_⟩ | refine ⟨Nat.le_of_ble_eq_true rfl, ?_⟩ | refine ⟨.inl rfl, ?_⟩ | refine ⟨fun h => Bool.noConfusion h, ?_⟩)
  conv => whnf
  refine ⟨fun h6 => ?_, fun h6 => ?_⟩ <;> try simp only [Bool.cond_true_left, Bool.cond_false_right, Bool.not_eq_true', Bool.not_eq_false', Bool.not_not] at h6
  · have h6' : f.pos = 4 := by simpa using h6
    have hlen : 0 < l.length := by omega
    obtain ⟨o1, o2⟩ := ho hlen
    have hat : feedAt l f = f.oldest := by rw [feedAt, h6]; rfl
    repeat ((conv => whnf); first | refine Cd.seq ?_ | refine Cd.cut ?_ | refine Cd.reg ?_ | refine Cd.block ?_ | refine Cd.cond ?_ | refine Cd.dreg ?_ | refine Cd.skip ?_ | refine Cd.ret ?_ | refine Cd.exit ?_ | refine Cd.loop ?_ | refine ⟨rfl, ?_⟩ | refine ⟨Nat.le_of_ble_eq_true rfl, ?_⟩ | refine ⟨.inl rfl, ?_⟩ | refine ⟨fun h => Bool.noConfusion h, ?_⟩)
    conv => whnf
    rw [rowsS_len]
    refine ⟨fun h7 => ?_, fun h7 => ?_⟩ <;> try simp only [Bool.cond_true_left, Bool.cond_false_right, Bool.not_eq_true', Bool.not_eq_false', Bool.not_not] at h7
    · have : f.oldest = l.length := by simpa using h7
      omega
    repeat ((conv => whnf); first | refine Cd.seq ?_ | refine Cd.cut ?_ | refine Cd.reg ?_ | refine Cd.block ?_ | refine Cd.cond ?_ | refine Cd.dreg ?_ | refine Cd.skip ?_ | refine Cd.ret ?_ | refine Cd.exit ?_ | refine Cd.loop ?_ | refine ⟨rfl, ?_⟩ | refine ⟨Nat.le_of_ble_eq_true rfl, ?_⟩ | refine ⟨.inl rfl, ?_⟩ | refine ⟨fun h => Bool.noConfusion h, ?_⟩)
    conv => whnf
    refine ⟨fun _ => ⟨o1, by omega⟩, ?_⟩
    repeat ((conv => whnf); first | refine Cd.seq ?_ | refine Cd.cut ?_ | refine Cd.reg ?_ | refine Cd.block ?_ | refine Cd.cond ?_ | refine Cd.dreg ?_ | refine Cd.skip ?_ | refine Cd.ret ?_ | refine Cd.exit ?_ | refine Cd.loop ?_ | refine ⟨rfl, ?_⟩ | refine ⟨Nat.le_of_ble_eq_true rfl, ?_⟩ | refine ⟨.inl rfl, ?_⟩ | refine ⟨fun h => Bool.noConfusion h, ?_⟩)
    conv => whnf
    refine ⟨by rw [rowsS_len]; omega, ?_⟩
    repeat ((conv => whnf); first | refine Cd.seq ?_ | refine Cd.cut ?_ | refine Cd.reg ?_ | refine Cd.block ?_ | refine Cd.cond ?_ | refine Cd.dreg ?_ | refine Cd.skip ?_ | refine Cd.ret ?_ | refine Cd.exit ?_ | refine Cd.loop ?_ | refine ⟨rfl, ?_⟩ | refine ⟨Nat.le_of_ble_eq_true rfl, ?_⟩ | refine ⟨.inl rfl, ?_⟩ | refine ⟨fun h => Bool.noConfusion h, ?_⟩)
    conv => whnf
    refine ⟨[], ?_, rfl, trivial, rfl, ?_⟩
    · exact trivial
    try subst hk
    simp only [feedP, h1, h2, ← hI2, h5, hat, h7, cond_true, cond_false, Bool.not_true, Bool.not_false]
    repeat' (first | exact trivial | rfl | exact .inl rfl | exact .inr rfl | exact id | exact (fun h => Bool.noConfusion h) | refine And.intro ?_ ?_)
    · exact out_le' l _ _
    · exact out_set l _ (feedNext f)
  have hat : feedAt l f = f.pos := by rw [feedAt, h6]; rfl
  repeat ((conv => whnf); first | refine Cd.seq ?_ | refine Cd.cut ?_ | refine Cd.reg ?_ | refine Cd.block ?_ | refine Cd.cond ?_ | refine Cd.dreg ?_ | refine Cd.skip ?_ | refine Cd.ret ?_ | refine Cd.exit ?_ | refine Cd.loop ?_ | refine ⟨rfl, ?_⟩ | refine ⟨Nat.le_of_ble_eq_true rfl, ?_⟩ | refine ⟨.inl rfl, ?_⟩ | refine ⟨fun h => Bool.noConfusion h, ?_⟩)
  conv => whnf
  rw [rowsS_len]
  refine ⟨fun h7 => ?_, fun h7 => ?_⟩ <;> try simp only [Bool.cond_true_left, Bool.cond_false_right, Bool.not_eq_true', Bool.not_eq_false', Bool.not_not] at h7
  · repeat ((conv => whnf); first | refine Cd.seq ?_ | refine Cd.cut ?_ | refine Cd.reg ?_ | refine Cd.block ?_ | refine Cd.cond ?_ | refine Cd.dreg ?_ | refine Cd.skip ?_ | refine Cd.ret ?_ | refine Cd.exit ?_ | refine Cd.loop ?_ | refine ⟨rfl, ?_⟩ | refine ⟨Nat.le_of_ble_eq_true rfl, ?_⟩ | refine ⟨.inl rfl, ?_⟩ | refine ⟨fun h => Bool.noConfusion h, ?_⟩)
    conv => whnf
    refine ⟨(rowsS_len l).symm, ?_, ?_, ?_⟩
    · show (((rowsS l).length + 1 : Nat) : Int) ≤ _
      rw [rowsS_len]; omega
    · show ((rowsS l).length + 1) * 48 ≤ _
      rw [rowsS_len]; omega
    repeat ((conv => whnf); first | refine Cd.seq ?_ | refine Cd.cut ?_ | refine Cd.reg ?_ | refine Cd.block ?_ | refine Cd.cond ?_ | refine Cd.dreg ?_ | refine Cd.skip ?_ | refine Cd.ret ?_ | refine Cd.exit ?_ | refine Cd.loop ?_ | refine ⟨rfl, ?_⟩ | refine ⟨Nat.le_of_ble_eq_true rfl, ?_⟩ | refine ⟨.inl rfl, ?_⟩ | refine ⟨fun h => Bool.noConfusion h, ?_⟩)
    conv => whnf
    refine ⟨[], ?_, rfl, trivial, rfl, ?_⟩
    · exact trivial
    try subst hk
    simp only [feedP, h1, h2, ← hI2, h5, hat, h7, cond_true, cond_false, Bool.not_true, Bool.not_false]
    repeat' (first | exact trivial | rfl | exact .inl rfl | exact .inr rfl | exact id | exact (fun h => Bool.noConfusion h) | refine And.intro ?_ ?_)
    · exact Nat.le_of_eq (by rw [Nat.zero_add, List.length_append])
    · refine (take0 (by rw [List.length_append])).trans ?_
      rw [rowsS, rowsS, List.map_append]; rfl
  have h7' : f.pos < l.length := by simp at h7; omega
  repeat ((conv => whnf); first | refine Cd.seq ?_ | refine Cd.cut ?_ | refine Cd.reg ?_ | refine Cd.block ?_ | refine Cd.cond ?_ | refine Cd.dreg ?_ | refine Cd.skip ?_ | refine Cd.ret ?_ | refine Cd.exit ?_ | refine Cd.loop ?_ | refine ⟨rfl, ?_⟩ | refine ⟨Nat.le_of_ble_eq_true rfl, ?_⟩ | refine ⟨.inl rfl, ?_⟩ | refine ⟨fun h => Bool.noConfusion h, ?_⟩)
  conv => whnf
  refine ⟨fun _ => ⟨hp.1, by omega⟩, ?_⟩
  repeat ((conv => whnf); first | refine Cd.seq ?_ | refine Cd.cut ?_ | refine Cd.reg ?_ | refine Cd.block ?_ | refine Cd.cond ?_ | refine Cd.dreg ?_ | refine Cd.skip ?_ | refine Cd.ret ?_ | refine Cd.exit ?_ | refine Cd.loop ?_ | refine ⟨rfl, ?_⟩ | refine ⟨Nat.le_of_ble_eq_true rfl, ?_⟩ | refine ⟨.inl rfl, ?_⟩ | refine ⟨fun h => Bool.noConfusion h, ?_⟩)
  conv => whnf
  refine ⟨by rw [rowsS_len]; omega, ?_⟩
  repeat ((conv => whnf); first | refine Cd.seq ?_ | refine Cd.cut ?_ | refine Cd.reg ?_ | refine Cd.block ?_ | refine Cd.cond ?_ | refine Cd.dreg ?_ | refine Cd.skip ?_ | refine Cd.ret ?_ | refine Cd.exit ?_ | refine Cd.loop ?_ | refine ⟨rfl, ?_⟩ | refine ⟨Nat.le_of_ble_eq_true rfl, ?_⟩ | refine ⟨.inl rfl, ?_⟩ | refine ⟨fun h => Bool.noConfusion h, ?_⟩)
  conv => whnf
  refine ⟨[], ?_, rfl, trivial, rfl, ?_⟩
  · exact trivial
  try subst hk
  simp only [feedP, h1, h2, ← hI2, h5, hat, h7, cond_true, cond_false, Bool.not_true, Bool.not_false]
  repeat' (first | exact trivial | rfl | exact .inl rfl | exact .inr rfl | exact id | exact (fun h => Bool.noConfusion h) | refine And.intro ?_ ?_)
  · exact out_le' l _ _
  · exact out_set l _ (feedNext f)
end Go.Proofs.YteelckbeekgfiaaDoor
