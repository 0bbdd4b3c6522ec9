/- Zone: the reference's New. -/
import Derived.Test.YtcifhjkodbaghaaB10
set_option linter.unusedSimpArgs false
set_option linter.unusedVariables false
namespace Go.Proofs.Ytcifhjkodbaghaa
open Go Go.Sk Go.RowKit

/- pagecache/pagecacheref10.New -/
def rc33 : RC :=
  (.seq
  (.reg [⟨(some 2), none, (.mv (.c (.lst 0 true [])))⟩,
    ⟨(some 3), none, (.mv (.c (.int .i64 0)))⟩] [])
  (.seq
  (.seq
  (.reg [⟨(some 10), none, (.mv (.t 0))⟩,
    ⟨(some 11), none, (.len (.t 10))⟩,
    ⟨(some 12), none, (.bin .eql (.t 11) (.c (.int .i64 0)))⟩] [10, 11])
  (.cond (.t 12)
   (.seq
   (.reg [⟨(some 2), none, (.mv (.c (.lst 0 true [])))⟩,
     ⟨(some 3), none, (.mv (.c (.int .i64 1)))⟩] [])
   .ret)
   .skip))
  (.seq
  (.reg [⟨(some 4), none, (.mv (.c (.lst 0 true [])))⟩] [])
  (.seq
  (.reg [⟨(some 5), none, (.mv (.c (.int .i64 1)))⟩] [])
  (.seq
  (.seq
  (.reg [⟨(some 6), none, (.mv (.c (.int .i64 0)))⟩] [])
  (.block 0
   (.loop
    (.seq
    (.seq
    (.reg [⟨(some 13), none, (.mv (.t 6))⟩,
      ⟨(some 14), none, (.mv (.t 0))⟩,
      ⟨(some 15), none, (.len (.t 14))⟩,
      ⟨(some 16), none, (.bin .lss (.t 13) (.t 15))⟩] [13, 14, 15])
    (.cond (.t 16)
     .skip
     (.exit 0)))
    (.seq
    (.block 1
     (.seq
     (.reg [⟨(some 19), none, (.mv (.t 0))⟩,
       ⟨(some 20), none, (.mv (.t 6))⟩,
       ⟨(some 21), none, (.iaddr 1 (.t 19) (.t 20))⟩,
       ⟨(some 22), none, (.ld false 1 (.t 21))⟩,
       ⟨(some 7), none, (.mv (.t 22))⟩] [19, 20, 21, 22])
     (.seq
     (.seq
     (.reg [⟨(some 23), none, (.mv (.t 7))⟩,
       ⟨(some 24), none, (.bin .lss (.t 23) (.c (.int .i64 1)))⟩,
       ⟨(some 25), none, (.mv (.t 24))⟩,
       ⟨(some 26), (some (25, false)), (.mv (.t 7))⟩,
       ⟨(some 27), (some (25, false)), (.bin .gtr (.t 26) (.c (.int .i64 64)))⟩,
       ⟨(some 28), none, (.pick (.t 25) (.c (.bool true)) (.t 27))⟩,
       ⟨(some 29), none, (.mv (.t 28))⟩,
       ⟨(some 30), (some (29, false)), (.mv (.t 5))⟩,
       ⟨(some 31), (some (29, false)), (.mv (.t 7))⟩,
       ⟨(some 32), (some (29, false)), (.bin .add (.t 30) (.t 31))⟩,
       ⟨(some 33), (some (29, false)), (.bin .gtr (.t 32) (.c (.int .i64 65)))⟩,
       ⟨(some 34), none, (.pick (.t 29) (.c (.bool true)) (.t 33))⟩] [23, 24, 25, 26, 27, 28, 29, 30, 31, 32, 33])
     (.cond (.t 34)
      (.seq
      (.reg [⟨(some 2), none, (.mv (.c (.lst 0 true [])))⟩,
        ⟨(some 3), none, (.mv (.c (.int .i64 2)))⟩] [])
      .ret)
      .skip))
     (.seq
     (.reg [⟨(some 35), none, (.mv (.t 5))⟩,
       ⟨(some 36), none, (.mv (.t 7))⟩,
       ⟨(some 37), none, (.mv (.t 7))⟩,
       ⟨(some 38), none, (.bin .quo (.t 37) (.c (.int .i64 8)))⟩,
       ⟨(some 39), none, (.mv (.t 7))⟩,
       ⟨(some 40), none, (.bin .quo (.t 39) (.c (.int .i64 4)))⟩,
       ⟨(some 41), none, (.mv (.t 7))⟩,
       ⟨(some 42), none, (.bin .quo (.t 41) (.c (.int .i64 2)))⟩,
       ⟨(some 43), none, (.build [(.int .i64 0), (.int .i64 0), (.int .i64 0), (.int .i64 0), (.int .i64 0), (.lst 0 true [])] [(0, (1, (.t 35))), (1, (1, (.t 36))), (2, (1, (.t 38))), (3, (1, (.t 40))), (4, (1, (.t 42)))])⟩,
       ⟨(some 8), none, (.alloc [(.int .i64 0), (.int .i64 0), (.int .i64 0), (.int .i64 0), (.int .i64 0), (.lst 0 true [])])⟩,
       ⟨none, none, (.st 6 (.t 8) (.t 43))⟩] [35, 36, 37, 38, 39, 40, 41, 42, 43])
     (.cut
     (.seq
     (.reg [⟨(some 44), none, (.mv (.t 5))⟩,
       ⟨(some 9), none, (.mv (.t 44))⟩] [44])
     (.block 2
      (.loop
       (.seq
       (.seq
       (.reg [⟨(some 45), none, (.mv (.t 9))⟩,
         ⟨(some 46), none, (.mv (.t 5))⟩,
         ⟨(some 47), none, (.mv (.t 7))⟩,
         ⟨(some 48), none, (.bin .add (.t 46) (.t 47))⟩,
         ⟨(some 49), none, (.bin .lss (.t 45) (.t 48))⟩] [45, 46, 47, 48])
       (.cond (.t 49)
        .skip
        (.exit 2)))
       (.seq
       (.block 3
        (.reg [⟨(some 52), none, (.faddr 5 (.t 8))⟩,
          ⟨(some 53), none, (.ld false 1 (.t 52))⟩,
          ⟨(some 54), none, (.mv (.t 9))⟩,
          ⟨(some 55), none, (.bslice 1 [(.int .i64 0)] 1 [(0, (.t 54))])⟩,
          ⟨(some 56), none, (.app 1 8 (.t 53) (.t 55))⟩,
          ⟨(some 57), none, (.faddr 5 (.t 8))⟩,
          ⟨none, none, (.st 1 (.t 57) (.t 56))⟩] [52, 53, 54, 55, 56, 57]))
       (.reg [⟨(some 50), none, (.mv (.t 9))⟩,
         ⟨(some 51), none, (.bin .add (.t 50) (.c (.int .i64 1)))⟩,
         ⟨(some 9), none, (.mv (.t 51))⟩] [50, 51]))))))
     (.seq
     (.reg [⟨(some 58), none, (.mv (.t 4))⟩,
       ⟨(some 59), none, (.ld true 6 (.t 8))⟩,
       ⟨(some 60), none, (.bslice 6 [(.int .i64 0), (.int .i64 0), (.int .i64 0), (.int .i64 0), (.int .i64 0), (.lst 0 true [])] 1 [(0, (.t 59))])⟩,
       ⟨(some 61), none, (.app 6 64 (.t 58) (.t 60))⟩,
       ⟨(some 4), none, (.mv (.t 61))⟩] [58, 59, 60, 61])
     (.reg [⟨(some 62), none, (.mv (.t 5))⟩,
       ⟨(some 63), none, (.mv (.t 7))⟩,
       ⟨(some 64), none, (.bin .add (.t 62) (.t 63))⟩,
       ⟨(some 5), none, (.mv (.t 64))⟩] [62, 63, 64])))))))
    (.reg [⟨(some 17), none, (.mv (.t 6))⟩,
      ⟨(some 18), none, (.bin .add (.t 17) (.c (.int .i64 1)))⟩,
      ⟨(some 6), none, (.mv (.t 18))⟩] [17, 18]))))))
  (.seq
  (.reg [⟨(some 65), none, (.mv (.t 4))⟩,
    ⟨(some 2), none, (.mv (.t 65))⟩,
    ⟨(some 3), none, (.mv (.c (.int .i64 0)))⟩] [65])
  .ret))))))
theorem rcq33 : resC Go.Proofs.Try.prog Go.Proofs.Try.f33.ntmps ((Go.Proofs.Try.f33.body).getD .skip) = some (strip rc33) := by kernel_rfl
def rv33 : List RV := [(.tmp 2), (.tmp 3)]
theorem rvq33 : Go.Proofs.Try.f33.results.toList.mapM (resRV Go.Proofs.Try.prog) = some rv33 := by kernel_rfl

set_option maxRecDepth 20000 in
set_option maxHeartbeats 1000000 in
theorem ok33 (s : List Int) (t : Bool) (hs : s.length ≤ 100000) : FnC Try.prog 33 [] [.lst 1 t (rowsI s)] (.tup [.lst 6 false (rowsZ (newF s).1), .int .i64 (newF s).2]) [] := by
  refine fn_okC (ob0 := []) (rc := rc33) (rvs := rv33) Try.func33 rfl rcq33 rvq33 (show 1 ≤ _ by decide) ?_
  generalize hk : newF s = q
  repeat ((conv => whnf); first | refine Cd.seq ?_ | refine Cd.cut ?_ | refine Cd.reg ?_ | refine Cd.block ?_ | refine Cd.cond ?_ | refine Cd.dreg ?_ | refine Cd.skip ?_ | refine Cd.ret ?_ | refine Cd.exit ?_ | refine Cd.loop ?_ | refine ⟨rfl, ?_⟩ | refine ⟨Nat.le_of_ble_eq_true rfl, ?_⟩ | refine ⟨.inl rfl, ?_⟩ | refine ⟨fun h => Bool.noConfusion h, ?_⟩)
  conv => whnf
  rw [rowsI_len]
  refine ⟨fun h1 => ?_, fun h1 => ?_⟩ <;> try simp only [Bool.cond_true_left, Bool.cond_false_right, Bool.not_eq_true', Bool.not_eq_false', Bool.not_not] at h1
  · simp only [newF, h1, cond_true] at hk
    subst hk
    repeat ((conv => whnf); first | refine Cd.seq ?_ | refine Cd.cut ?_ | refine Cd.reg ?_ | refine Cd.block ?_ | refine Cd.cond ?_ | refine Cd.dreg ?_ | refine Cd.skip ?_ | refine Cd.ret ?_ | refine Cd.exit ?_ | refine Cd.loop ?_ | refine ⟨rfl, ?_⟩ | refine ⟨Nat.le_of_ble_eq_true rfl, ?_⟩ | refine ⟨.inl rfl, ?_⟩ | refine ⟨fun h => Bool.noConfusion h, ?_⟩)
    conv => whnf
    refine ⟨[], ?_, rfl, trivial, rfl, ?_⟩
    · exact trivial
    try subst hk
    repeat' (first | exact trivial | rfl | exact .inl rfl | exact .inr rfl | exact id | exact (fun h => Bool.noConfusion h) | refine And.intro ?_ ?_)
  simp only [newF, h1, cond_false] at hk
  repeat ((conv => whnf); first | refine Cd.seq ?_ | refine Cd.cut ?_ | refine Cd.reg ?_ | refine Cd.block ?_ | refine Cd.cond ?_ | refine Cd.dreg ?_ | refine Cd.skip ?_ | refine Cd.ret ?_ | refine Cd.exit ?_ | refine Cd.loop ?_ | refine ⟨rfl, ?_⟩ | refine ⟨Nat.le_of_ble_eq_true rfl, ?_⟩ | refine ⟨.inl rfl, ?_⟩ | refine ⟨fun h => Bool.noConfusion h, ?_⟩)
  conv => whnf
  refine ⟨Nat × Int × List Zn, fun p => NewI s p.1 p.2.1 p.2.2, fun p => ⟨[(4, ⟨[], true, .sl 0 0 p.2.2.length⟩), (5, ⟨[], true, .int .i64 p.2.1⟩), (0, ⟨[], true, .lst 1 t (rowsI s)⟩), (6, ⟨[], true, .int .i64 (p.1 : Int)⟩)], [(0, .row 6 (rowsZ p.2.2))], 1⟩, fun p => s.length - p.1, ⟨(0, 1, []), ⟨by simp, by simp, by decide, by simp⟩, ?_⟩, fun p hI => ?_⟩
  · refine viewI [none] rfl rfl ?_ rfl ?_ rfl ?_
    repeat' (first | exact trivial | rfl | exact .inl rfl | exact .inr rfl | exact id | exact (fun h => Bool.noConfusion h) | refine And.intro ?_ ?_)
  obtain ⟨i, f, acc⟩ := p
  have hI : NewI s i f acc := hI
  have hle := hI.le
  have hpos := hI.pos
  have hal := hI.len
  repeat ((conv => whnf); first | refine Cd.seq ?_ | refine Cd.cut ?_ | refine Cd.reg ?_ | refine Cd.block ?_ | refine Cd.cond ?_ | refine Cd.dreg ?_ | refine Cd.skip ?_ | refine Cd.ret ?_ | refine Cd.exit ?_ | refine Cd.loop ?_ | refine ⟨rfl, ?_⟩ | refine ⟨Nat.le_of_ble_eq_true rfl, ?_⟩ | refine ⟨.inl rfl, ?_⟩ | refine ⟨fun h => Bool.noConfusion h, ?_⟩)
  conv => whnf
  rw [rowsI_len]
  refine ⟨fun h3 => ?_, fun h3 => ?_⟩ <;> try simp only [Bool.cond_true_left, Bool.cond_false_right, Bool.not_eq_true', Bool.not_eq_false', Bool.not_not] at h3
  · have h3 : i < s.length := by simp at h3; omega
    repeat ((conv => whnf); first | refine Cd.seq ?_ | refine Cd.cut ?_ | refine Cd.reg ?_ | refine Cd.block ?_ | refine Cd.cond ?_ | refine Cd.dreg ?_ | refine Cd.skip ?_ | refine Cd.ret ?_ | refine Cd.exit ?_ | refine Cd.loop ?_ | refine ⟨rfl, ?_⟩ | refine ⟨Nat.le_of_ble_eq_true rfl, ?_⟩ | refine ⟨.inl rfl, ?_⟩ | refine ⟨fun h => Bool.noConfusion h, ?_⟩)
    conv => whnf
    refine ⟨fun _ => ⟨rfl, by omega, by rw [rowsI_len]; omega⟩, ?_⟩
    rw [Int.toNat_natCast, rowsI_get s i h3]
    have hbad := hI.bad h3
    have hnext := hI.next h3
    generalize s[i] = n at hbad hnext
    repeat ((conv => whnf); first | refine Cd.seq ?_ | refine Cd.cut ?_ | refine Cd.reg ?_ | refine Cd.block ?_ | refine Cd.cond ?_ | refine Cd.dreg ?_ | refine Cd.skip ?_ | refine Cd.ret ?_ | refine Cd.exit ?_ | refine Cd.loop ?_ | refine ⟨rfl, ?_⟩ | refine ⟨Nat.le_of_ble_eq_true rfl, ?_⟩ | refine ⟨.inl rfl, ?_⟩ | refine ⟨fun h => Bool.noConfusion h, ?_⟩)
    conv => whnf
    refine ⟨fun h4 => ?_, fun h4 => ?_⟩ <;> try simp only [Bool.cond_true_left, Bool.cond_false_right, Bool.not_eq_true', Bool.not_eq_false', Bool.not_not] at h4
    · have h4 : badN f n = true := h4
      rw [hbad h4] at hk
      subst hk
      repeat ((conv => whnf); first | refine Cd.seq ?_ | refine Cd.cut ?_ | refine Cd.reg ?_ | refine Cd.block ?_ | refine Cd.cond ?_ | refine Cd.dreg ?_ | refine Cd.skip ?_ | refine Cd.ret ?_ | refine Cd.exit ?_ | refine Cd.loop ?_ | refine ⟨rfl, ?_⟩ | refine ⟨Nat.le_of_ble_eq_true rfl, ?_⟩ | refine ⟨.inl rfl, ?_⟩ | refine ⟨fun h => Bool.noConfusion h, ?_⟩)
      conv => whnf
      refine ⟨[], ?_, rfl, trivial, rfl, ?_⟩
      · exact trivial
      try subst hk
      repeat' (first | exact trivial | rfl | exact .inl rfl | exact .inr rfl | exact id | exact (fun h => Bool.noConfusion h) | refine And.intro ?_ ?_)
    have h4 : badN f n = false := h4
    obtain ⟨a1, a2, a3, a4⟩ := badN_ok hpos h4
    have hnext := hnext h4
    repeat ((conv => whnf); first | refine Cd.seq ?_ | refine Cd.cut ?_ | refine Cd.reg ?_ | refine Cd.block ?_ | refine Cd.cond ?_ | refine Cd.dreg ?_ | refine Cd.skip ?_ | refine Cd.ret ?_ | refine Cd.exit ?_ | refine Cd.loop ?_ | refine ⟨rfl, ?_⟩ | refine ⟨Nat.le_of_ble_eq_true rfl, ?_⟩ | refine ⟨.inl rfl, ?_⟩ | refine ⟨fun h => Bool.noConfusion h, ?_⟩)
    conv => whnf
    refine ⟨fun _ => by decide, ?_⟩
    repeat ((conv => whnf); first | refine Cd.seq ?_ | refine Cd.cut ?_ | refine Cd.reg ?_ | refine Cd.block ?_ | refine Cd.cond ?_ | refine Cd.dreg ?_ | refine Cd.skip ?_ | refine Cd.ret ?_ | refine Cd.exit ?_ | refine Cd.loop ?_ | refine ⟨rfl, ?_⟩ | refine ⟨Nat.le_of_ble_eq_true rfl, ?_⟩ | refine ⟨.inl rfl, ?_⟩ | refine ⟨fun h => Bool.noConfusion h, ?_⟩)
    conv => whnf
    refine ⟨fun _ => by decide, ?_⟩
    repeat ((conv => whnf); first | refine Cd.seq ?_ | refine Cd.cut ?_ | refine Cd.reg ?_ | refine Cd.block ?_ | refine Cd.cond ?_ | refine Cd.dreg ?_ | refine Cd.skip ?_ | refine Cd.ret ?_ | refine Cd.exit ?_ | refine Cd.loop ?_ | refine ⟨rfl, ?_⟩ | refine ⟨Nat.le_of_ble_eq_true rfl, ?_⟩ | refine ⟨.inl rfl, ?_⟩ | refine ⟨fun h => Bool.noConfusion h, ?_⟩)
    conv => whnf
    refine ⟨fun _ => by decide, ?_⟩
    repeat ((conv => whnf); first | refine Cd.seq ?_ | refine Cd.cut ?_ | refine Cd.reg ?_ | refine Cd.block ?_ | refine Cd.cond ?_ | refine Cd.dreg ?_ | refine Cd.skip ?_ | refine Cd.ret ?_ | refine Cd.exit ?_ | refine Cd.loop ?_ | refine ⟨rfl, ?_⟩ | refine ⟨Nat.le_of_ble_eq_true rfl, ?_⟩ | refine ⟨.inl rfl, ?_⟩ | refine ⟨fun h => Bool.noConfusion h, ?_⟩)
    conv => whnf
    refine ⟨Unit, fun _ => True, fun _ => ⟨[(4, ⟨[], true, .sl 0 0 acc.length⟩), (5, ⟨[], true, .int .i64 f⟩), (7, ⟨[], true, .int .i64 n⟩), (8, ⟨[], true, .ptr 1 0 0⟩), (0, ⟨[], true, .lst 1 t (rowsI s)⟩), (6, ⟨[], true, .int .i64 (i : Int)⟩)],
      [(0, .row 6 (rowsZ acc)), (1, .box (mkZ f n).c)], 2⟩, ?_, fun _ _ => ?_⟩
    · repeat ((conv => whnf); first | refine Cd.seq ?_ | refine Cd.cut ?_ | refine Cd.reg ?_ | refine Cd.block ?_ | refine Cd.cond ?_ | refine Cd.dreg ?_ | refine Cd.skip ?_ | refine Cd.ret ?_ | refine Cd.exit ?_ | refine Cd.loop ?_ | refine ⟨rfl, ?_⟩ | refine ⟨Nat.le_of_ble_eq_true rfl, ?_⟩ | refine ⟨.inl rfl, ?_⟩ | refine ⟨fun h => Bool.noConfusion h, ?_⟩)
      conv => whnf
      refine ⟨Nat × List Int, fun y => (y.1 : Int) ≤ n ∧ y.2 = seqI f (f + y.1), fun y => ⟨[(4, ⟨[], true, .sl 0 0 acc.length⟩), (5, ⟨[], true, .int .i64 f⟩), (7, ⟨[], true, .int .i64 n⟩), (8, ⟨[], true, .ptr 1 0 0⟩), (9, ⟨[], true, .int .i64 (f + (y.1 : Int))⟩), (0, ⟨[], true, .lst 1 t (rowsI s)⟩), (6, ⟨[], true, .int .i64 (i : Int)⟩)],
        [(0, .row 6 (rowsZ acc)), (1, .box [.int .i64 f, .int .i64 n, .int .i64 (divW n 8), .int .i64 (divW n 4), .int .i64 (divW n 2), .sl 2 0 y.2.length]), (2, .row 1 (rowsI y.2))], 3⟩, fun y => 100 - y.1, ⟨(0, []), ⟨by simp; omega, by rw [seqI_nil _ _ (by simp)]⟩, ?_⟩, fun y hy => ?_⟩
      · refine viewI [some 0, some 1, none] rfl rfl ?_ rfl ?_ rfl ?_
        repeat' (first | exact trivial | rfl | exact .inl rfl | exact .inr rfl | exact id | exact (fun h => Bool.noConfusion h) | refine And.intro ?_ ?_)
        exact (Int.add_zero _).symm
      obtain ⟨k, out⟩ := y
      obtain ⟨hy1, hy2⟩ := hy
      simp only at hy1 hy2
      have hlen : out.length = k := by rw [hy2, seqI_len]; omega
      have hw1 : IntKind.i64.wrap (f + (k : Int) + 1) = f + ((k + 1 : Nat) : Int) := by rw [wrapI (by omega) (by omega)]; omega
      repeat ((conv => whnf); first | refine Cd.seq ?_ | refine Cd.cut ?_ | refine Cd.reg ?_ | refine Cd.block ?_ | refine Cd.cond ?_ | refine Cd.dreg ?_ | refine Cd.skip ?_ | refine Cd.ret ?_ | refine Cd.exit ?_ | refine Cd.loop ?_ | refine ⟨rfl, ?_⟩ | refine ⟨Nat.le_of_ble_eq_true rfl, ?_⟩ | refine ⟨.inl rfl, ?_⟩ | refine ⟨fun h => Bool.noConfusion h, ?_⟩)
      conv => whnf
      rw [a4]
      refine ⟨fun h5 => ?_, fun h5 => ?_⟩ <;> try simp only [Bool.cond_true_left, Bool.cond_false_right, Bool.not_eq_true', Bool.not_eq_false', Bool.not_not] at h5
      · have h5 : (k : Int) < n := by simp at h5; omega
        repeat ((conv => whnf); first | refine Cd.seq ?_ | refine Cd.cut ?_ | refine Cd.reg ?_ | refine Cd.block ?_ | refine Cd.cond ?_ | refine Cd.dreg ?_ | refine Cd.skip ?_ | refine Cd.ret ?_ | refine Cd.exit ?_ | refine Cd.loop ?_ | refine ⟨rfl, ?_⟩ | refine ⟨Nat.le_of_ble_eq_true rfl, ?_⟩ | refine ⟨.inl rfl, ?_⟩ | refine ⟨fun h => Bool.noConfusion h, ?_⟩)
        conv => whnf
        refine ⟨(rowsI_len out).symm, ?_, ?_, ?_⟩
        · show (((rowsI out).length + 1 : Nat) : Int) ≤ _
          rw [rowsI_len]; omega
        · show ((rowsI out).length + 1) * 8 ≤ _
          rw [rowsI_len]; omega
        repeat ((conv => whnf); first | refine Cd.seq ?_ | refine Cd.cut ?_ | refine Cd.reg ?_ | refine Cd.block ?_ | refine Cd.cond ?_ | refine Cd.dreg ?_ | refine Cd.skip ?_ | refine Cd.ret ?_ | refine Cd.exit ?_ | refine Cd.loop ?_ | refine ⟨rfl, ?_⟩ | refine ⟨Nat.le_of_ble_eq_true rfl, ?_⟩ | refine ⟨.inl rfl, ?_⟩ | refine ⟨fun h => Bool.noConfusion h, ?_⟩)
        conv => whnf
        rw [hw1]
        refine ⟨(k + 1, seqI f (f + ((k + 1 : Nat) : Int))), ⟨by show ((k + 1 : Nat) : Int) ≤ _; omega, rfl⟩, ?_, by show 100 - (k + 1) < 100 - k; omega⟩
        have hs1 : seqI f (f + ((k + 1 : Nat) : Int)) = out ++ [f + (k : Int)] := by
          rw [show f + ((k + 1 : Nat) : Int) = f + (k : Int) + 1 by omega, seqI_succ _ _ (by omega), hy2]
        rw [hs1]
        refine viewI [some 0, some 1, some 4] rfl rfl ?_ rfl ?_ rfl ?_
        repeat' (first | exact trivial | rfl | exact .inl rfl | exact .inr rfl | exact id | exact (fun h => Bool.noConfusion h) | refine And.intro ?_ ?_)
        · show (rowsI out).length + 1 = _
          rw [rowsI_len, List.length_append]; rfl
        · exact rowsI_snoc out _
      have h5 : (k : Int) = n := by simp at h5; omega
      repeat ((conv => whnf); first | refine Cd.seq ?_ | refine Cd.cut ?_ | refine Cd.reg ?_ | refine Cd.block ?_ | refine Cd.cond ?_ | refine Cd.dreg ?_ | refine Cd.skip ?_ | refine Cd.ret ?_ | refine Cd.exit ?_ | refine Cd.loop ?_ | refine ⟨rfl, ?_⟩ | refine ⟨Nat.le_of_ble_eq_true rfl, ?_⟩ | refine ⟨.inl rfl, ?_⟩ | refine ⟨fun h => Bool.noConfusion h, ?_⟩)
      conv => whnf
      refine ⟨(), trivial, ?_⟩
      refine viewI [some ?k114_0, some ?k114_1] rfl rfl ?h3_114 ?h4_114 ?h5_114 ?h6_114 ?h7_114
      case' h7_114 => repeat' (first | exact trivial | rfl | exact .inl rfl | exact .inr rfl | exact id | exact (fun h => Bool.noConfusion h) | refine And.intro ?_ ?_)
      case' h4_114 => rfl
      case' h6_114 => rfl
      case' h3_114 => repeat' (first | exact trivial | rfl | exact .inl rfl | exact .inr rfl | exact id | exact (fun h => Bool.noConfusion h) | refine And.intro ?_ ?_)
      case' h5_114 => repeat' (first | exact trivial | rfl | exact .inl rfl | exact .inr rfl | exact id | exact (fun h => Bool.noConfusion h) | refine And.intro ?_ ?_)
      · show 0 + out.length ≤ (rowsI out).length
        rw [rowsI_len]; omega
      · refine (take0 (rowsI_len _)).trans ?_
        show rowsI out = rowsI (seqI f (f + n))
        rw [hy2, h5]
    · repeat ((conv => whnf); first | refine Cd.seq ?_ | refine Cd.cut ?_ | refine Cd.reg ?_ | refine Cd.block ?_ | refine Cd.cond ?_ | refine Cd.dreg ?_ | refine Cd.skip ?_ | refine Cd.ret ?_ | refine Cd.exit ?_ | refine Cd.loop ?_ | refine ⟨rfl, ?_⟩ | refine ⟨Nat.le_of_ble_eq_true rfl, ?_⟩ | refine ⟨.inl rfl, ?_⟩ | refine ⟨fun h => Bool.noConfusion h, ?_⟩)
      conv => whnf
      refine ⟨(rowsZ_len acc).symm, ?_, ?_, ?_⟩
      · show (((rowsZ acc).length + 1 : Nat) : Int) ≤ _
        rw [rowsZ_len]; omega
      · show ((rowsZ acc).length + 1) * 64 ≤ _
        rw [rowsZ_len]; omega
      repeat ((conv => whnf); first | refine Cd.seq ?_ | refine Cd.cut ?_ | refine Cd.reg ?_ | refine Cd.block ?_ | refine Cd.cond ?_ | refine Cd.dreg ?_ | refine Cd.skip ?_ | refine Cd.ret ?_ | refine Cd.exit ?_ | refine Cd.loop ?_ | refine ⟨rfl, ?_⟩ | refine ⟨Nat.le_of_ble_eq_true rfl, ?_⟩ | refine ⟨.inl rfl, ?_⟩ | refine ⟨fun h => Bool.noConfusion h, ?_⟩)
      conv => whnf
      rw [a4, wrapI (n := (i : Int) + 1) (by omega) (by omega), show ((i : Int) + 1) = ((i + 1 : Nat) : Int) by omega]
      refine ⟨(i + 1, f + n, acc ++ [mkZ f n]), hnext, ?_, by show s.length - (i + 1) < s.length - i; omega⟩
      refine viewI [some ?k136_0] rfl rfl ?h3_136 ?h4_136 ?h5_136 ?h6_136 ?h7_136
      case' h7_136 => repeat' (first | exact trivial | rfl | exact .inl rfl | exact .inr rfl | exact id | exact (fun h => Bool.noConfusion h) | refine And.intro ?_ ?_)
      case' h4_136 => rfl
      case' h6_136 => rfl
      case' h3_136 => repeat' (first | exact trivial | rfl | exact .inl rfl | exact .inr rfl | exact id | exact (fun h => Bool.noConfusion h) | refine And.intro ?_ ?_)
      case' h5_136 => repeat' (first | exact trivial | rfl | exact .inl rfl | exact .inr rfl | exact id | exact (fun h => Bool.noConfusion h) | refine And.intro ?_ ?_)
      · exact rowsZ_snoc acc (mkZ f n)
      · show (rowsZ acc).length + 1 = _
        rw [rowsZ_len, List.length_append]; rfl
  have h3 : i = s.length := by simp at h3; omega
  rw [hI.done h3] at hk
  subst hk
  repeat ((conv => whnf); first | refine Cd.seq ?_ | refine Cd.cut ?_ | refine Cd.reg ?_ | refine Cd.block ?_ | refine Cd.cond ?_ | refine Cd.dreg ?_ | refine Cd.skip ?_ | refine Cd.ret ?_ | refine Cd.exit ?_ | refine Cd.loop ?_ | refine ⟨rfl, ?_⟩ | refine ⟨Nat.le_of_ble_eq_true rfl, ?_⟩ | refine ⟨.inl rfl, ?_⟩ | refine ⟨fun h => Bool.noConfusion h, ?_⟩)
  conv => whnf
  refine ⟨[], ?_, rfl, trivial, rfl, ?_⟩
  · exact trivial
  try subst hk
  repeat' (first | exact trivial | rfl | exact .inl rfl | exact .inr rfl | exact id | exact (fun h => Bool.noConfusion h) | refine And.intro ?_ ?_)
  · show 0 + acc.length ≤ (rowsZ acc).length
    rw [rowsZ_len]; omega
  · exact take0 (rowsZ_len _)
end Go.Proofs.Ytcifhjkodbaghaa
