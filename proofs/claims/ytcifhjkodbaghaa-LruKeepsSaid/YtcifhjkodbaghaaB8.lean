/- Zone: the reference's Take; Same. -/
import Derived.Test.YtcifhjkodbaghaaB7
set_option linter.unusedSimpArgs false
set_option linter.unusedVariables false
namespace Go.Proofs.Ytcifhjkodbaghaa
open Go Go.Sk Go.RowKit

/- pagecache/pagecacheref10.Take -/
def rc19 : RC :=
  (.seq
  (.reg [⟨(some 6), none, (.mv (.c (.lst 0 true [])))⟩,
    ⟨(some 7), none, (.mv (.c (.int .i64 0)))⟩,
    ⟨(some 8), none, (.mv (.c (.int .i64 0)))⟩] [])
  (.seq
  (.seq
  (.reg [⟨(some 12), none, (.mv (.t 0))⟩,
    ⟨(some 13), none, (.call 23 [(.t 12)])⟩,
    ⟨(some 14), none, (.un .not (.t 13))⟩] [12, 13])
  (.cond (.t 14)
   (.seq
   (.reg [⟨(some 15), none, (.mv (.t 0))⟩,
     ⟨(some 6), none, (.mv (.t 15))⟩,
     ⟨(some 7), none, (.mv (.c (.int .i64 0)))⟩,
     ⟨(some 8), none, (.mv (.c (.int .i64 1)))⟩] [15])
   .ret)
   .skip))
  (.seq
  (.seq
  (.reg [⟨(some 16), none, (.mv (.t 1))⟩,
    ⟨(some 17), none, (.bin .lss (.t 16) (.c (.int .i64 0)))⟩,
    ⟨(some 18), none, (.mv (.t 17))⟩,
    ⟨(some 19), (some (18, false)), (.mv (.t 1))⟩,
    ⟨(some 20), (some (18, false)), (.mv (.t 0))⟩,
    ⟨(some 21), (some (18, false)), (.len (.t 20))⟩,
    ⟨(some 22), (some (18, false)), (.bin .geq (.t 19) (.t 21))⟩,
    ⟨(some 23), none, (.pick (.t 18) (.c (.bool true)) (.t 22))⟩] [16, 17, 18, 19, 20, 21, 22])
  (.cond (.t 23)
   (.seq
   (.reg [⟨(some 24), none, (.mv (.t 0))⟩,
     ⟨(some 6), none, (.mv (.t 24))⟩,
     ⟨(some 7), none, (.mv (.c (.int .i64 0)))⟩,
     ⟨(some 8), none, (.mv (.c (.int .i64 2)))⟩] [24])
   .ret)
   .skip))
  (.seq
  (.seq
  (.reg [⟨(some 25), none, (.mv (.t 1))⟩,
    ⟨(some 9), none, (.mv (.t 25))⟩] [25])
  (.block 0
   (.loop
    (.seq
    (.seq
    (.reg [⟨(some 26), none, (.mv (.t 9))⟩,
      ⟨(some 27), none, (.bin .geq (.t 26) (.c (.int .i64 0)))⟩] [26])
    (.cond (.t 27)
     .skip
     (.exit 0)))
    (.seq
    (.block 1
     (.seq
     (.reg [⟨(some 30), none, (.mv (.t 0))⟩,
       ⟨(some 31), none, (.mv (.t 9))⟩,
       ⟨(some 32), none, (.iaddr 6 (.t 30) (.t 31))⟩,
       ⟨(some 33), none, (.ld true 6 (.t 32))⟩,
       ⟨(some 10), none, (.alloc [(.int .i64 0), (.int .i64 0), (.int .i64 0), (.int .i64 0), (.int .i64 0), (.lst 0 true [])])⟩,
       ⟨none, none, (.st 6 (.t 10) (.t 33))⟩] [30, 31, 32, 33])
     (.seq
     (.reg [⟨(some 34), none, (.faddr 5 (.t 10))⟩,
       ⟨(some 35), none, (.ld false 1 (.t 34))⟩,
       ⟨(some 36), none, (.len (.t 35))⟩,
       ⟨(some 37), none, (.faddr 2 (.t 10))⟩,
       ⟨(some 38), none, (.ld false 1 (.t 37))⟩,
       ⟨(some 39), none, (.bin .gtr (.t 36) (.t 38))⟩,
       ⟨(some 40), none, (.mv (.t 39))⟩,
       ⟨(some 41), (some (40, false)), (.mv (.t 2))⟩,
       ⟨(some 42), (some (40, false)), (.mv (.t 41))⟩,
       ⟨(some 43), (some (42, true)), (.faddr 5 (.t 10))⟩,
       ⟨(some 44), (some (42, true)), (.ld false 1 (.t 43))⟩,
       ⟨(some 45), (some (42, true)), (.len (.t 44))⟩,
       ⟨(some 46), (some (42, true)), (.bin .gtr (.t 45) (.c (.int .i64 0)))⟩,
       ⟨(some 47), (some (40, false)), (.pick (.t 42) (.t 46) (.c (.bool false)))⟩,
       ⟨(some 48), none, (.pick (.t 40) (.c (.bool true)) (.t 47))⟩] [34, 35, 36, 37, 38, 39, 40, 41, 42, 43, 44, 45, 46, 47])
     (.cond (.t 48)
      (.seq
      (.reg [⟨(some 49), none, (.faddr 5 (.t 10))⟩,
        ⟨(some 50), none, (.ld false 1 (.t 49))⟩,
        ⟨(some 51), none, (.iaddr 1 (.t 50) (.c (.int .i64 0)))⟩,
        ⟨(some 52), none, (.ld false 1 (.t 51))⟩,
        ⟨(some 11), none, (.mv (.t 52))⟩] [49, 50, 51, 52])
      (.cut
      (.reg [⟨(some 53), none, (.faddr 5 (.t 10))⟩,
        ⟨(some 54), none, (.ld false 1 (.t 53))⟩,
        ⟨(some 55), none, (.slc 1 (.t 54) (some (.c (.int .i64 1))) none)⟩,
        ⟨(some 56), none, (.app 1 8 (.c (.lst 0 true [])) (.t 55))⟩,
        ⟨(some 57), none, (.faddr 5 (.t 10))⟩,
        ⟨none, none, (.st 1 (.t 57) (.t 56))⟩] [53, 54, 55, 56, 57])
      (.seq
      (.reg [⟨(some 58), none, (.mv (.t 0))⟩,
        ⟨(some 59), none, (.mv (.t 9))⟩,
        ⟨(some 60), none, (.ld true 6 (.t 10))⟩,
        ⟨(some 61), none, (.call 56 [(.t 58), (.t 59), (.t 60)])⟩,
        ⟨(some 62), none, (.mv (.t 11))⟩,
        ⟨(some 6), none, (.mv (.t 61))⟩,
        ⟨(some 7), none, (.mv (.t 62))⟩,
        ⟨(some 8), none, (.mv (.c (.int .i64 0)))⟩] [58, 59, 60, 61, 62])
      .ret)))
      .skip))))
    (.reg [⟨(some 28), none, (.mv (.t 9))⟩,
      ⟨(some 29), none, (.bin .sub (.t 28) (.c (.int .i64 1)))⟩,
      ⟨(some 9), none, (.mv (.t 29))⟩] [28, 29]))))))
  (.seq
  (.reg [⟨(some 63), none, (.mv (.t 0))⟩,
    ⟨(some 6), none, (.mv (.t 63))⟩,
    ⟨(some 7), none, (.mv (.c (.int .i64 0)))⟩,
    ⟨(some 8), none, (.mv (.c (.int .i64 3)))⟩] [63])
  .ret)))))
theorem rcq19 : resC Go.Proofs.Try.prog Go.Proofs.Try.f19.ntmps ((Go.Proofs.Try.f19.body).getD .skip) = some (strip rc19) := by kernel_rfl
def rv19 : List RV := [(.tmp 6), (.tmp 7), (.tmp 8)]
theorem rvq19 : Go.Proofs.Try.f19.results.toList.mapM (resRV Go.Proofs.Try.prog) = some rv19 := by kernel_rfl

theorem hasZ_ref {z : Zn} (g : GoodZ z) (u : Bool) : (decide (z.min < (z.free.length : Int)) || (u && decide (0 < (z.free.length : Int)))) = hasZ u z := by
  have := g.marks
  cases u with
  | false => exact Bool.or_false _
  | true =>
    show (decide (z.min < (z.free.length : Int)) || (true && decide (0 < (z.free.length : Int)))) = decide ((0 : Int) < (z.free.length : Int))
    rw [Bool.eq_iff_iff]
    simp only [Bool.true_and, Bool.or_eq_true, decide_eq_true_eq]
    omega
theorem hasZ_pos {z : Zn} (g : GoodZ z) {u : Bool} (h : hasZ u z = true) : 0 < z.free.length := by
  have := g.marks
  cases u with
  | false =>
    have : z.min < (z.free.length : Int) := of_decide_eq_true h
    omega
  | true =>
    have : (0 : Int) < (z.free.length : Int) := of_decide_eq_true h
    omega
set_option maxRecDepth 20000 in
theorem ok19 (l : List Zn) (t : Bool) (p : Int) (u : Bool) (hl : SmallZ l) : FnC Try.prog 19 [] [.lst 6 t (rowsZ l), .int .i64 p, .bool u] (.tup [.lst 6 false (rowsZ (takeG l l p u).1), .int .i64 (takeG l l p u).2.1, .int .i64 (takeG l l p u).2.2]) [] := by
  have hlen := hl.len
  refine fn_okC (ob0 := []) (rc := rc19) (rvs := rv19) Try.func19 rfl rcq19 rvq19 (show 3 ≤ _ by decide) ?_
  generalize hk : takeG l l p u = q
  repeat ((conv => whnf); first | refine Cd.seq ?_ | refine Cd.cut ?_ | refine Cd.reg ?_ | refine Cd.block ?_ | refine Cd.cond ?_ | refine Cd.dreg ?_ | refine Cd.skip ?_ | refine Cd.ret ?_ | refine Cd.exit ?_ | refine Cd.loop ?_ | refine ⟨rfl, ?_⟩ | refine ⟨Nat.le_of_ble_eq_true rfl, ?_⟩ | refine ⟨.inl rfl, ?_⟩ | refine ⟨fun h => Bool.noConfusion h, ?_⟩ | refine .inl ⟨_, fun _ => ⟨purA rfl, (by first | exact ok23 l t hl)⟩, .inl rfl, ?_⟩)
  conv => whnf
  refine ⟨fun h1 => ?_, fun h1 => ?_⟩ <;> try simp only [Bool.cond_true_left, Bool.cond_false_right, Bool.not_eq_true', Bool.not_eq_false', Bool.not_not] at h1
  · have h1 : (!checkZ l) = true := by rw [h1]; rfl
    simp only [takeG, h1, cond_true] at hk
    subst hk
    repeat ((conv => whnf); first | refine Cd.seq ?_ | refine Cd.cut ?_ | refine Cd.reg ?_ | refine Cd.block ?_ | refine Cd.cond ?_ | refine Cd.dreg ?_ | refine Cd.skip ?_ | refine Cd.ret ?_ | refine Cd.exit ?_ | refine Cd.loop ?_ | refine ⟨rfl, ?_⟩ | refine ⟨Nat.le_of_ble_eq_true rfl, ?_⟩ | refine ⟨.inl rfl, ?_⟩ | refine ⟨fun h => Bool.noConfusion h, ?_⟩)
    conv => whnf
    refine ⟨[], ?_, rfl, trivial, rfl, ?_⟩
    · exact trivial
    try subst hk
    repeat' (first | exact trivial | rfl | exact .inl rfl | exact .inr rfl | exact id | exact (fun h => Bool.noConfusion h) | refine And.intro ?_ ?_)
  have h1' : checkZ l = true := by simpa using h1
  have h1 : (!checkZ l) = false := by rw [h1']; rfl
  have hg := check_good h1'
  simp only [takeG, h1, cond_false] at hk
  repeat ((conv => whnf); first | refine Cd.seq ?_ | refine Cd.cut ?_ | refine Cd.reg ?_ | refine Cd.block ?_ | refine Cd.cond ?_ | refine Cd.dreg ?_ | refine Cd.skip ?_ | refine Cd.ret ?_ | refine Cd.exit ?_ | refine Cd.loop ?_ | refine ⟨rfl, ?_⟩ | refine ⟨Nat.le_of_ble_eq_true rfl, ?_⟩ | refine ⟨.inl rfl, ?_⟩ | refine ⟨fun h => Bool.noConfusion h, ?_⟩)
  conv => whnf
  rw [rowsZ_len]
  refine ⟨fun h2 => ?_, fun h2 => ?_⟩ <;> try simp only [Bool.cond_true_left, Bool.cond_false_right, Bool.not_eq_true', Bool.not_eq_false', Bool.not_not] at h2
  · simp only [h2, cond_true] at hk
    subst hk
    repeat ((conv => whnf); first | refine Cd.seq ?_ | refine Cd.cut ?_ | refine Cd.reg ?_ | refine Cd.block ?_ | refine Cd.cond ?_ | refine Cd.dreg ?_ | refine Cd.skip ?_ | refine Cd.ret ?_ | refine Cd.exit ?_ | refine Cd.loop ?_ | refine ⟨rfl, ?_⟩ | refine ⟨Nat.le_of_ble_eq_true rfl, ?_⟩ | refine ⟨.inl rfl, ?_⟩ | refine ⟨fun h => Bool.noConfusion h, ?_⟩)
    conv => whnf
    refine ⟨[], ?_, rfl, trivial, rfl, ?_⟩
    · exact trivial
    try subst hk
    repeat' (first | exact trivial | rfl | exact .inl rfl | exact .inr rfl | exact id | exact (fun h => Bool.noConfusion h) | refine And.intro ?_ ?_)
  simp only [h2, cond_false] at hk
  simp only [Bool.or_eq_false_iff, decide_eq_false_iff_not] at h2
  repeat ((conv => whnf); first | refine Cd.seq ?_ | refine Cd.cut ?_ | refine Cd.reg ?_ | refine Cd.block ?_ | refine Cd.cond ?_ | refine Cd.dreg ?_ | refine Cd.skip ?_ | refine Cd.ret ?_ | refine Cd.exit ?_ | refine Cd.loop ?_ | refine ⟨rfl, ?_⟩ | refine ⟨Nat.le_of_ble_eq_true rfl, ?_⟩ | refine ⟨.inl rfl, ?_⟩ | refine ⟨fun h => Bool.noConfusion h, ?_⟩)
  conv => whnf
  refine ⟨Int, fun i => (-1 ≤ i ∧ i < l.length) ∧ takeAt l u (i + 1).toNat = takeAt l u (p + 1).toNat, fun i => ⟨[(0, ⟨[], true, .lst 6 t (rowsZ l)⟩), (2, ⟨[], true, .bool u⟩), (9, ⟨[], true, .int .i64 i⟩)], [], 0⟩, fun i => (i + 1).toNat, ⟨p, ⟨by omega, rfl⟩, ?_⟩, fun i hI => ?_⟩
  · refine viewI [] rfl rfl ?_ rfl ?_ rfl ?_
    repeat' (first | exact trivial | rfl | exact .inl rfl | exact .inr rfl | exact id | exact (fun h => Bool.noConfusion h) | refine And.intro ?_ ?_)
  obtain ⟨⟨hI1, hI2⟩, hI3⟩ := hI
  repeat ((conv => whnf); first | refine Cd.seq ?_ | refine Cd.cut ?_ | refine Cd.reg ?_ | refine Cd.block ?_ | refine Cd.cond ?_ | refine Cd.dreg ?_ | refine Cd.skip ?_ | refine Cd.ret ?_ | refine Cd.exit ?_ | refine Cd.loop ?_ | refine ⟨rfl, ?_⟩ | refine ⟨Nat.le_of_ble_eq_true rfl, ?_⟩ | refine ⟨.inl rfl, ?_⟩ | refine ⟨fun h => Bool.noConfusion h, ?_⟩)
  conv => whnf
  refine ⟨fun h3 => ?_, fun h3 => ?_⟩ <;> try simp only [Bool.cond_true_left, Bool.cond_false_right, Bool.not_eq_true', Bool.not_eq_false', Bool.not_not] at h3
  · have h3 : 0 ≤ i := by simpa using h3
    obtain ⟨n, rfl⟩ : ∃ n : Nat, i = n := ⟨i.toNat, by omega⟩
    have hn : n < l.length := by omega
    have hgn := hg l[n] (List.getElem_mem hn)
    have hfn := hl.free l[n] (List.getElem_mem hn)
    repeat ((conv => whnf); first | refine Cd.seq ?_ | refine Cd.cut ?_ | refine Cd.reg ?_ | refine Cd.block ?_ | refine Cd.cond ?_ | refine Cd.dreg ?_ | refine Cd.skip ?_ | refine Cd.ret ?_ | refine Cd.exit ?_ | refine Cd.loop ?_ | refine ⟨rfl, ?_⟩ | refine ⟨Nat.le_of_ble_eq_true rfl, ?_⟩ | refine ⟨.inl rfl, ?_⟩ | refine ⟨fun h => Bool.noConfusion h, ?_⟩)
    conv => whnf
    refine ⟨fun _ => ⟨rfl, by omega, by rw [rowsZ_len]; omega⟩, ?_⟩
    rw [Int.toNat_natCast, rowsZ_get l n hn]
    obtain ⟨z, hz⟩ : ∃ z, l[n] = z := ⟨_, rfl⟩
    rw [hz] at hgn hfn ⊢
    have hm := hgn.marks
    repeat ((conv => whnf); first | refine Cd.seq ?_ | refine Cd.cut ?_ | refine Cd.reg ?_ | refine Cd.block ?_ | refine Cd.cond ?_ | refine Cd.dreg ?_ | refine Cd.skip ?_ | refine Cd.ret ?_ | refine Cd.exit ?_ | refine Cd.loop ?_ | refine ⟨rfl, ?_⟩ | refine ⟨Nat.le_of_ble_eq_true rfl, ?_⟩ | refine ⟨.inl rfl, ?_⟩ | refine ⟨fun h => Bool.noConfusion h, ?_⟩)
    conv => whnf
    rw [rowsI_len]
    repeat ((conv => whnf); first | refine Cd.seq ?_ | refine Cd.cut ?_ | refine Cd.reg ?_ | refine Cd.block ?_ | refine Cd.cond ?_ | refine Cd.dreg ?_ | refine Cd.skip ?_ | refine Cd.ret ?_ | refine Cd.exit ?_ | refine Cd.loop ?_ | refine ⟨rfl, ?_⟩ | refine ⟨Nat.le_of_ble_eq_true rfl, ?_⟩ | refine ⟨.inl rfl, ?_⟩ | refine ⟨fun h => Bool.noConfusion h, ?_⟩)
    conv => whnf
    refine ⟨fun h4 => ?_, fun h4 => ?_⟩ <;> try simp only [Bool.cond_true_left, Bool.cond_false_right, Bool.not_eq_true', Bool.not_eq_false', Bool.not_not] at h4
    · rw [hasZ_ref hgn u] at h4
      have hpos : 0 < z.free.length := hasZ_pos hgn h4
      have hst : takeAt l u (n + 1) = some n := by simp only [takeAt, getZ l n hn, hz, h4, cond_true]
      rw [← hI3, show ((n : Int) + 1).toNat = n + 1 by omega, hst] at hk
      simp only [getZ l n hn, hz] at hk
      repeat ((conv => whnf); first | refine Cd.seq ?_ | refine Cd.cut ?_ | refine Cd.reg ?_ | refine Cd.block ?_ | refine Cd.cond ?_ | refine Cd.dreg ?_ | refine Cd.skip ?_ | refine Cd.ret ?_ | refine Cd.exit ?_ | refine Cd.loop ?_ | refine ⟨rfl, ?_⟩ | refine ⟨Nat.le_of_ble_eq_true rfl, ?_⟩ | refine ⟨.inl rfl, ?_⟩ | refine ⟨fun h => Bool.noConfusion h, ?_⟩)
      conv => whnf
      refine ⟨fun _ => ⟨rfl, by decide, by rw [rowsI_len]; omega⟩, ?_⟩
      rw [show ((0 : Int)).toNat = 0 from rfl, rowsI_get _ 0 hpos]
      repeat ((conv => whnf); first | refine Cd.seq ?_ | refine Cd.cut ?_ | refine Cd.reg ?_ | refine Cd.block ?_ | refine Cd.cond ?_ | refine Cd.dreg ?_ | refine Cd.skip ?_ | refine Cd.ret ?_ | refine Cd.exit ?_ | refine Cd.loop ?_ | refine ⟨rfl, ?_⟩ | refine ⟨Nat.le_of_ble_eq_true rfl, ?_⟩ | refine ⟨.inl rfl, ?_⟩ | refine ⟨fun h => Bool.noConfusion h, ?_⟩)
      conv => whnf
      refine ⟨Unit, fun _ => True, fun _ => ⟨[(0, ⟨[], true, .lst 6 t (rowsZ l)⟩), (9, ⟨[], true, .int .i64 (n : Int)⟩), (10, ⟨[], true, .ptr 0 0 0⟩), (11, ⟨[], true, .int .i64 z.free[0]⟩)], [(0, .box (takenZ z).c)], 1⟩, ?_, fun _ _ => ?_⟩
      · repeat ((conv => whnf); first | refine Cd.seq ?_ | refine Cd.cut ?_ | refine Cd.reg ?_ | refine Cd.block ?_ | refine Cd.cond ?_ | refine Cd.dreg ?_ | refine Cd.skip ?_ | refine Cd.ret ?_ | refine Cd.exit ?_ | refine Cd.loop ?_ | refine ⟨rfl, ?_⟩ | refine ⟨Nat.le_of_ble_eq_true rfl, ?_⟩ | refine ⟨.inl rfl, ?_⟩ | refine ⟨fun h => Bool.noConfusion h, ?_⟩)
        conv => whnf
        refine ⟨fun _ => ⟨.inl rfl, by decide, by rw [rowsI_len]; omega, Int.le_refl _⟩, ?_⟩
        rw [Int.toNat_natCast, drop1]
        repeat ((conv => whnf); first | refine Cd.seq ?_ | refine Cd.cut ?_ | refine Cd.reg ?_ | refine Cd.block ?_ | refine Cd.cond ?_ | refine Cd.dreg ?_ | refine Cd.skip ?_ | refine Cd.ret ?_ | refine Cd.exit ?_ | refine Cd.loop ?_ | refine ⟨rfl, ?_⟩ | refine ⟨Nat.le_of_ble_eq_true rfl, ?_⟩ | refine ⟨.inl rfl, ?_⟩ | refine ⟨fun h => Bool.noConfusion h, ?_⟩)
        conv => whnf
        rw [rowsI_len]
        have hdl : (z.free.drop 1).length ≤ 100000 := by simp; omega
        refine ⟨by omega, by omega, ?_⟩
        repeat ((conv => whnf); first | refine Cd.seq ?_ | refine Cd.cut ?_ | refine Cd.reg ?_ | refine Cd.block ?_ | refine Cd.cond ?_ | refine Cd.dreg ?_ | refine Cd.skip ?_ | refine Cd.ret ?_ | refine Cd.exit ?_ | refine Cd.loop ?_ | refine ⟨rfl, ?_⟩ | refine ⟨Nat.le_of_ble_eq_true rfl, ?_⟩ | refine ⟨.inl rfl, ?_⟩ | refine ⟨fun h => Bool.noConfusion h, ?_⟩)
        conv => whnf
        refine ⟨(), trivial, ?_⟩
        refine viewI [some 0] rfl rfl ?_ rfl ?_ rfl ?_
        repeat' (first | exact trivial | rfl | exact .inl rfl | exact .inr rfl | exact id | exact (fun h => Bool.noConfusion h) | refine And.intro ?_ ?_)
        · show 0 + (z.free.drop 1).length ≤ (rowsI (z.free.drop 1)).length
          rw [rowsI_len]; omega
        · exact take0 (rowsI_len _)
      · repeat ((conv => whnf); first | refine Cd.seq ?_ | refine Cd.cut ?_ | refine Cd.reg ?_ | refine Cd.block ?_ | refine Cd.cond ?_ | refine Cd.dreg ?_ | refine Cd.skip ?_ | refine Cd.ret ?_ | refine Cd.exit ?_ | refine Cd.loop ?_ | refine ⟨rfl, ?_⟩ | refine ⟨Nat.le_of_ble_eq_true rfl, ?_⟩ | refine ⟨.inl rfl, ?_⟩ | refine ⟨fun h => Bool.noConfusion h, ?_⟩ | refine .inl ⟨_, fun _ => ⟨purA rfl, (by first | exact ok56 l t n (takenZ z) hn hlen)⟩, .inl rfl, ?_⟩)
        conv => whnf
        subst hk
        refine ⟨[], ?_, rfl, trivial, rfl, ?_⟩
        · exact trivial
        try subst hk
        repeat' (first | exact trivial | rfl | exact .inl rfl | exact .inr rfl | exact id | exact (fun h => Bool.noConfusion h) | refine And.intro ?_ ?_)
        exact getI _ 0 hpos
    rw [hasZ_ref hgn u] at h4
    have hst : takeAt l u (n + 1) = takeAt l u n := by simp only [takeAt, getZ l n hn, hz, h4, cond_false]
    repeat ((conv => whnf); first | refine Cd.seq ?_ | refine Cd.cut ?_ | refine Cd.reg ?_ | refine Cd.block ?_ | refine Cd.cond ?_ | refine Cd.dreg ?_ | refine Cd.skip ?_ | refine Cd.ret ?_ | refine Cd.exit ?_ | refine Cd.loop ?_ | refine ⟨rfl, ?_⟩ | refine ⟨Nat.le_of_ble_eq_true rfl, ?_⟩ | refine ⟨.inl rfl, ?_⟩ | refine ⟨fun h => Bool.noConfusion h, ?_⟩)
    conv => whnf
    rw [wrapI (n := (n : Int) - 1) (by omega) (by omega)]
    refine ⟨(n : Int) - 1, ⟨by omega, by rw [show ((n : Int) - 1 + 1).toNat = n by omega, ← hst, ← hI3, show ((n : Int) + 1).toNat = n + 1 by omega]⟩, ?_, by show ((n : Int) - 1 + 1).toNat < ((n : Int) + 1).toNat; omega⟩
    refine viewI [] rfl rfl ?_ rfl ?_ rfl ?_
    repeat' (first | exact trivial | rfl | exact .inl rfl | exact .inr rfl | exact id | exact (fun h => Bool.noConfusion h) | refine And.intro ?_ ?_)
  have h3 : i = -1 := by simp at h3; omega
  subst h3
  rw [← hI3] at hk
  have hk : (l, (0 : Int), (3 : Int)) = q := hk
  subst hk
  repeat ((conv => whnf); first | refine Cd.seq ?_ | refine Cd.cut ?_ | refine Cd.reg ?_ | refine Cd.block ?_ | refine Cd.cond ?_ | refine Cd.dreg ?_ | refine Cd.skip ?_ | refine Cd.ret ?_ | refine Cd.exit ?_ | refine Cd.loop ?_ | refine ⟨rfl, ?_⟩ | refine ⟨Nat.le_of_ble_eq_true rfl, ?_⟩ | refine ⟨.inl rfl, ?_⟩ | refine ⟨fun h => Bool.noConfusion h, ?_⟩)
  conv => whnf
  refine ⟨[], ?_, rfl, trivial, rfl, ?_⟩
  · exact trivial
  try subst hk
  repeat' (first | exact trivial | rfl | exact .inl rfl | exact .inr rfl | exact id | exact (fun h => Bool.noConfusion h) | refine And.intro ?_ ?_)
end Go.Proofs.Ytcifhjkodbaghaa
