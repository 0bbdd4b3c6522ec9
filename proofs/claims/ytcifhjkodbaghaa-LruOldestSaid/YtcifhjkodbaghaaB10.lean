/- Zone: New; the reference's. -/
import Derived.Test.YtcifhjkodbaghaaB9
set_option linter.unusedSimpArgs false
set_option linter.unusedVariables false
namespace Go.Proofs.Ytcifhjkodbaghaa
open Go Go.Sk Go.RowKit

/- pagecache/zone.New -/
def rc32 : RC :=
  (.seq
  (.reg [⟨(some 2), none, (.mv (.c (.lst 0 true [])))⟩,
    ⟨(some 3), none, (.mv (.c (.int .i64 0)))⟩] [])
  (.seq
  (.seq
  (.reg [⟨(some 10), none, (.mv (.t 0))⟩,
    ⟨(some 11), none, (.len (.t 10))⟩,
    ⟨(some 12), none, (.bin .eql (.t 11) (.c (.int .i64 0)))⟩] [10, 11])
  (.cond (.t 12)
   (.seq
   (.reg [⟨(some 2), none, (.mv (.c (.lst 0 true [])))⟩,
     ⟨(some 3), none, (.mv (.c (.int .i64 1)))⟩] [])
   .ret)
   .skip))
  (.seq
  (.reg [⟨(some 4), none, (.mv (.c (.lst 0 true [])))⟩] [])
  (.seq
  (.reg [⟨(some 5), none, (.mv (.c (.int .i64 1)))⟩] [])
  (.seq
  (.seq
  (.reg [⟨(some 13), none, (.mv (.t 0))⟩,
    ⟨(some 14), none, (.len (.t 13))⟩,
    ⟨(some 15), none, (.mv (.c (.int .i64 0)))⟩] [])
  (.block 0
   (.loop
    (.seq
    (.reg [⟨(some 16), none, (.bin .lss (.t 15) (.t 14))⟩] [])
    (.seq
    (.cond (.t 16)
     .skip
     (.exit 0))
    (.seq
    (.block 1
     (.seq
     (.reg [⟨(some 17), none, (.iaddr 1 (.t 13) (.t 15))⟩,
       ⟨(some 18), none, (.ld false 1 (.t 17))⟩,
       ⟨(some 7), none, (.mv (.t 18))⟩] [17, 18])
     (.seq
     (.seq
     (.reg [⟨(some 19), none, (.mv (.t 7))⟩,
       ⟨(some 20), none, (.bin .lss (.t 19) (.c (.int .i64 1)))⟩,
       ⟨(some 21), none, (.mv (.t 20))⟩,
       ⟨(some 22), (some (21, false)), (.mv (.t 7))⟩,
       ⟨(some 23), (some (21, false)), (.bin .gtr (.t 22) (.c (.int .i64 64)))⟩,
       ⟨(some 24), none, (.pick (.t 21) (.c (.bool true)) (.t 23))⟩,
       ⟨(some 25), none, (.mv (.t 24))⟩,
       ⟨(some 26), (some (25, false)), (.mv (.t 5))⟩,
       ⟨(some 27), (some (25, false)), (.mv (.t 7))⟩,
       ⟨(some 28), (some (25, false)), (.bin .add (.t 26) (.t 27))⟩,
       ⟨(some 29), (some (25, false)), (.bin .gtr (.t 28) (.c (.int .i64 65)))⟩,
       ⟨(some 30), none, (.pick (.t 25) (.c (.bool true)) (.t 29))⟩] [19, 20, 21, 22, 23, 24, 25, 26, 27, 28, 29])
     (.cond (.t 30)
      (.seq
      (.reg [⟨(some 2), none, (.mv (.c (.lst 0 true [])))⟩,
        ⟨(some 3), none, (.mv (.c (.int .i64 2)))⟩] [])
      .ret)
      .skip))
     (.seq
     (.reg [⟨(some 31), none, (.mv (.t 5))⟩,
       ⟨(some 32), none, (.mv (.t 7))⟩,
       ⟨(some 33), none, (.mv (.t 7))⟩,
       ⟨(some 34), none, (.bin .quo (.t 33) (.c (.int .i64 8)))⟩,
       ⟨(some 35), none, (.mv (.t 7))⟩,
       ⟨(some 36), none, (.bin .quo (.t 35) (.c (.int .i64 4)))⟩,
       ⟨(some 37), none, (.mv (.t 7))⟩,
       ⟨(some 38), none, (.bin .quo (.t 37) (.c (.int .i64 2)))⟩,
       ⟨(some 39), none, (.build [(.int .i64 0), (.int .i64 0), (.int .i64 0), (.int .i64 0), (.int .i64 0), (.lst 0 true [])] [(0, (1, (.t 31))), (1, (1, (.t 32))), (2, (1, (.t 34))), (3, (1, (.t 36))), (4, (1, (.t 38)))])⟩,
       ⟨(some 8), none, (.alloc [(.int .i64 0), (.int .i64 0), (.int .i64 0), (.int .i64 0), (.int .i64 0), (.lst 0 true [])])⟩,
       ⟨none, none, (.st 6 (.t 8) (.t 39))⟩] [31, 32, 33, 34, 35, 36, 37, 38, 39])
     (.cut
     (.seq
     (.reg [⟨(some 40), none, (.mv (.t 5))⟩,
       ⟨(some 9), none, (.mv (.t 40))⟩] [40])
     (.block 2
      (.loop
       (.seq
       (.seq
       (.reg [⟨(some 41), none, (.mv (.t 9))⟩,
         ⟨(some 42), none, (.mv (.t 5))⟩,
         ⟨(some 43), none, (.mv (.t 7))⟩,
         ⟨(some 44), none, (.bin .add (.t 42) (.t 43))⟩,
         ⟨(some 45), none, (.bin .lss (.t 41) (.t 44))⟩] [41, 42, 43, 44])
       (.cond (.t 45)
        .skip
        (.exit 2)))
       (.seq
       (.block 3
        (.reg [⟨(some 48), none, (.faddr 5 (.t 8))⟩,
          ⟨(some 49), none, (.ld false 1 (.t 48))⟩,
          ⟨(some 50), none, (.mv (.t 9))⟩,
          ⟨(some 51), none, (.bslice 1 [(.int .i64 0)] 1 [(0, (.t 50))])⟩,
          ⟨(some 52), none, (.app 1 8 (.t 49) (.t 51))⟩,
          ⟨(some 53), none, (.faddr 5 (.t 8))⟩,
          ⟨none, none, (.st 1 (.t 53) (.t 52))⟩] [48, 49, 50, 51, 52, 53]))
       (.reg [⟨(some 46), none, (.mv (.t 9))⟩,
         ⟨(some 47), none, (.bin .add (.t 46) (.c (.int .i64 1)))⟩,
         ⟨(some 9), none, (.mv (.t 47))⟩] [46, 47]))))))
     (.seq
     (.reg [⟨(some 54), none, (.mv (.t 4))⟩,
       ⟨(some 55), none, (.ld true 6 (.t 8))⟩,
       ⟨(some 56), none, (.bslice 6 [(.int .i64 0), (.int .i64 0), (.int .i64 0), (.int .i64 0), (.int .i64 0), (.lst 0 true [])] 1 [(0, (.t 55))])⟩,
       ⟨(some 57), none, (.app 6 64 (.t 54) (.t 56))⟩,
       ⟨(some 4), none, (.mv (.t 57))⟩] [54, 55, 56, 57])
     (.reg [⟨(some 58), none, (.mv (.t 5))⟩,
       ⟨(some 59), none, (.mv (.t 7))⟩,
       ⟨(some 60), none, (.bin .add (.t 58) (.t 59))⟩,
       ⟨(some 5), none, (.mv (.t 60))⟩] [58, 59, 60])))))))
    (.reg [⟨(some 61), none, (.bin .add (.t 15) (.c (.int .i64 1)))⟩,
      ⟨(some 15), none, (.mv (.t 61))⟩] [61])))))))
  (.seq
  (.reg [⟨(some 62), none, (.mv (.t 4))⟩,
    ⟨(some 2), none, (.mv (.t 62))⟩,
    ⟨(some 3), none, (.mv (.c (.int .i64 0)))⟩] [62])
  .ret))))))
theorem rcq32 : resC Go.Proofs.Try.prog Go.Proofs.Try.f32.ntmps ((Go.Proofs.Try.f32.body).getD .skip) = some (strip rc32) := by kernel_rfl
def rv32 : List RV := [(.tmp 2), (.tmp 3)]
theorem rvq32 : Go.Proofs.Try.f32.results.toList.mapM (resRV Go.Proofs.Try.prog) = some rv32 := by kernel_rfl

/-- The numbers from a to b. -/
def seqI (a b : Int) : List Int := (List.range (b - a).toNat).map fun (i : Nat) => a + i
theorem seqI_len (a b : Int) : (seqI a b).length = (b - a).toNat := by simp [seqI]
theorem seqI_nil (a b : Int) (h : b ≤ a) : seqI a b = [] := by
  have : (b - a).toNat = 0 := by omega
  simp [seqI, this]
theorem seqI_succ (a b : Int) (h : a ≤ b) : seqI a (b + 1) = seqI a b ++ [b] := by
  have : (b + 1 - a).toNat = (b - a).toNat + 1 := by omega
  rw [seqI, seqI, this, List.range_succ, List.map_append]
  congr 1
  simp only [List.map_cons, List.map_nil, List.cons.injEq, and_true]
  omega
theorem mem_seqI (a b x : Int) : x ∈ seqI a b ↔ a ≤ x ∧ x < b := by
  simp only [seqI, List.mem_map, List.mem_range]
  constructor
  · rintro ⟨i, h, rfl⟩; omega
  · rintro ⟨h1, h2⟩; exact ⟨(x - a).toNat, by omega, by omega⟩
theorem rowsI_snoc (l : List Int) (x : Int) : rowsI l ++ [[.int .i64 x]] = rowsI (l ++ [x]) := by rw [rowsI, rowsI, List.map_append]; rfl
theorem rowsZ_snoc (l : List Zn) (z : Zn) : rowsZ l ++ [z.c] = rowsZ (l ++ [z]) := by rw [rowsZ, rowsZ, List.map_append]; rfl
def divW (n k : Int) : Int := IntKind.i64.wrap (n.tdiv k)
def mkZ (f n : Int) : Zn := ⟨f, n, divW n 8, divW n 4, divW n 2, seqI f (f + n), false⟩
def badN (f n : Int) : Bool := (decide (n < 1) || decide (64 < n)) || decide (65 < IntKind.i64.wrap (f + n))
def newR (f : Int) : List Int → Option (List Zn)
  | [] => some []
  | n :: r => bif badN f n then none else (newR (f + n) r).map (mkZ f n :: ·)
def newF (s : List Int) : List Zn × Int := bif (s.length : Int) == 0 then ([], 1) else match newR 1 s with
  | none => ([], 2)
  | some l => (l, 0)
structure NewI (s : List Int) (i : Nat) (f : Int) (acc : List Zn) : Prop where
  le : i ≤ s.length
  len : acc.length ≤ i
  pos : 1 ≤ f ∧ f ≤ 65
  res : newR 1 s = (newR f (s.drop i)).map (acc ++ ·)
theorem badN_ok {f n : Int} (hf : 1 ≤ f ∧ f ≤ 65) (h : badN f n = false) : 1 ≤ n ∧ n ≤ 64 ∧ f + n ≤ 65 ∧ IntKind.i64.wrap (f + n) = f + n := by
  simp only [badN, Bool.or_eq_false_iff, decide_eq_false_iff_not] at h
  have : IntKind.i64.wrap (f + n) = f + n := wrapI (by omega) (by omega)
  omega
theorem NewI.bad {s : List Int} {i : Nat} {f : Int} {acc : List Zn} (h : NewI s i f acc) (hi : i < s.length) (hb : badN f s[i] = true) : newR 1 s = none := by
  rw [h.res, List.drop_eq_getElem_cons hi, newR, hb]; rfl
theorem NewI.next {s : List Int} {i : Nat} {f : Int} {acc : List Zn} (h : NewI s i f acc) (hi : i < s.length) (hb : badN f s[i] = false) : NewI s (i + 1) (f + s[i]) (acc ++ [mkZ f s[i]]) := by
  obtain ⟨a1, a2, a3, a4⟩ := badN_ok h.pos hb
  have := h.pos
  refine ⟨by omega, by have := h.len; simp; omega, by omega, ?_⟩
  rw [h.res, List.drop_eq_getElem_cons hi, newR, hb, cond_false, Option.map_map]
  congr 1
  funext r
  simp
theorem NewI.done {s : List Int} {i : Nat} {f : Int} {acc : List Zn} (h : NewI s i f acc) (hi : i = s.length) : newR 1 s = some acc := by
  rw [h.res, hi, List.drop_length, newR]; simp
set_option maxRecDepth 20000 in
set_option maxHeartbeats 1000000 in
theorem ok32 (s : List Int) (t : Bool) (hs : s.length ≤ 100000) : FnC Try.prog 32 [] [.lst 1 t (rowsI s)] (.tup [.lst 6 false (rowsZ (newF s).1), .int .i64 (newF s).2]) [] := by
  refine fn_okC (ob0 := []) (rc := rc32) (rvs := rv32) Try.func32 rfl rcq32 rvq32 (show 1 ≤ _ by decide) ?_
  generalize hk : newF s = q
  repeat ((conv => whnf); first | refine Cd.seq ?_ | refine Cd.cut ?_ | refine Cd.reg ?_ | refine Cd.block ?_ | refine Cd.cond ?_ | refine Cd.dreg ?_ | refine Cd.skip ?_ | refine Cd.ret ?_ | refine Cd.exit ?_ | refine Cd.loop ?_ | refine ⟨rfl, ?_⟩ | refine ⟨Nat.le_of_ble_eq_true rfl, ?_⟩ | refine ⟨.inl rfl, ?_⟩ | refine ⟨fun h => Bool.noConfusion h, ?_⟩)
  conv => whnf
  rw [rowsI_len]
  refine ⟨fun h1 => ?_, fun h1 => ?_⟩ <;> try simp only [Bool.cond_true_left, Bool.cond_false_right, Bool.not_eq_true', Bool.not_eq_false', Bool.not_not] at h1
  · simp only [newF, h1, cond_true] at hk
    subst hk
    repeat ((conv => whnf); first | refine Cd.seq ?_ | refine Cd.cut ?_ | refine Cd.reg ?_ | refine Cd.block ?_ | refine Cd.cond ?_ | refine Cd.dreg ?_ | refine Cd.skip ?_ | refine Cd.ret ?_ | refine Cd.exit ?_ | refine Cd.loop ?_ | refine ⟨rfl, ?_⟩ | refine ⟨Nat.le_of_ble_eq_true rfl, ?_⟩ | refine ⟨.inl rfl, ?_⟩ | refine ⟨fun h => Bool.noConfusion h, ?_⟩)
    conv => whnf
    refine ⟨[], ?_, rfl, trivial, rfl, ?_⟩
    · exact trivial
    try subst hk
    repeat' (first | exact trivial | rfl | exact .inl rfl | exact .inr rfl | exact id | exact (fun h => Bool.noConfusion h) | refine And.intro ?_ ?_)
  simp only [newF, h1, cond_false] at hk
  repeat ((conv => whnf); first | refine Cd.seq ?_ | refine Cd.cut ?_ | refine Cd.reg ?_ | refine Cd.block ?_ | refine Cd.cond ?_ | refine Cd.dreg ?_ | refine Cd.skip ?_ | refine Cd.ret ?_ | refine Cd.exit ?_ | refine Cd.loop ?_ | refine ⟨rfl, ?_⟩ | refine ⟨Nat.le_of_ble_eq_true rfl, ?_⟩ | refine ⟨.inl rfl, ?_⟩ | refine ⟨fun h => Bool.noConfusion h, ?_⟩)
  conv => whnf
  rw [rowsI_len]
  refine ⟨Nat × Int × List Zn, fun p => NewI s p.1 p.2.1 p.2.2, fun p => ⟨[(4, ⟨[], true, .sl 0 0 p.2.2.length⟩), (5, ⟨[], true, .int .i64 p.2.1⟩), (13, ⟨[], true, .lst 1 t (rowsI s)⟩), (14, ⟨[], true, .int .i64 (s.length : Int)⟩), (15, ⟨[], true, .int .i64 (p.1 : Int)⟩)], [(0, .row 6 (rowsZ p.2.2))], 1⟩, fun p => s.length - p.1, ⟨(0, 1, []), ⟨by simp, by simp, by decide, by simp⟩, ?_⟩, fun p hI => ?_⟩
  · refine viewI [none] rfl rfl ?_ rfl ?_ rfl ?_
    repeat' (first | exact trivial | rfl | exact .inl rfl | exact .inr rfl | exact id | exact (fun h => Bool.noConfusion h) | refine And.intro ?_ ?_)
  obtain ⟨i, f, acc⟩ := p
  have hI : NewI s i f acc := hI
  have hle := hI.le
  have hpos := hI.pos
  have hal := hI.len
  repeat ((conv => whnf); first | refine Cd.seq ?_ | refine Cd.cut ?_ | refine Cd.reg ?_ | refine Cd.block ?_ | refine Cd.cond ?_ | refine Cd.dreg ?_ | refine Cd.skip ?_ | refine Cd.ret ?_ | refine Cd.exit ?_ | refine Cd.loop ?_ | refine ⟨rfl, ?_⟩ | refine ⟨Nat.le_of_ble_eq_true rfl, ?_⟩ | refine ⟨.inl rfl, ?_⟩ | refine ⟨fun h => Bool.noConfusion h, ?_⟩)
  conv => whnf
  refine ⟨fun h3 => ?_, fun h3 => ?_⟩ <;> try simp only [Bool.cond_true_left, Bool.cond_false_right, Bool.not_eq_true', Bool.not_eq_false', Bool.not_not] at h3
  · have h3 : i < s.length := by simp at h3; omega
    repeat ((conv => whnf); first | refine Cd.seq ?_ | refine Cd.cut ?_ | refine Cd.reg ?_ | refine Cd.block ?_ | refine Cd.cond ?_ | refine Cd.dreg ?_ | refine Cd.skip ?_ | refine Cd.ret ?_ | refine Cd.exit ?_ | refine Cd.loop ?_ | refine ⟨rfl, ?_⟩ | refine ⟨Nat.le_of_ble_eq_true rfl, ?_⟩ | refine ⟨.inl rfl, ?_⟩ | refine ⟨fun h => Bool.noConfusion h, ?_⟩)
    conv => whnf
    refine ⟨fun _ => ⟨rfl, by omega, by rw [rowsI_len]; omega⟩, ?_⟩
    rw [Int.toNat_natCast, rowsI_get s i h3]
    have hbad := hI.bad h3
    have hnext := hI.next h3
    generalize s[i] = n at hbad hnext
    repeat ((conv => whnf); first | refine Cd.seq ?_ | refine Cd.cut ?_ | refine Cd.reg ?_ | refine Cd.block ?_ | refine Cd.cond ?_ | refine Cd.dreg ?_ | refine Cd.skip ?_ | refine Cd.ret ?_ | refine Cd.exit ?_ | refine Cd.loop ?_ | refine ⟨rfl, ?_⟩ | refine ⟨Nat.le_of_ble_eq_true rfl, ?_⟩ | refine ⟨.inl rfl, ?_⟩ | refine ⟨fun h => Bool.noConfusion h, ?_⟩)
    conv => whnf
    refine ⟨fun h4 => ?_, fun h4 => ?_⟩ <;> try simp only [Bool.cond_true_left, Bool.cond_false_right, Bool.not_eq_true', Bool.not_eq_false', Bool.not_not] at h4
    · have h4 : badN f n = true := h4
      rw [hbad h4] at hk
      subst hk
      repeat ((conv => whnf); first | refine Cd.seq ?_ | refine Cd.cut ?_ | refine Cd.reg ?_ | refine Cd.block ?_ | refine Cd.cond ?_ | refine Cd.dreg ?_ | refine Cd.skip ?_ | refine Cd.ret ?_ | refine Cd.exit ?_ | refine Cd.loop ?_ | refine ⟨rfl, ?_⟩ | refine ⟨Nat.le_of_ble_eq_true rfl, ?_⟩ | refine ⟨.inl rfl, ?_⟩ | refine ⟨fun h => Bool.noConfusion h, ?_⟩)
      conv => whnf
      refine ⟨[], ?_, rfl, trivial, rfl, ?_⟩
      · exact trivial
      try subst hk
      repeat' (first | exact trivial | rfl | exact .inl rfl | exact .inr rfl | exact id | exact (fun h => Bool.noConfusion h) | refine And.intro ?_ ?_)
    have h4 : badN f n = false := h4
    obtain ⟨a1, a2, a3, a4⟩ := badN_ok hpos h4
    have hnext := hnext h4
    repeat ((conv => whnf); first | refine Cd.seq ?_ | refine Cd.cut ?_ | refine Cd.reg ?_ | refine Cd.block ?_ | refine Cd.cond ?_ | refine Cd.dreg ?_ | refine Cd.skip ?_ | refine Cd.ret ?_ | refine Cd.exit ?_ | refine Cd.loop ?_ | refine ⟨rfl, ?_⟩ | refine ⟨Nat.le_of_ble_eq_true rfl, ?_⟩ | refine ⟨.inl rfl, ?_⟩ | refine ⟨fun h => Bool.noConfusion h, ?_⟩)
    conv => whnf
    refine ⟨fun _ => by decide, ?_⟩
    repeat ((conv => whnf); first | refine Cd.seq ?_ | refine Cd.cut ?_ | refine Cd.reg ?_ | refine Cd.block ?_ | refine Cd.cond ?_ | refine Cd.dreg ?_ | refine Cd.skip ?_ | refine Cd.ret ?_ | refine Cd.exit ?_ | refine Cd.loop ?_ | refine ⟨rfl, ?_⟩ | refine ⟨Nat.le_of_ble_eq_true rfl, ?_⟩ | refine ⟨.inl rfl, ?_⟩ | refine ⟨fun h => Bool.noConfusion h, ?_⟩)
    conv => whnf
    refine ⟨fun _ => by decide, ?_⟩
    repeat ((conv => whnf); first | refine Cd.seq ?_ | refine Cd.cut ?_ | refine Cd.reg ?_ | refine Cd.block ?_ | refine Cd.cond ?_ | refine Cd.dreg ?_ | refine Cd.skip ?_ | refine Cd.ret ?_ | refine Cd.exit ?_ | refine Cd.loop ?_ | refine ⟨rfl, ?_⟩ | refine ⟨Nat.le_of_ble_eq_true rfl, ?_⟩ | refine ⟨.inl rfl, ?_⟩ | refine ⟨fun h => Bool.noConfusion h, ?_⟩)
    conv => whnf
    refine ⟨fun _ => by decide, ?_⟩
    repeat ((conv => whnf); first | refine Cd.seq ?_ | refine Cd.cut ?_ | refine Cd.reg ?_ | refine Cd.block ?_ | refine Cd.cond ?_ | refine Cd.dreg ?_ | refine Cd.skip ?_ | refine Cd.ret ?_ | refine Cd.exit ?_ | refine Cd.loop ?_ | refine ⟨rfl, ?_⟩ | refine ⟨Nat.le_of_ble_eq_true rfl, ?_⟩ | refine ⟨.inl rfl, ?_⟩ | refine ⟨fun h => Bool.noConfusion h, ?_⟩)
    conv => whnf
    refine ⟨Unit, fun _ => True, fun _ => ⟨[(4, ⟨[], true, .sl 0 0 acc.length⟩), (5, ⟨[], true, .int .i64 f⟩), (7, ⟨[], true, .int .i64 n⟩), (8, ⟨[], true, .ptr 1 0 0⟩), (13, ⟨[], true, .lst 1 t (rowsI s)⟩), (14, ⟨[], true, .int .i64 (s.length : Int)⟩), (15, ⟨[], true, .int .i64 (i : Int)⟩)],
      [(0, .row 6 (rowsZ acc)), (1, .box (mkZ f n).c)], 2⟩, ?_, fun _ _ => ?_⟩
    · repeat ((conv => whnf); first | refine Cd.seq ?_ | refine Cd.cut ?_ | refine Cd.reg ?_ | refine Cd.block ?_ | refine Cd.cond ?_ | refine Cd.dreg ?_ | refine Cd.skip ?_ | refine Cd.ret ?_ | refine Cd.exit ?_ | refine Cd.loop ?_ | refine ⟨rfl, ?_⟩ | refine ⟨Nat.le_of_ble_eq_true rfl, ?_⟩ | refine ⟨.inl rfl, ?_⟩ | refine ⟨fun h => Bool.noConfusion h, ?_⟩)
      conv => whnf
      refine ⟨Nat × List Int, fun y => (y.1 : Int) ≤ n ∧ y.2 = seqI f (f + y.1), fun y => ⟨[(4, ⟨[], true, .sl 0 0 acc.length⟩), (5, ⟨[], true, .int .i64 f⟩), (7, ⟨[], true, .int .i64 n⟩), (8, ⟨[], true, .ptr 1 0 0⟩), (9, ⟨[], true, .int .i64 (f + (y.1 : Int))⟩), (13, ⟨[], true, .lst 1 t (rowsI s)⟩), (14, ⟨[], true, .int .i64 (s.length : Int)⟩), (15, ⟨[], true, .int .i64 (i : Int)⟩)],
        [(0, .row 6 (rowsZ acc)), (1, .box [.int .i64 f, .int .i64 n, .int .i64 (divW n 8), .int .i64 (divW n 4), .int .i64 (divW n 2), .sl 2 0 y.2.length]), (2, .row 1 (rowsI y.2))], 3⟩, fun y => 100 - y.1, ⟨(0, []), ⟨by simp; omega, by rw [seqI_nil _ _ (by simp)]⟩, ?_⟩, fun y hy => ?_⟩
      · refine viewI [some 0, some 1, none] rfl rfl ?_ rfl ?_ rfl ?_
        repeat' (first | exact trivial | rfl | exact .inl rfl | exact .inr rfl | exact id | exact (fun h => Bool.noConfusion h) | refine And.intro ?_ ?_)
        exact (Int.add_zero _).symm
      obtain ⟨k, out⟩ := y
      obtain ⟨hy1, hy2⟩ := hy
      simp only at hy1 hy2
      have hlen : out.length = k := by rw [hy2, seqI_len]; omega
      have hw1 : IntKind.i64.wrap (f + (k : Int) + 1) = f + ((k + 1 : Nat) : Int) := by rw [wrapI (by omega) (by omega)]; omega
      repeat ((conv => whnf); first | refine Cd.seq ?_ | refine Cd.cut ?_ | refine Cd.reg ?_ | refine Cd.block ?_ | refine Cd.cond ?_ | refine Cd.dreg ?_ | refine Cd.skip ?_ | refine Cd.ret ?_ | refine Cd.exit ?_ | refine Cd.loop ?_ | refine ⟨rfl, ?_⟩ | refine ⟨Nat.le_of_ble_eq_true rfl, ?_⟩ | refine ⟨.inl rfl, ?_⟩ | refine ⟨fun h => Bool.noConfusion h, ?_⟩)
      conv => whnf
      rw [a4]
      refine ⟨fun h5 => ?_, fun h5 => ?_⟩ <;> try simp only [Bool.cond_true_left, Bool.cond_false_right, Bool.not_eq_true', Bool.not_eq_false', Bool.not_not] at h5
      · have h5 : (k : Int) < n := by simp at h5; omega
        repeat ((conv => whnf); first | refine Cd.seq ?_ | refine Cd.cut ?_ | refine Cd.reg ?_ | refine Cd.block ?_ | refine Cd.cond ?_ | refine Cd.dreg ?_ | refine Cd.skip ?_ | refine Cd.ret ?_ | refine Cd.exit ?_ | refine Cd.loop ?_ | refine ⟨rfl, ?_⟩ | refine ⟨Nat.le_of_ble_eq_true rfl, ?_⟩ | refine ⟨.inl rfl, ?_⟩ | refine ⟨fun h => Bool.noConfusion h, ?_⟩)
        conv => whnf
        refine ⟨(rowsI_len out).symm, ?_, ?_, ?_⟩
        · show (((rowsI out).length + 1 : Nat) : Int) ≤ _
          rw [rowsI_len]; omega
        · show ((rowsI out).length + 1) * 8 ≤ _
          rw [rowsI_len]; omega
        repeat ((conv => whnf); first | refine Cd.seq ?_ | refine Cd.cut ?_ | refine Cd.reg ?_ | refine Cd.block ?_ | refine Cd.cond ?_ | refine Cd.dreg ?_ | refine Cd.skip ?_ | refine Cd.ret ?_ | refine Cd.exit ?_ | refine Cd.loop ?_ | refine ⟨rfl, ?_⟩ | refine ⟨Nat.le_of_ble_eq_true rfl, ?_⟩ | refine ⟨.inl rfl, ?_⟩ | refine ⟨fun h => Bool.noConfusion h, ?_⟩)
        conv => whnf
        rw [hw1]
        refine ⟨(k + 1, seqI f (f + ((k + 1 : Nat) : Int))), ⟨by show ((k + 1 : Nat) : Int) ≤ _; omega, rfl⟩, ?_, by show 100 - (k + 1) < 100 - k; omega⟩
        have hs1 : seqI f (f + ((k + 1 : Nat) : Int)) = out ++ [f + (k : Int)] := by
          rw [show f + ((k + 1 : Nat) : Int) = f + (k : Int) + 1 by omega, seqI_succ _ _ (by omega), hy2]
        rw [hs1]
        refine viewI [some 0, some 1, some 4] rfl rfl ?_ rfl ?_ rfl ?_
        repeat' (first | exact trivial | rfl | exact .inl rfl | exact .inr rfl | exact id | exact (fun h => Bool.noConfusion h) | refine And.intro ?_ ?_)
        · show (rowsI out).length + 1 = _
          rw [rowsI_len, List.length_append]; rfl
        · exact rowsI_snoc out _
      have h5 : (k : Int) = n := by simp at h5; omega
      repeat ((conv => whnf); first | refine Cd.seq ?_ | refine Cd.cut ?_ | refine Cd.reg ?_ | refine Cd.block ?_ | refine Cd.cond ?_ | refine Cd.dreg ?_ | refine Cd.skip ?_ | refine Cd.ret ?_ | refine Cd.exit ?_ | refine Cd.loop ?_ | refine ⟨rfl, ?_⟩ | refine ⟨Nat.le_of_ble_eq_true rfl, ?_⟩ | refine ⟨.inl rfl, ?_⟩ | refine ⟨fun h => Bool.noConfusion h, ?_⟩)
      conv => whnf
      refine ⟨(), trivial, ?_⟩
      refine viewI [some ?k163_0, some ?k163_1] rfl rfl ?h3_163 ?h4_163 ?h5_163 ?h6_163 ?h7_163
      case' h7_163 => repeat' (first | exact trivial | rfl | exact .inl rfl | exact .inr rfl | exact id | exact (fun h => Bool.noConfusion h) | refine And.intro ?_ ?_)
      case' h4_163 => rfl
      case' h6_163 => rfl
      case' h3_163 => repeat' (first | exact trivial | rfl | exact .inl rfl | exact .inr rfl | exact id | exact (fun h => Bool.noConfusion h) | refine And.intro ?_ ?_)
      case' h5_163 => repeat' (first | exact trivial | rfl | exact .inl rfl | exact .inr rfl | exact id | exact (fun h => Bool.noConfusion h) | refine And.intro ?_ ?_)
      · show 0 + out.length ≤ (rowsI out).length
        rw [rowsI_len]; omega
      · refine (take0 (rowsI_len _)).trans ?_
        show rowsI out = rowsI (seqI f (f + n))
        rw [hy2, h5]
    · repeat ((conv => whnf); first | refine Cd.seq ?_ | refine Cd.cut ?_ | refine Cd.reg ?_ | refine Cd.block ?_ | refine Cd.cond ?_ | refine Cd.dreg ?_ | refine Cd.skip ?_ | refine Cd.ret ?_ | refine Cd.exit ?_ | refine Cd.loop ?_ | refine ⟨rfl, ?_⟩ | refine ⟨Nat.le_of_ble_eq_true rfl, ?_⟩ | refine ⟨.inl rfl, ?_⟩ | refine ⟨fun h => Bool.noConfusion h, ?_⟩)
      conv => whnf
      refine ⟨(rowsZ_len acc).symm, ?_, ?_, ?_⟩
      · show (((rowsZ acc).length + 1 : Nat) : Int) ≤ _
        rw [rowsZ_len]; omega
      · show ((rowsZ acc).length + 1) * 64 ≤ _
        rw [rowsZ_len]; omega
      repeat ((conv => whnf); first | refine Cd.seq ?_ | refine Cd.cut ?_ | refine Cd.reg ?_ | refine Cd.block ?_ | refine Cd.cond ?_ | refine Cd.dreg ?_ | refine Cd.skip ?_ | refine Cd.ret ?_ | refine Cd.exit ?_ | refine Cd.loop ?_ | refine ⟨rfl, ?_⟩ | refine ⟨Nat.le_of_ble_eq_true rfl, ?_⟩ | refine ⟨.inl rfl, ?_⟩ | refine ⟨fun h => Bool.noConfusion h, ?_⟩)
      conv => whnf
      rw [a4, wrapI (n := (i : Int) + 1) (by omega) (by omega), show ((i : Int) + 1) = ((i + 1 : Nat) : Int) by omega]
      refine ⟨(i + 1, f + n, acc ++ [mkZ f n]), hnext, ?_, by show s.length - (i + 1) < s.length - i; omega⟩
      refine viewI [some ?k185_0] rfl rfl ?h3_185 ?h4_185 ?h5_185 ?h6_185 ?h7_185
      case' h7_185 => repeat' (first | exact trivial | rfl | exact .inl rfl | exact .inr rfl | exact id | exact (fun h => Bool.noConfusion h) | refine And.intro ?_ ?_)
      case' h4_185 => rfl
      case' h6_185 => rfl
      case' h3_185 => repeat' (first | exact trivial | rfl | exact .inl rfl | exact .inr rfl | exact id | exact (fun h => Bool.noConfusion h) | refine And.intro ?_ ?_)
      case' h5_185 => repeat' (first | exact trivial | rfl | exact .inl rfl | exact .inr rfl | exact id | exact (fun h => Bool.noConfusion h) | refine And.intro ?_ ?_)
      · exact rowsZ_snoc acc (mkZ f n)
      · show (rowsZ acc).length + 1 = _
        rw [rowsZ_len, List.length_append]; rfl
  have h3 : i = s.length := by simp at h3; omega
  rw [hI.done h3] at hk
  subst hk
  repeat ((conv => whnf); first | refine Cd.seq ?_ | refine Cd.cut ?_ | refine Cd.reg ?_ | refine Cd.block ?_ | refine Cd.cond ?_ | refine Cd.dreg ?_ | refine Cd.skip ?_ | refine Cd.ret ?_ | refine Cd.exit ?_ | refine Cd.loop ?_ | refine ⟨rfl, ?_⟩ | refine ⟨Nat.le_of_ble_eq_true rfl, ?_⟩ | refine ⟨.inl rfl, ?_⟩ | refine ⟨fun h => Bool.noConfusion h, ?_⟩)
  conv => whnf
  refine ⟨[], ?_, rfl, trivial, rfl, ?_⟩
  · exact trivial
  try subst hk
  repeat' (first | exact trivial | rfl | exact .inl rfl | exact .inr rfl | exact id | exact (fun h => Bool.noConfusion h) | refine And.intro ?_ ?_)
  · show 0 + acc.length ≤ (rowsZ acc).length
    rw [rowsZ_len]; omega
  · exact take0 (rowsZ_len _)
end Go.Proofs.Ytcifhjkodbaghaa
