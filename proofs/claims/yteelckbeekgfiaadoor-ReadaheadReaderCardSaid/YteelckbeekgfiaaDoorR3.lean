/- Readahead: has, begin; the reference's pages, kept. -/
import Derived.Test.YteelckbeekgfiaaDoorR2
set_option linter.unusedSimpArgs false
set_option linter.unusedVariables false
namespace Go.Proofs.YteelckbeekgfiaaDoor
open Go Go.Sk Go.RowKit

/- (pagecache/readahead.span).has -/
def rc41 : RC :=
  (.seq
  (.reg [⟨(some 2), none, (.box (.t 0))⟩,
    ⟨(some 4), none, (.mv (.c (.bool false)))⟩] [])
  (.seq
  (.reg [⟨(some 5), none, (.mv (.t 1))⟩,
    ⟨(some 6), none, (.faddr 0 (.t 2))⟩,
    ⟨(some 7), none, (.ld false 1 (.t 6))⟩,
    ⟨(some 8), none, (.bin .geq (.t 5) (.t 7))⟩,
    ⟨(some 9), none, (.mv (.t 8))⟩,
    ⟨(some 10), (some (9, true)), (.mv (.t 1))⟩,
    ⟨(some 11), (some (9, true)), (.faddr 1 (.t 2))⟩,
    ⟨(some 12), (some (9, true)), (.ld false 1 (.t 11))⟩,
    ⟨(some 13), (some (9, true)), (.bin .lss (.t 10) (.t 12))⟩,
    ⟨(some 14), none, (.pick (.t 9) (.t 13) (.c (.bool false)))⟩,
    ⟨(some 4), none, (.mv (.t 14))⟩] [5, 6, 7, 8, 9, 10, 11, 12, 13, 14])
  .ret))
theorem rcq41 : resC Go.Proofs.Tryd.prog Go.Proofs.Tryd.f41.ntmps ((Go.Proofs.Tryd.f41.body).getD .skip) = some (strip rc41) := by kernel_rfl
def rv41 : List RV := [(.tmp 4)]
theorem rvq41 : Go.Proofs.Tryd.f41.results.toList.mapM (resRV Go.Proofs.Tryd.prog) = some rv41 := by kernel_rfl

/- (pagecache/readahead.span).begin -/
def rc42 : RC :=
  (.seq
  (.reg [⟨(some 4), none, (.box (.t 0))⟩,
    ⟨(some 5), none, (.box (.t 1))⟩,
    ⟨(some 8), none, (.alloc [(.int .i64 0), (.int .i64 0), (.int .i64 0)])⟩,
    ⟨(some 9), none, (.mv (.c (.lst 0 true [])))⟩] [])
  (.seq
  (.seq
  (.reg [⟨(some 12), none, (.mv (.t 2))⟩,
    ⟨(some 13), none, (.faddr 2 (.t 4))⟩,
    ⟨(some 14), none, (.ld false 1 (.t 13))⟩,
    ⟨(some 15), none, (.bin .geq (.t 12) (.t 14))⟩] [12, 13, 14])
  (.cond (.t 15)
   (.seq
   (.reg [⟨(some 16), none, (.ld true 3 (.t 5))⟩,
     ⟨none, none, (.st 3 (.t 8) (.t 16))⟩,
     ⟨(some 9), none, (.mv (.c (.lst 0 true [])))⟩] [16])
   .ret)
   .skip))
  (.seq
  (.reg [⟨(some 10), none, (.mv (.c (.lst 0 true [])))⟩] [])
  (.seq
  (.seq
  (.reg [⟨(some 17), none, (.mv (.t 2))⟩,
    ⟨(some 11), none, (.mv (.t 17))⟩] [17])
  (.block 0
   (.loop
    (.seq
    (.seq
    (.reg [⟨(some 18), none, (.mv (.t 11))⟩,
      ⟨(some 19), none, (.mv (.t 2))⟩,
      ⟨(some 20), none, (.mv (.t 3))⟩,
      ⟨(some 21), none, (.bin .add (.t 19) (.t 20))⟩,
      ⟨(some 22), none, (.faddr 2 (.t 4))⟩,
      ⟨(some 23), none, (.ld false 1 (.t 22))⟩,
      ⟨(some 24), none, (.mn (.t 21) (.t 23))⟩,
      ⟨(some 25), none, (.bin .lss (.t 18) (.t 24))⟩] [18, 19, 20, 21, 22, 23, 24])
    (.cond (.t 25)
     .skip
     (.exit 0)))
    (.seq
    (.block 1
     (.reg [⟨(some 28), none, (.mv (.t 10))⟩,
       ⟨(some 29), none, (.mv (.t 11))⟩,
       ⟨(some 30), none, (.bslice 1 [(.int .i64 0)] 1 [(0, (.t 29))])⟩,
       ⟨(some 31), none, (.app 1 8 (.t 28) (.t 30))⟩,
       ⟨(some 10), none, (.mv (.t 31))⟩] [28, 29, 30, 31]))
    (.reg [⟨(some 26), none, (.mv (.t 11))⟩,
      ⟨(some 27), none, (.bin .add (.t 26) (.c (.int .i64 1)))⟩,
      ⟨(some 11), none, (.mv (.t 27))⟩] [26, 27]))))))
  (.seq
  (.reg [⟨(some 32), none, (.mv (.t 2))⟩,
    ⟨(some 33), none, (.mv (.t 3))⟩,
    ⟨(some 34), none, (.mv (.t 3))⟩,
    ⟨(some 35), none, (.build [(.int .i64 0), (.int .i64 0), (.int .i64 0)] [(0, (1, (.t 32))), (1, (1, (.t 33))), (2, (1, (.t 34)))])⟩,
    ⟨(some 36), none, (.mv (.t 10))⟩,
    ⟨none, none, (.st 3 (.t 8) (.t 35))⟩,
    ⟨(some 9), none, (.mv (.t 36))⟩] [32, 33, 34, 35, 36])
  .ret)))))
theorem rcq42 : resC Go.Proofs.Tryd.prog Go.Proofs.Tryd.f42.ntmps ((Go.Proofs.Tryd.f42.body).getD .skip) = some (strip rc42) := by kernel_rfl
def rv42 : List RV := [(.cell 8 true 3), (.tmp 9)]
theorem rvq42 : Go.Proofs.Tryd.f42.results.toList.mapM (resRV Go.Proofs.Tryd.prog) = some rv42 := by kernel_rfl

/- pagecache/pagecacheref07.pages -/
def rc33 : RC :=
  (.seq
  (.reg [⟨(some 1), none, (.box (.t 0))⟩,
    ⟨(some 2), none, (.mv (.c (.lst 0 true [])))⟩] [])
  (.seq
  (.reg [⟨(some 3), none, (.mv (.c (.lst 0 true [])))⟩] [])
  (.seq
  (.seq
  (.reg [⟨(some 4), none, (.mv (.c (.int .i64 0)))⟩] [])
  (.block 0
   (.loop
    (.seq
    (.seq
    (.reg [⟨(some 5), none, (.mv (.t 4))⟩,
      ⟨(some 6), none, (.faddr 1 (.t 1))⟩,
      ⟨(some 7), none, (.ld false 1 (.t 6))⟩,
      ⟨(some 8), none, (.bin .lss (.t 5) (.t 7))⟩] [5, 6, 7])
    (.cond (.t 8)
     .skip
     (.exit 0)))
    (.seq
    (.block 1
     (.reg [⟨(some 11), none, (.mv (.t 3))⟩,
       ⟨(some 12), none, (.faddr 0 (.t 1))⟩,
       ⟨(some 13), none, (.ld false 1 (.t 12))⟩,
       ⟨(some 14), none, (.mv (.t 4))⟩,
       ⟨(some 15), none, (.bin .add (.t 13) (.t 14))⟩,
       ⟨(some 16), none, (.bslice 1 [(.int .i64 0)] 1 [(0, (.t 15))])⟩,
       ⟨(some 17), none, (.app 1 8 (.t 11) (.t 16))⟩,
       ⟨(some 3), none, (.mv (.t 17))⟩] [11, 12, 13, 14, 15, 16, 17]))
    (.reg [⟨(some 9), none, (.mv (.t 4))⟩,
      ⟨(some 10), none, (.bin .add (.t 9) (.c (.int .i64 1)))⟩,
      ⟨(some 4), none, (.mv (.t 10))⟩] [9, 10]))))))
  (.seq
  (.reg [⟨(some 18), none, (.mv (.t 3))⟩,
    ⟨(some 2), none, (.mv (.t 18))⟩] [18])
  .ret))))
theorem rcq33 : resC Go.Proofs.Tryd.prog Go.Proofs.Tryd.f33.ntmps ((Go.Proofs.Tryd.f33.body).getD .skip) = some (strip rc33) := by kernel_rfl
def rv33 : List RV := [(.tmp 2)]
theorem rvq33 : Go.Proofs.Tryd.f33.results.toList.mapM (resRV Go.Proofs.Tryd.prog) = some rv33 := by kernel_rfl

/- pagecache/pagecacheref07.kept -/
def rc32 : RC :=
  (.seq
  (.reg [⟨(some 4), none, (.mv (.c (.lst 0 true [])))⟩] [])
  (.seq
  (.reg [⟨(some 5), none, (.mv (.c (.lst 0 true [])))⟩] [])
  (.seq
  (.seq
  (.reg [⟨(some 6), none, (.mv (.c (.int .i64 0)))⟩] [])
  (.block 0
   (.loop
    (.seq
    (.seq
    (.reg [⟨(some 7), none, (.mv (.t 6))⟩,
      ⟨(some 8), none, (.mv (.t 0))⟩,
      ⟨(some 9), none, (.len (.t 8))⟩,
      ⟨(some 10), none, (.bin .lss (.t 7) (.t 9))⟩] [7, 8, 9])
    (.cond (.t 10)
     .skip
     (.exit 0)))
    (.seq
    (.block 1
     (.seq
     (.reg [⟨(some 13), none, (.mv (.t 0))⟩,
       ⟨(some 14), none, (.mv (.t 6))⟩,
       ⟨(some 15), none, (.iaddr 1 (.t 13) (.t 14))⟩,
       ⟨(some 16), none, (.ld false 1 (.t 15))⟩,
       ⟨(some 17), none, (.mv (.t 1))⟩,
       ⟨(some 18), none, (.bin .lss (.t 16) (.t 17))⟩] [13, 14, 15, 16, 17])
     (.cond (.t 18)
      (.reg [⟨(some 19), none, (.mv (.t 5))⟩,
        ⟨(some 20), none, (.mv (.t 0))⟩,
        ⟨(some 21), none, (.mv (.t 6))⟩,
        ⟨(some 22), none, (.iaddr 1 (.t 20) (.t 21))⟩,
        ⟨(some 23), none, (.ld false 1 (.t 22))⟩,
        ⟨(some 24), none, (.bslice 1 [(.int .i64 0)] 1 [(0, (.t 23))])⟩,
        ⟨(some 25), none, (.app 1 8 (.t 19) (.t 24))⟩,
        ⟨(some 5), none, (.mv (.t 25))⟩] [19, 20, 21, 22, 23, 24, 25])
      .skip)))
    (.reg [⟨(some 11), none, (.mv (.t 6))⟩,
      ⟨(some 12), none, (.bin .add (.t 11) (.c (.int .i64 1)))⟩,
      ⟨(some 6), none, (.mv (.t 12))⟩] [11, 12]))))))
  (.seq
  (.reg [⟨(some 26), none, (.mv (.t 5))⟩,
    ⟨(some 4), none, (.mv (.t 26))⟩] [26])
  .ret))))
theorem rcq32 : resC Go.Proofs.Tryd.prog Go.Proofs.Tryd.f32.ntmps ((Go.Proofs.Tryd.f32.body).getD .skip) = some (strip rc32) := by kernel_rfl
def rv32 : List RV := [(.tmp 4)]
theorem rvq32 : Go.Proofs.Tryd.f32.results.toList.mapM (resRV Go.Proofs.Tryd.prog) = some rv32 := by kernel_rfl

def spanC (a b e : Int) : List V := [.int .i64 a, .int .i64 b, .int .i64 e]
def hasF (a b p : Int) : Bool := bif decide (a ≤ p) then decide (p < b) else false
theorem hasF_iff (a b p : Int) : hasF a b p = true ↔ a ≤ p ∧ p < b := by simp [hasF]
theorem okD41 (a b e p : Int) : FnC Tryd.prog 41 [] [.agg (spanC a b e), .int .i64 p] (.bool (hasF a b p)) [] := by
  refine fn_okC (ob0 := []) (rc := rc41) (rvs := rv41) Tryd.func41 rfl rcq41 rvq41 (show 2 ≤ _ by decide) ?_
  generalize hk : hasF a b p = q
  repeat ((conv => whnf); first | refine Cd.seq ?_ | refine Cd.cut ?_ | refine Cd.reg ?_ | refine Cd.block ?_ | refine Cd.cond ?_ | refine Cd.dreg ?_ | refine Cd.skip ?_ | refine Cd.ret ?_ | refine Cd.exit ?_ | refine Cd.loop ?_ | refine ⟨rfl, ?_⟩ | refine ⟨Nat.le_of_ble_eq_true rfl, ?_⟩ | refine ⟨.inl rfl, ?_⟩ | refine ⟨fun h => Bool.noConfusion h, ?_⟩)
  conv => whnf
  refine ⟨[], ?_, rfl, trivial, rfl, ?_⟩
  · exact trivial
  try subst hk
  repeat' (first | exact trivial | rfl | exact .inl rfl | exact .inr rfl | exact id | exact (fun h => Bool.noConfusion h) | refine And.intro ?_ ?_)
/-- The numbers from a to b. -/
def seqI (a b : Int) : List Int := (List.range (b - a).toNat).map fun (i : Nat) => a + i
theorem seqI_len (a b : Int) : (seqI a b).length = (b - a).toNat := by simp [seqI]
theorem seqI_nil (a b : Int) (h : b ≤ a) : seqI a b = [] := by
  have : (b - a).toNat = 0 := by omega
  simp [seqI, this]
theorem seqI_succ (a b : Int) (h : a ≤ b) : seqI a (b + 1) = seqI a b ++ [b] := by
  have : (b + 1 - a).toNat = (b - a).toNat + 1 := by omega
  rw [seqI, seqI, this, List.range_succ, List.map_append]
  congr 1
  simp only [List.map_cons, List.map_nil, List.cons.injEq, and_true]
  omega
theorem mem_seqI (a b x : Int) : x ∈ seqI a b ↔ a ≤ x ∧ x < b := by
  simp only [seqI, List.mem_map, List.mem_range]
  constructor
  · rintro ⟨i, h, rfl⟩; omega
  · rintro ⟨h1, h2⟩; exact ⟨(x - a).toNat, by omega, by omega⟩
def beginF (e : Int) (old : Win) (start size : Int) : Win × List Int := if e ≤ start then (old, []) else (⟨start, size, size⟩, seqI start (min (start + size) e))
theorem rowsI_snoc (l : List Int) (x : Int) : rowsI l ++ [[.int .i64 x]] = rowsI (l ++ [x]) := by rw [rowsI, rowsI, List.map_append]; rfl
set_option maxRecDepth 20000 in
theorem okD42 (a b e : Int) (old : Win) (start size : Int) (hs : 0 ≤ start ∧ start ≤ 1000) (hz : 0 ≤ size ∧ size ≤ 100) (he : e ≤ 1000) :
    FnC Tryd.prog 42 [] [.agg (spanC a b e), .agg old.c, .int .i64 start, .int .i64 size] (.tup [.agg (beginF e old start size).1.c, .lst 1 false (rowsI (beginF e old start size).2)]) [] := by
  refine fn_okC (ob0 := []) (rc := rc42) (rvs := rv42) Tryd.func42 rfl rcq42 rvq42 (show 4 ≤ _ by decide) ?_
  generalize hk : beginF e old start size = q
  repeat ((conv => whnf); first | refine Cd.seq ?_ | refine Cd.cut ?_ | refine Cd.reg ?_ | refine Cd.block ?_ | refine Cd.cond ?_ | refine Cd.dreg ?_ | refine Cd.skip ?_ | refine Cd.ret ?_ | refine Cd.exit ?_ | refine Cd.loop ?_ | refine ⟨rfl, ?_⟩ | refine ⟨Nat.le_of_ble_eq_true rfl, ?_⟩ | refine ⟨.inl rfl, ?_⟩ | refine ⟨fun h => Bool.noConfusion h, ?_⟩)
  conv => whnf
  refine ⟨fun h1 => ?_, fun h1 => ?_⟩ <;> try simp only [Bool.cond_true_left, Bool.cond_false_right, Bool.not_eq_true', Bool.not_eq_false', Bool.not_not] at h1
  · have h1 : e ≤ start := by simpa using h1
    rw [beginF, if_pos h1] at hk
    repeat ((conv => whnf); first | refine Cd.seq ?_ | refine Cd.cut ?_ | refine Cd.reg ?_ | refine Cd.block ?_ | refine Cd.cond ?_ | refine Cd.dreg ?_ | refine Cd.skip ?_ | refine Cd.ret ?_ | refine Cd.exit ?_ | refine Cd.loop ?_ | refine ⟨rfl, ?_⟩ | refine ⟨Nat.le_of_ble_eq_true rfl, ?_⟩ | refine ⟨.inl rfl, ?_⟩ | refine ⟨fun h => Bool.noConfusion h, ?_⟩)
    conv => whnf
    refine ⟨[], ?_, rfl, trivial, rfl, ?_⟩
    · exact trivial
    try subst hk
    repeat' (first | exact trivial | rfl | exact .inl rfl | exact .inr rfl | exact id | exact (fun h => Bool.noConfusion h) | refine And.intro ?_ ?_)
  have h1 : ¬ e ≤ start := by simpa using h1
  rw [beginF, if_neg h1] at hk
  repeat ((conv => whnf); first | refine Cd.seq ?_ | refine Cd.cut ?_ | refine Cd.reg ?_ | refine Cd.block ?_ | refine Cd.cond ?_ | refine Cd.dreg ?_ | refine Cd.skip ?_ | refine Cd.ret ?_ | refine Cd.exit ?_ | refine Cd.loop ?_ | refine ⟨rfl, ?_⟩ | refine ⟨Nat.le_of_ble_eq_true rfl, ?_⟩ | refine ⟨.inl rfl, ?_⟩ | refine ⟨fun h => Bool.noConfusion h, ?_⟩)
  conv => whnf
  refine ⟨Nat × List Int, fun x => start + x.1 ≤ max start (min (start + size) e) ∧ x.2 = seqI start (start + x.1), fun | (i, out) => ⟨[(1, ⟨[], true, .agg old.c⟩), (2, ⟨[], true, .int .i64 start⟩), (3, ⟨[], true, .int .i64 size⟩), (4, ⟨[], true, .ptr 0 0 0⟩), (8, ⟨[], true, .ptr 1 0 0⟩), (9, ⟨[], true, .lst 0 true []⟩), (10, ⟨[], true, .sl 2 0 out.length⟩), (11, ⟨[], true, .int .i64 (start + (i : Int))⟩)],
    [(0, .box (spanC a b e)), (1, .box [.int .i64 0, .int .i64 0, .int .i64 0]), (2, .row 1 (rowsI out))], 3⟩, fun x => 2000 - x.1, ⟨(0, []), ⟨by simp; omega, by rw [seqI_nil _ _ (by simp)]⟩, ?_⟩, fun x hI => ?_⟩
  · refine viewI [some 0, some 2, none] rfl rfl ?_ rfl ?_ rfl ?_
    repeat' (first | exact trivial | rfl | exact .inl rfl | exact .inr rfl | exact id | exact (fun h => Bool.noConfusion h) | refine And.intro ?_ ?_)
    exact (Int.add_zero _).symm
  obtain ⟨i, out⟩ := x
  obtain ⟨hI1, hI2⟩ := hI
  simp only at hI1 hI2
  have hlen : out.length = i := by rw [hI2, seqI_len]; omega
  have hw : IntKind.i64.wrap (start + size) = start + size := wrapI (by omega) (by omega)
  have hw1 : IntKind.i64.wrap (start + (i : Int) + 1) = start + ((i + 1 : Nat) : Int) := by rw [wrapI (by omega) (by omega)]; omega
  repeat ((conv => whnf); first | refine Cd.seq ?_ | refine Cd.cut ?_ | refine Cd.reg ?_ | refine Cd.block ?_ | refine Cd.cond ?_ | refine Cd.dreg ?_ | refine Cd.skip ?_ | refine Cd.ret ?_ | refine Cd.exit ?_ | refine Cd.loop ?_ | refine ⟨rfl, ?_⟩ | refine ⟨Nat.le_of_ble_eq_true rfl, ?_⟩ | refine ⟨.inl rfl, ?_⟩ | refine ⟨fun h => Bool.noConfusion h, ?_⟩)
  conv => whnf
  rw [hw]
  refine ⟨fun h2 => ?_, fun h2 => ?_⟩ <;> try simp only [Bool.cond_true_left, Bool.cond_false_right, Bool.not_eq_true', Bool.not_eq_false', Bool.not_not] at h2
  · have h2 : start + (i : Int) < min (start + size) e := by simpa using h2
    repeat ((conv => whnf); first | refine Cd.seq ?_ | refine Cd.cut ?_ | refine Cd.reg ?_ | refine Cd.block ?_ | refine Cd.cond ?_ | refine Cd.dreg ?_ | refine Cd.skip ?_ | refine Cd.ret ?_ | refine Cd.exit ?_ | refine Cd.loop ?_ | refine ⟨rfl, ?_⟩ | refine ⟨Nat.le_of_ble_eq_true rfl, ?_⟩ | refine ⟨.inl rfl, ?_⟩ | refine ⟨fun h => Bool.noConfusion h, ?_⟩)
    conv => whnf
    refine ⟨(rowsI_len out).symm, ?_, ?_, ?_⟩
    · show (((rowsI out).length + 1 : Nat) : Int) ≤ _
      rw [rowsI_len]; omega
    · show ((rowsI out).length + 1) * 8 ≤ _
      rw [rowsI_len]; omega
    repeat ((conv => whnf); first | refine Cd.seq ?_ | refine Cd.cut ?_ | refine Cd.reg ?_ | refine Cd.block ?_ | refine Cd.cond ?_ | refine Cd.dreg ?_ | refine Cd.skip ?_ | refine Cd.ret ?_ | refine Cd.exit ?_ | refine Cd.loop ?_ | refine ⟨rfl, ?_⟩ | refine ⟨Nat.le_of_ble_eq_true rfl, ?_⟩ | refine ⟨.inl rfl, ?_⟩ | refine ⟨fun h => Bool.noConfusion h, ?_⟩)
    conv => whnf
    rw [hw1]
    refine ⟨(i + 1, seqI start (start + ((i + 1 : Nat) : Int))), ⟨by show start + ((i + 1 : Nat) : Int) ≤ _; omega, rfl⟩, ?_, by show 2000 - (i + 1) < 2000 - i; omega⟩
    have hs1 : seqI start (start + ((i + 1 : Nat) : Int)) = out ++ [start + (i : Int)] := by
      rw [show start + ((i + 1 : Nat) : Int) = start + (i : Int) + 1 by omega, seqI_succ _ _ (by omega), hI2]
    rw [hs1]
    refine viewI [some 0, some 1, some 4] rfl rfl ?_ rfl ?_ rfl ?_
    repeat' (first | exact trivial | rfl | exact .inl rfl | exact .inr rfl | exact id | exact (fun h => Bool.noConfusion h) | refine And.intro ?_ ?_)
    · exact rowsI_snoc out _
    · show (rowsI out).length + 1 = _
      rw [rowsI_len, List.length_append]; rfl
  have h2 : ¬ start + (i : Int) < min (start + size) e := by simpa using h2
  repeat ((conv => whnf); first | refine Cd.seq ?_ | refine Cd.cut ?_ | refine Cd.reg ?_ | refine Cd.block ?_ | refine Cd.cond ?_ | refine Cd.dreg ?_ | refine Cd.skip ?_ | refine Cd.ret ?_ | refine Cd.exit ?_ | refine Cd.loop ?_ | refine ⟨rfl, ?_⟩ | refine ⟨Nat.le_of_ble_eq_true rfl, ?_⟩ | refine ⟨.inl rfl, ?_⟩ | refine ⟨fun h => Bool.noConfusion h, ?_⟩)
  conv => whnf
  have h3 : out = seqI start (min (start + size) e) := by
    by_cases h : start + (i : Int) = min (start + size) e
    · rw [← h, hI2]
    · have : i = 0 := by omega
      subst this
      rw [seqI_nil _ _ (by omega)]
      exact List.length_eq_zero_iff.1 hlen
  rw [← h3] at hk
  refine ⟨[], ?_, rfl, trivial, rfl, ?_⟩
  · exact trivial
  try subst hk
  repeat' (first | exact trivial | rfl | exact .inl rfl | exact .inr rfl | exact id | exact (fun h => Bool.noConfusion h) | refine And.intro ?_ ?_)
  · exact Nat.le_of_eq (by rw [rowsI_len, Nat.zero_add])
  · exact take0 (rowsI_len _)
set_option maxRecDepth 20000 in
theorem okD33 (w : Win) (hs : -1000 ≤ w.start ∧ w.start ≤ 1000) (hz : 0 ≤ w.size ∧ w.size ≤ 100) : FnC Tryd.prog 33 [] [.agg w.c] (.lst 1 false (rowsI (seqI w.start (w.start + w.size)))) [] := by
  refine fn_okC (ob0 := []) (rc := rc33) (rvs := rv33) Tryd.func33 rfl rcq33 rvq33 (show 1 ≤ _ by decide) ?_
  generalize hk : seqI w.start (w.start + w.size) = q
  repeat ((conv => whnf); first | refine Cd.seq ?_ | refine Cd.cut ?_ | refine Cd.reg ?_ | refine Cd.block ?_ | refine Cd.cond ?_ | refine Cd.dreg ?_ | refine Cd.skip ?_ | refine Cd.ret ?_ | refine Cd.exit ?_ | refine Cd.loop ?_ | refine ⟨rfl, ?_⟩ | refine ⟨Nat.le_of_ble_eq_true rfl, ?_⟩ | refine ⟨.inl rfl, ?_⟩ | refine ⟨fun h => Bool.noConfusion h, ?_⟩)
  conv => whnf
  refine ⟨Nat × List Int, fun x => (x.1 : Int) ≤ w.size ∧ x.2 = seqI w.start (w.start + x.1), fun | (i, out) => ⟨[(1, ⟨[], true, .ptr 0 0 0⟩), (2, ⟨[], true, .lst 0 true []⟩), (3, ⟨[], true, .sl 1 0 out.length⟩), (4, ⟨[], true, .int .i64 (i : Int)⟩)],
    [(0, .box w.c), (1, .row 1 (rowsI out))], 2⟩, fun x => 2000 - x.1, ⟨(0, []), ⟨by simp; omega, by rw [seqI_nil _ _ (by simp)]⟩, ?_⟩, fun x hI => ?_⟩
  · refine viewI [some 0, none] rfl rfl ?_ rfl ?_ rfl ?_
    repeat' (first | exact trivial | rfl | exact .inl rfl | exact .inr rfl | exact id | exact (fun h => Bool.noConfusion h) | refine And.intro ?_ ?_)
  obtain ⟨i, out⟩ := x
  obtain ⟨hI1, hI2⟩ := hI
  simp only at hI1 hI2
  have hlen : out.length = i := by rw [hI2, seqI_len]; omega
  have hw : IntKind.i64.wrap (w.start + (i : Int)) = w.start + (i : Int) := wrapI (by omega) (by omega)
  have hw1 : IntKind.i64.wrap ((i : Int) + 1) = ((i + 1 : Nat) : Int) := by rw [wrapI (by omega) (by omega)]; omega
  repeat ((conv => whnf); first | refine Cd.seq ?_ | refine Cd.cut ?_ | refine Cd.reg ?_ | refine Cd.block ?_ | refine Cd.cond ?_ | refine Cd.dreg ?_ | refine Cd.skip ?_ | refine Cd.ret ?_ | refine Cd.exit ?_ | refine Cd.loop ?_ | refine ⟨rfl, ?_⟩ | refine ⟨Nat.le_of_ble_eq_true rfl, ?_⟩ | refine ⟨.inl rfl, ?_⟩ | refine ⟨fun h => Bool.noConfusion h, ?_⟩)
  conv => whnf
  refine ⟨fun h2 => ?_, fun h2 => ?_⟩ <;> try simp only [Bool.cond_true_left, Bool.cond_false_right, Bool.not_eq_true', Bool.not_eq_false', Bool.not_not] at h2
  · have h2 : (i : Int) < w.size := by simpa using h2
    repeat ((conv => whnf); first | refine Cd.seq ?_ | refine Cd.cut ?_ | refine Cd.reg ?_ | refine Cd.block ?_ | refine Cd.cond ?_ | refine Cd.dreg ?_ | refine Cd.skip ?_ | refine Cd.ret ?_ | refine Cd.exit ?_ | refine Cd.loop ?_ | refine ⟨rfl, ?_⟩ | refine ⟨Nat.le_of_ble_eq_true rfl, ?_⟩ | refine ⟨.inl rfl, ?_⟩ | refine ⟨fun h => Bool.noConfusion h, ?_⟩)
    conv => whnf
    rw [hw]
    repeat ((conv => whnf); first | refine Cd.seq ?_ | refine Cd.cut ?_ | refine Cd.reg ?_ | refine Cd.block ?_ | refine Cd.cond ?_ | refine Cd.dreg ?_ | refine Cd.skip ?_ | refine Cd.ret ?_ | refine Cd.exit ?_ | refine Cd.loop ?_ | refine ⟨rfl, ?_⟩ | refine ⟨Nat.le_of_ble_eq_true rfl, ?_⟩ | refine ⟨.inl rfl, ?_⟩ | refine ⟨fun h => Bool.noConfusion h, ?_⟩)
    conv => whnf
    refine ⟨(rowsI_len out).symm, ?_, ?_, ?_⟩
    · show (((rowsI out).length + 1 : Nat) : Int) ≤ _
      rw [rowsI_len]; omega
    · show ((rowsI out).length + 1) * 8 ≤ _
      rw [rowsI_len]; omega
    repeat ((conv => whnf); first | refine Cd.seq ?_ | refine Cd.cut ?_ | refine Cd.reg ?_ | refine Cd.block ?_ | refine Cd.cond ?_ | refine Cd.dreg ?_ | refine Cd.skip ?_ | refine Cd.ret ?_ | refine Cd.exit ?_ | refine Cd.loop ?_ | refine ⟨rfl, ?_⟩ | refine ⟨Nat.le_of_ble_eq_true rfl, ?_⟩ | refine ⟨.inl rfl, ?_⟩ | refine ⟨fun h => Bool.noConfusion h, ?_⟩)
    conv => whnf
    rw [hw1]
    refine ⟨(i + 1, seqI w.start (w.start + ((i + 1 : Nat) : Int))), ⟨by show ((i + 1 : Nat) : Int) ≤ _; omega, rfl⟩, ?_, by show 2000 - (i + 1) < 2000 - i; omega⟩
    have hs1 : seqI w.start (w.start + ((i + 1 : Nat) : Int)) = out ++ [w.start + (i : Int)] := by
      rw [show w.start + ((i + 1 : Nat) : Int) = w.start + (i : Int) + 1 by omega, seqI_succ _ _ (by omega), hI2]
    rw [hs1]
    refine viewI [some 0, some 3] rfl rfl ?_ rfl ?_ rfl ?_
    repeat' (first | exact trivial | rfl | exact .inl rfl | exact .inr rfl | exact id | exact (fun h => Bool.noConfusion h) | refine And.intro ?_ ?_)
    · exact rowsI_snoc out _
    · show (rowsI out).length + 1 = _
      rw [rowsI_len, List.length_append]; rfl
  have h2 : ¬ (i : Int) < w.size := by simpa using h2
  repeat ((conv => whnf); first | refine Cd.seq ?_ | refine Cd.cut ?_ | refine Cd.reg ?_ | refine Cd.block ?_ | refine Cd.cond ?_ | refine Cd.dreg ?_ | refine Cd.skip ?_ | refine Cd.ret ?_ | refine Cd.exit ?_ | refine Cd.loop ?_ | refine ⟨rfl, ?_⟩ | refine ⟨Nat.le_of_ble_eq_true rfl, ?_⟩ | refine ⟨.inl rfl, ?_⟩ | refine ⟨fun h => Bool.noConfusion h, ?_⟩)
  conv => whnf
  have h3 : out = q := by rw [hI2, ← hk, show (i : Int) = w.size by omega]
  subst h3
  refine ⟨[], ?_, rfl, trivial, rfl, ?_⟩
  · exact trivial
  try subst hk
  repeat' (first | exact trivial | rfl | exact .inl rfl | exact .inr rfl | exact id | exact (fun h => Bool.noConfusion h) | refine And.intro ?_ ?_)
  · exact Nat.le_of_eq (by rw [rowsI_len, Nat.zero_add])
  · exact take0 (rowsI_len _)
def keptF (l : List Int) (e : Int) : List Int := l.filter fun p => decide (p < e)
theorem keptF_take (l : List Int) (e : Int) (i : Nat) (h : i < l.length) : keptF (l.take (i + 1)) e = if l[i] < e then keptF (l.take i) e ++ [l[i]] else keptF (l.take i) e := by
  rw [List.take_succ_eq_append_getElem h, keptF, List.filter_append, ← keptF]
  by_cases hc : l[i] < e <;> simp [hc]
theorem keptF_le (l : List Int) (e : Int) : (keptF l e).length ≤ l.length := List.length_filter_le ..
set_option maxRecDepth 20000 in
theorem okD32 (l : List Int) (t : Bool) (e : Int) (hl : l.length ≤ 1000000) : FnC Tryd.prog 32 [] [.lst 1 t (rowsI l), .int .i64 e] (.lst 1 false (rowsI (keptF l e))) [] := by
  refine fn_okC (ob0 := []) (rc := rc32) (rvs := rv32) Tryd.func32 rfl rcq32 rvq32 (show 2 ≤ _ by decide) ?_
  generalize hk : keptF l e = q
  repeat ((conv => whnf); first | refine Cd.seq ?_ | refine Cd.cut ?_ | refine Cd.reg ?_ | refine Cd.block ?_ | refine Cd.cond ?_ | refine Cd.dreg ?_ | refine Cd.skip ?_ | refine Cd.ret ?_ | refine Cd.exit ?_ | refine Cd.loop ?_ | refine ⟨rfl, ?_⟩ | refine ⟨Nat.le_of_ble_eq_true rfl, ?_⟩ | refine ⟨.inl rfl, ?_⟩ | refine ⟨fun h => Bool.noConfusion h, ?_⟩)
  conv => whnf
  refine ⟨Nat × List Int, fun x => x.1 ≤ l.length ∧ x.2 = keptF (l.take x.1) e, fun | (i, out) => ⟨[(0, ⟨[], true, .lst 1 t (rowsI l)⟩), (1, ⟨[], true, .int .i64 e⟩), (4, ⟨[], true, .lst 0 true []⟩), (5, ⟨[], true, .sl 0 0 out.length⟩), (6, ⟨[], true, .int .i64 (i : Int)⟩)],
    [(0, .row 1 (rowsI out))], 1⟩, fun x => l.length - x.1, ⟨(0, []), ⟨by simp, by simp [keptF]⟩, ?_⟩, fun x hI => ?_⟩
  · refine viewI [none] rfl rfl ?_ rfl ?_ rfl ?_
    repeat' (first | exact trivial | rfl | exact .inl rfl | exact .inr rfl | exact id | exact (fun h => Bool.noConfusion h) | refine And.intro ?_ ?_)
  obtain ⟨i, out⟩ := x
  obtain ⟨hI1, hI2⟩ := hI
  simp only at hI1 hI2
  have hlen : out.length ≤ i := by rw [hI2]; refine Nat.le_trans (keptF_le _ _) ?_; rw [List.length_take]; omega
  have hw1 : IntKind.i64.wrap ((i : Int) + 1) = ((i + 1 : Nat) : Int) := by rw [wrapI (by omega) (by omega)]; omega
  repeat ((conv => whnf); first | refine Cd.seq ?_ | refine Cd.cut ?_ | refine Cd.reg ?_ | refine Cd.block ?_ | refine Cd.cond ?_ | refine Cd.dreg ?_ | refine Cd.skip ?_ | refine Cd.ret ?_ | refine Cd.exit ?_ | refine Cd.loop ?_ | refine ⟨rfl, ?_⟩ | refine ⟨Nat.le_of_ble_eq_true rfl, ?_⟩ | refine ⟨.inl rfl, ?_⟩ | refine ⟨fun h => Bool.noConfusion h, ?_⟩)
  conv => whnf
  rw [rowsI_len]
  refine ⟨fun h2 => ?_, fun h2 => ?_⟩ <;> try simp only [Bool.cond_true_left, Bool.cond_false_right, Bool.not_eq_true', Bool.not_eq_false', Bool.not_not] at h2
  · have h2 : i < l.length := by simp at h2; omega
    have hst := keptF_take l e i h2
    rw [← hI2] at hst
    repeat ((conv => whnf); first | refine Cd.seq ?_ | refine Cd.cut ?_ | refine Cd.reg ?_ | refine Cd.block ?_ | refine Cd.cond ?_ | refine Cd.dreg ?_ | refine Cd.skip ?_ | refine Cd.ret ?_ | refine Cd.exit ?_ | refine Cd.loop ?_ | refine ⟨rfl, ?_⟩ | refine ⟨Nat.le_of_ble_eq_true rfl, ?_⟩ | refine ⟨.inl rfl, ?_⟩ | refine ⟨fun h => Bool.noConfusion h, ?_⟩)
    conv => whnf
    refine ⟨fun _ => ⟨rfl, by omega, by rw [rowsI_len]; omega⟩, ?_⟩
    rw [show ((i : Int)).toNat = i by omega, rowsI_get l i h2]
    repeat ((conv => whnf); first | refine Cd.seq ?_ | refine Cd.cut ?_ | refine Cd.reg ?_ | refine Cd.block ?_ | refine Cd.cond ?_ | refine Cd.dreg ?_ | refine Cd.skip ?_ | refine Cd.ret ?_ | refine Cd.exit ?_ | refine Cd.loop ?_ | refine ⟨rfl, ?_⟩ | refine ⟨Nat.le_of_ble_eq_true rfl, ?_⟩ | refine ⟨.inl rfl, ?_⟩ | refine ⟨fun h => Bool.noConfusion h, ?_⟩)
    conv => whnf
    refine ⟨fun h3 => ?_, fun h3 => ?_⟩ <;> try simp only [Bool.cond_true_left, Bool.cond_false_right, Bool.not_eq_true', Bool.not_eq_false', Bool.not_not] at h3
    · have h3 : l[i] < e := by simpa using h3
      rw [if_pos h3] at hst
      repeat ((conv => whnf); first | refine Cd.seq ?_ | refine Cd.cut ?_ | refine Cd.reg ?_ | refine Cd.block ?_ | refine Cd.cond ?_ | refine Cd.dreg ?_ | refine Cd.skip ?_ | refine Cd.ret ?_ | refine Cd.exit ?_ | refine Cd.loop ?_ | refine ⟨rfl, ?_⟩ | refine ⟨Nat.le_of_ble_eq_true rfl, ?_⟩ | refine ⟨.inl rfl, ?_⟩ | refine ⟨fun h => Bool.noConfusion h, ?_⟩)
      conv => whnf
      refine ⟨fun _ => ⟨rfl, by omega, by rw [rowsI_len]; omega⟩, ?_⟩
      rw [show ((i : Int)).toNat = i by omega, rowsI_get l i h2]
      repeat ((conv => whnf); first | refine Cd.seq ?_ | refine Cd.cut ?_ | refine Cd.reg ?_ | refine Cd.block ?_ | refine Cd.cond ?_ | refine Cd.dreg ?_ | refine Cd.skip ?_ | refine Cd.ret ?_ | refine Cd.exit ?_ | refine Cd.loop ?_ | refine ⟨rfl, ?_⟩ | refine ⟨Nat.le_of_ble_eq_true rfl, ?_⟩ | refine ⟨.inl rfl, ?_⟩ | refine ⟨fun h => Bool.noConfusion h, ?_⟩)
      conv => whnf
      refine ⟨(rowsI_len out).symm, ?_, ?_, ?_⟩
      · show (((rowsI out).length + 1 : Nat) : Int) ≤ _
        rw [rowsI_len]; omega
      · show ((rowsI out).length + 1) * 8 ≤ _
        rw [rowsI_len]; omega
      repeat ((conv => whnf); first | refine Cd.seq ?_ | refine Cd.cut ?_ | refine Cd.reg ?_ | refine Cd.block ?_ | refine Cd.cond ?_ | refine Cd.dreg ?_ | refine Cd.skip ?_ | refine Cd.ret ?_ | refine Cd.exit ?_ | refine Cd.loop ?_ | refine ⟨rfl, ?_⟩ | refine ⟨Nat.le_of_ble_eq_true rfl, ?_⟩ | refine ⟨.inl rfl, ?_⟩ | refine ⟨fun h => Bool.noConfusion h, ?_⟩)
      conv => whnf
      rw [hw1]
      refine ⟨(i + 1, out ++ [l[i]]), ⟨by show i + 1 ≤ _; omega, hst.symm⟩, ?_, by show l.length - (i + 1) < l.length - i; omega⟩
      refine viewI [some 2] rfl rfl ?_ rfl ?_ rfl ?_
      repeat' (first | exact trivial | rfl | exact .inl rfl | exact .inr rfl | exact id | exact (fun h => Bool.noConfusion h) | refine And.intro ?_ ?_)
      · exact rowsI_snoc out _
      · show (rowsI out).length + 1 = _
        rw [rowsI_len, List.length_append]; rfl
    have h3 : ¬ l[i] < e := by simpa using h3
    rw [if_neg h3] at hst
    repeat ((conv => whnf); first | refine Cd.seq ?_ | refine Cd.cut ?_ | refine Cd.reg ?_ | refine Cd.block ?_ | refine Cd.cond ?_ | refine Cd.dreg ?_ | refine Cd.skip ?_ | refine Cd.ret ?_ | refine Cd.exit ?_ | refine Cd.loop ?_ | refine ⟨rfl, ?_⟩ | refine ⟨Nat.le_of_ble_eq_true rfl, ?_⟩ | refine ⟨.inl rfl, ?_⟩ | refine ⟨fun h => Bool.noConfusion h, ?_⟩)
    conv => whnf
    rw [hw1]
    refine ⟨(i + 1, out), ⟨by show i + 1 ≤ _; omega, hst.symm⟩, ?_, by show l.length - (i + 1) < l.length - i; omega⟩
    refine viewI [some 0] rfl rfl ?_ rfl ?_ rfl ?_
    repeat' (first | exact trivial | rfl | exact .inl rfl | exact .inr rfl | exact id | exact (fun h => Bool.noConfusion h) | refine And.intro ?_ ?_)
  have h2 : i = l.length := by simp at h2; omega
  repeat ((conv => whnf); first | refine Cd.seq ?_ | refine Cd.cut ?_ | refine Cd.reg ?_ | refine Cd.block ?_ | refine Cd.cond ?_ | refine Cd.dreg ?_ | refine Cd.skip ?_ | refine Cd.ret ?_ | refine Cd.exit ?_ | refine Cd.loop ?_ | refine ⟨rfl, ?_⟩ | refine ⟨Nat.le_of_ble_eq_true rfl, ?_⟩ | refine ⟨.inl rfl, ?_⟩ | refine ⟨fun h => Bool.noConfusion h, ?_⟩)
  conv => whnf
  have h3 : out = q := by rw [hI2, h2, List.take_length, hk]
  subst h3
  refine ⟨[], ?_, rfl, trivial, rfl, ?_⟩
  · exact trivial
  try subst hk
  repeat' (first | exact trivial | rfl | exact .inl rfl | exact .inr rfl | exact id | exact (fun h => Bool.noConfusion h) | refine And.intro ?_ ?_)
  · exact Nat.le_of_eq (by rw [rowsI_len, Nat.zero_add])
  · exact take0 (rowsI_len _)
end Go.Proofs.YteelckbeekgfiaaDoor
