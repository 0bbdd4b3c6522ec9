/- Zone: Take; the reference's with, Take. -/
import Derived.Test.YtcifhjkodbaghaaB6
set_option linter.unusedSimpArgs false
set_option linter.unusedVariables false
namespace Go.Proofs.Ytcifhjkodbaghaa
open Go Go.Sk Go.RowKit

/- pagecache/zone.Take -/
def rc18 : RC :=
  (.seq
  (.reg [⟨(some 6), none, (.mv (.c (.lst 0 true [])))⟩,
    ⟨(some 7), none, (.mv (.c (.int .i64 0)))⟩,
    ⟨(some 8), none, (.mv (.c (.int .i64 0)))⟩] [])
  (.seq
  (.reg [⟨(some 13), none, (.mv (.t 0))⟩,
    ⟨(some 14), none, (.call 55 [(.t 13)])⟩,
    ⟨(some 9), none, (.mv (.t 14))⟩] [13, 14])
  (.seq
  (.seq
  (.reg [⟨(some 15), none, (.mv (.t 0))⟩,
    ⟨(some 16), none, (.call 22 [(.t 15)])⟩,
    ⟨(some 17), none, (.un .not (.t 16))⟩] [15, 16])
  (.cond (.t 17)
   (.seq
   (.reg [⟨(some 18), none, (.mv (.t 9))⟩,
     ⟨(some 6), none, (.mv (.t 18))⟩,
     ⟨(some 7), none, (.mv (.c (.int .i64 0)))⟩,
     ⟨(some 8), none, (.mv (.c (.int .i64 1)))⟩] [18])
   .ret)
   .skip))
  (.seq
  (.seq
  (.reg [⟨(some 19), none, (.mv (.t 1))⟩,
    ⟨(some 20), none, (.bin .lss (.t 19) (.c (.int .i64 0)))⟩,
    ⟨(some 21), none, (.mv (.t 20))⟩,
    ⟨(some 22), (some (21, false)), (.mv (.t 1))⟩,
    ⟨(some 23), (some (21, false)), (.mv (.t 0))⟩,
    ⟨(some 24), (some (21, false)), (.len (.t 23))⟩,
    ⟨(some 25), (some (21, false)), (.bin .geq (.t 22) (.t 24))⟩,
    ⟨(some 26), none, (.pick (.t 21) (.c (.bool true)) (.t 25))⟩] [19, 20, 21, 22, 23, 24, 25])
  (.cond (.t 26)
   (.seq
   (.reg [⟨(some 27), none, (.mv (.t 9))⟩,
     ⟨(some 6), none, (.mv (.t 27))⟩,
     ⟨(some 7), none, (.mv (.c (.int .i64 0)))⟩,
     ⟨(some 8), none, (.mv (.c (.int .i64 2)))⟩] [27])
   .ret)
   .skip))
  (.seq
  (.seq
  (.reg [⟨(some 28), none, (.mv (.t 1))⟩,
    ⟨(some 10), none, (.mv (.t 28))⟩] [28])
  (.block 0
   (.loop
    (.seq
    (.seq
    (.reg [⟨(some 29), none, (.mv (.t 10))⟩,
      ⟨(some 30), none, (.bin .geq (.t 29) (.c (.int .i64 0)))⟩] [29])
    (.cond (.t 30)
     .skip
     (.exit 0)))
    (.seq
    (.block 1
     (.seq
     (.reg [⟨(some 33), none, (.mv (.t 9))⟩,
       ⟨(some 34), none, (.mv (.t 10))⟩,
       ⟨(some 35), none, (.iaddr 6 (.t 33) (.t 34))⟩,
       ⟨(some 36), none, (.faddr 2 (.t 35))⟩,
       ⟨(some 37), none, (.ld false 1 (.t 36))⟩,
       ⟨(some 11), none, (.mv (.t 37))⟩] [33, 34, 35, 36, 37])
     (.seq
     (.seq
     (.reg [⟨(some 38), none, (.mv (.t 2))⟩] [])
     (.cond (.t 38)
      (.reg [⟨(some 11), none, (.mv (.c (.int .i64 0)))⟩] [])
      .skip))
     (.seq
     (.reg [⟨(some 39), none, (.mv (.t 9))⟩,
       ⟨(some 40), none, (.mv (.t 10))⟩,
       ⟨(some 41), none, (.iaddr 6 (.t 39) (.t 40))⟩,
       ⟨(some 42), none, (.faddr 5 (.t 41))⟩,
       ⟨(some 43), none, (.ld false 1 (.t 42))⟩,
       ⟨(some 44), none, (.len (.t 43))⟩,
       ⟨(some 45), none, (.mv (.t 11))⟩,
       ⟨(some 46), none, (.bin .gtr (.t 44) (.t 45))⟩] [39, 40, 41, 42, 43, 44, 45])
     (.cond (.t 46)
      (.seq
      (.reg [⟨(some 47), none, (.mv (.t 9))⟩,
        ⟨(some 48), none, (.mv (.t 10))⟩,
        ⟨(some 49), none, (.iaddr 6 (.t 47) (.t 48))⟩,
        ⟨(some 50), none, (.faddr 5 (.t 49))⟩,
        ⟨(some 51), none, (.ld false 1 (.t 50))⟩,
        ⟨(some 52), none, (.iaddr 1 (.t 51) (.c (.int .i64 0)))⟩,
        ⟨(some 53), none, (.ld false 1 (.t 52))⟩,
        ⟨(some 12), none, (.mv (.t 53))⟩] [47, 48, 49, 50, 51, 52, 53])
      (.seq
      (.reg [⟨(some 54), none, (.mv (.t 9))⟩,
        ⟨(some 55), none, (.mv (.t 10))⟩,
        ⟨(some 56), none, (.mv (.t 9))⟩,
        ⟨(some 57), none, (.mv (.t 10))⟩,
        ⟨(some 58), none, (.iaddr 6 (.t 56) (.t 57))⟩,
        ⟨(some 59), none, (.faddr 5 (.t 58))⟩,
        ⟨(some 60), none, (.ld false 1 (.t 59))⟩,
        ⟨(some 61), none, (.slc 1 (.t 60) (some (.c (.int .i64 1))) none)⟩,
        ⟨(some 62), none, (.iaddr 6 (.t 54) (.t 55))⟩,
        ⟨(some 63), none, (.faddr 5 (.t 62))⟩,
        ⟨none, none, (.st 1 (.t 63) (.t 61))⟩] [54, 55, 56, 57, 58, 59, 60, 61, 62, 63])
      (.seq
      (.reg [⟨(some 64), none, (.mv (.t 9))⟩,
        ⟨(some 65), none, (.mv (.t 12))⟩,
        ⟨(some 6), none, (.mv (.t 64))⟩,
        ⟨(some 7), none, (.mv (.t 65))⟩,
        ⟨(some 8), none, (.mv (.c (.int .i64 0)))⟩] [64, 65])
      .ret)))
      .skip)))))
    (.reg [⟨(some 31), none, (.mv (.t 10))⟩,
      ⟨(some 32), none, (.bin .sub (.t 31) (.c (.int .i64 1)))⟩,
      ⟨(some 10), none, (.mv (.t 32))⟩] [31, 32]))))))
  (.seq
  (.reg [⟨(some 66), none, (.mv (.t 9))⟩,
    ⟨(some 6), none, (.mv (.t 66))⟩,
    ⟨(some 7), none, (.mv (.c (.int .i64 0)))⟩,
    ⟨(some 8), none, (.mv (.c (.int .i64 3)))⟩] [66])
  .ret))))))
theorem rcq18 : resC Go.Proofs.Try.prog Go.Proofs.Try.f18.ntmps ((Go.Proofs.Try.f18.body).getD .skip) = some (strip rc18) := by kernel_rfl
def rv18 : List RV := [(.tmp 6), (.tmp 7), (.tmp 8)]
theorem rvq18 : Go.Proofs.Try.f18.results.toList.mapM (resRV Go.Proofs.Try.prog) = some rv18 := by kernel_rfl

/- pagecache/pagecacheref10.with -/
def rc56 : RC :=
  (.seq
  (.reg [⟨(some 5), none, (.box (.t 2))⟩,
    ⟨(some 6), none, (.mv (.c (.lst 0 true [])))⟩] [])
  (.seq
  (.reg [⟨(some 8), none, (.mv (.t 0))⟩,
    ⟨(some 9), none, (.app 6 64 (.c (.lst 0 true [])) (.t 8))⟩,
    ⟨(some 7), none, (.mv (.t 9))⟩] [8, 9])
  (.seq
  (.reg [⟨(some 10), none, (.mv (.t 7))⟩,
    ⟨(some 11), none, (.mv (.t 1))⟩,
    ⟨(some 12), none, (.ld true 6 (.t 5))⟩,
    ⟨(some 13), none, (.iaddr 6 (.t 10) (.t 11))⟩,
    ⟨none, none, (.st 6 (.t 13) (.t 12))⟩] [10, 11, 12, 13])
  (.seq
  (.reg [⟨(some 14), none, (.mv (.t 7))⟩,
    ⟨(some 6), none, (.mv (.t 14))⟩] [14])
  .ret))))
theorem rcq56 : resC Go.Proofs.Try.prog Go.Proofs.Try.f56.ntmps ((Go.Proofs.Try.f56.body).getD .skip) = some (strip rc56) := by kernel_rfl
def rv56 : List RV := [(.tmp 6)]
theorem rvq56 : Go.Proofs.Try.f56.results.toList.mapM (resRV Go.Proofs.Try.prog) = some rv56 := by kernel_rfl

def leastZ (u : Bool) (z : Zn) : Int := bif u then 0 else z.min
def hasZ (u : Bool) (z : Zn) : Bool := decide (leastZ u z < (z.free.length : Int))
/-- The highest of the first n zones that has a frame to give. -/
def takeAt (l : List Zn) (u : Bool) : Nat → Option Nat
  | 0 => none
  | i + 1 => bif hasZ u (l.getD i zeroZ) then some i else takeAt l u i
def takenZ (z : Zn) : Zn := ⟨z.first, z.size, z.min, z.low, z.high, z.free.drop 1, false⟩
def takeG (base l : List Zn) (p : Int) (u : Bool) : List Zn × Int × Int :=
  bif !checkZ l then (base, 0, 1) else bif decide (p < 0) || decide ((l.length : Int) ≤ p) then (base, 0, 2) else
  match takeAt l u (p + 1).toNat with
  | some i => (base.set i (takenZ (l.getD i zeroZ)), (l.getD i zeroZ).free.getD 0 0, 0)
  | none => (base, 0, 3)
theorem getZ (l : List Zn) (i : Nat) (h : i < l.length) : l.getD i zeroZ = l[i] := by simp [List.getD_eq_getElem?_getD, h]
theorem outZ_le (l : List Zn) : 0 + l.length ≤ (rowsZ l).length := by rw [rowsZ_len]; omega
theorem outZ_take (l : List Zn) : ((rowsZ l).drop 0).take l.length = rowsZ l := by rw [← rowsZ_len l]; simp
theorem getEx (l : List Zn) (i : Nat) (h : i < l.length) : (rowsZ (l.map exZ)).getD i [] = (exZ l[i]).c := by
  rw [rowsZ_get _ i (by simpa using h)]; simp
theorem drop1 (l : List Int) : ((rowsI l).take (rowsI l).length).drop (1 : Int).toNat = rowsI (l.drop 1) := by
  rw [List.take_length, rowsI, rowsI, List.map_drop]; rfl
set_option maxRecDepth 20000 in
theorem ok18 (l : List Zn) (t : Bool) (p : Int) (u : Bool) (hl : SmallZ l) : FnC Try.prog 18 [] [.lst 6 t (rowsZ l), .int .i64 p, .bool u] (.tup [.lst 6 false (rowsZ (takeG (l.map exZ) l p u).1), .int .i64 (takeG (l.map exZ) l p u).2.1, .int .i64 (takeG (l.map exZ) l p u).2.2]) [] := by
  have hlen := hl.len
  refine fn_okC (ob0 := []) (rc := rc18) (rvs := rv18) Try.func18 rfl rcq18 rvq18 (show 3 ≤ _ by decide) ?_
  generalize hk : takeG (l.map exZ) l p u = q
  repeat ((conv => whnf); first | refine Cd.seq ?_ | refine Cd.cut ?_ | refine Cd.reg ?_ | refine Cd.block ?_ | refine Cd.cond ?_ | refine Cd.dreg ?_ | refine Cd.skip ?_ | refine Cd.ret ?_ | refine Cd.exit ?_ | refine Cd.loop ?_ | refine ⟨rfl, ?_⟩ | refine ⟨Nat.le_of_ble_eq_true rfl, ?_⟩ | refine ⟨.inl rfl, ?_⟩ | refine ⟨fun h => Bool.noConfusion h, ?_⟩)
  conv => whnf
  refine .inr ⟨fun _ => ⟨[], _, _, _, ok55 l t hl, trivial, rfl, rfl, rfl, rfl, ?_⟩, (by intro h; cases h)⟩
  repeat ((conv => whnf); first | refine Cd.seq ?_ | refine Cd.cut ?_ | refine Cd.reg ?_ | refine Cd.block ?_ | refine Cd.cond ?_ | refine Cd.dreg ?_ | refine Cd.skip ?_ | refine Cd.ret ?_ | refine Cd.exit ?_ | refine Cd.loop ?_ | refine ⟨rfl, ?_⟩ | refine ⟨Nat.le_of_ble_eq_true rfl, ?_⟩ | refine ⟨.inl rfl, ?_⟩ | refine ⟨fun h => Bool.noConfusion h, ?_⟩ | refine .inl ⟨_, fun _ => ⟨purA rfl, (by first | exact ok22 l t hl)⟩, .inl rfl, ?_⟩)
  conv => whnf
  refine ⟨fun h1 => ?_, fun h1 => ?_⟩ <;> try simp only [Bool.cond_true_left, Bool.cond_false_right, Bool.not_eq_true', Bool.not_eq_false', Bool.not_not] at h1
  · have h1 : (!checkZ l) = true := by rw [h1]; rfl
    simp only [takeG, h1, cond_true] at hk
    subst hk
    repeat ((conv => whnf); first | refine Cd.seq ?_ | refine Cd.cut ?_ | refine Cd.reg ?_ | refine Cd.block ?_ | refine Cd.cond ?_ | refine Cd.dreg ?_ | refine Cd.skip ?_ | refine Cd.ret ?_ | refine Cd.exit ?_ | refine Cd.loop ?_ | refine ⟨rfl, ?_⟩ | refine ⟨Nat.le_of_ble_eq_true rfl, ?_⟩ | refine ⟨.inl rfl, ?_⟩ | refine ⟨fun h => Bool.noConfusion h, ?_⟩)
    conv => whnf
    refine ⟨[], ?_, rfl, trivial, rfl, ?_⟩
    · exact trivial
    try subst hk
    repeat' (first | exact trivial | rfl | exact .inl rfl | exact .inr rfl | exact id | exact (fun h => Bool.noConfusion h) | refine And.intro ?_ ?_)
    · show 0 + l.length ≤ _
      rw [rowsZ_len]; simp
    · refine take0 ?_
      rw [rowsZ_len]; simp
  have h1' : checkZ l = true := by simpa using h1
  have h1 : (!checkZ l) = false := by rw [h1']; rfl
  have hg := check_good h1'
  simp only [takeG, h1, cond_false] at hk
  repeat ((conv => whnf); first | refine Cd.seq ?_ | refine Cd.cut ?_ | refine Cd.reg ?_ | refine Cd.block ?_ | refine Cd.cond ?_ | refine Cd.dreg ?_ | refine Cd.skip ?_ | refine Cd.ret ?_ | refine Cd.exit ?_ | refine Cd.loop ?_ | refine ⟨rfl, ?_⟩ | refine ⟨Nat.le_of_ble_eq_true rfl, ?_⟩ | refine ⟨.inl rfl, ?_⟩ | refine ⟨fun h => Bool.noConfusion h, ?_⟩)
  conv => whnf
  rw [rowsZ_len]
  refine ⟨fun h2 => ?_, fun h2 => ?_⟩ <;> try simp only [Bool.cond_true_left, Bool.cond_false_right, Bool.not_eq_true', Bool.not_eq_false', Bool.not_not] at h2
  · simp only [h2, cond_true] at hk
    subst hk
    repeat ((conv => whnf); first | refine Cd.seq ?_ | refine Cd.cut ?_ | refine Cd.reg ?_ | refine Cd.block ?_ | refine Cd.cond ?_ | refine Cd.dreg ?_ | refine Cd.skip ?_ | refine Cd.ret ?_ | refine Cd.exit ?_ | refine Cd.loop ?_ | refine ⟨rfl, ?_⟩ | refine ⟨Nat.le_of_ble_eq_true rfl, ?_⟩ | refine ⟨.inl rfl, ?_⟩ | refine ⟨fun h => Bool.noConfusion h, ?_⟩)
    conv => whnf
    refine ⟨[], ?_, rfl, trivial, rfl, ?_⟩
    · exact trivial
    try subst hk
    repeat' (first | exact trivial | rfl | exact .inl rfl | exact .inr rfl | exact id | exact (fun h => Bool.noConfusion h) | refine And.intro ?_ ?_)
    · show 0 + l.length ≤ _
      rw [rowsZ_len]; simp
    · refine take0 ?_
      rw [rowsZ_len]; simp
  simp only [h2, cond_false] at hk
  simp only [Bool.or_eq_false_iff, decide_eq_false_iff_not] at h2
  repeat ((conv => whnf); first | refine Cd.seq ?_ | refine Cd.cut ?_ | refine Cd.reg ?_ | refine Cd.block ?_ | refine Cd.cond ?_ | refine Cd.dreg ?_ | refine Cd.skip ?_ | refine Cd.ret ?_ | refine Cd.exit ?_ | refine Cd.loop ?_ | refine ⟨rfl, ?_⟩ | refine ⟨Nat.le_of_ble_eq_true rfl, ?_⟩ | refine ⟨.inl rfl, ?_⟩ | refine ⟨fun h => Bool.noConfusion h, ?_⟩)
  conv => whnf
  refine ⟨Int, fun i => (-1 ≤ i ∧ i < l.length) ∧ takeAt l u (i + 1).toNat = takeAt l u (p + 1).toNat, fun i => ⟨[(2, ⟨[], true, .bool u⟩), (9, ⟨[], true, .sl 0 0 l.length⟩), (10, ⟨[], true, .int .i64 i⟩)], [(0, .row 6 (rowsZ (l.map exZ)))], 1⟩, fun i => (i + 1).toNat, ⟨p, ⟨by omega, rfl⟩, ?_⟩, fun i hI => ?_⟩
  · refine viewI [some ?k75_0] rfl rfl ?h3_75 ?h4_75 ?h5_75 ?h6_75 ?h7_75
    case' h7_75 => repeat' (first | exact trivial | rfl | exact .inl rfl | exact .inr rfl | exact id | exact (fun h => Bool.noConfusion h) | refine And.intro ?_ ?_)
    case' h4_75 => rfl
    case' h6_75 => rfl
    case' h3_75 => repeat' (first | exact trivial | rfl | exact .inl rfl | exact .inr rfl | exact id | exact (fun h => Bool.noConfusion h) | refine And.intro ?_ ?_)
    case' h5_75 => repeat' (first | exact trivial | rfl | exact .inl rfl | exact .inr rfl | exact id | exact (fun h => Bool.noConfusion h) | refine And.intro ?_ ?_)
  obtain ⟨⟨hI1, hI2⟩, hI3⟩ := hI
  repeat ((conv => whnf); first | refine Cd.seq ?_ | refine Cd.cut ?_ | refine Cd.reg ?_ | refine Cd.block ?_ | refine Cd.cond ?_ | refine Cd.dreg ?_ | refine Cd.skip ?_ | refine Cd.ret ?_ | refine Cd.exit ?_ | refine Cd.loop ?_ | refine ⟨rfl, ?_⟩ | refine ⟨Nat.le_of_ble_eq_true rfl, ?_⟩ | refine ⟨.inl rfl, ?_⟩ | refine ⟨fun h => Bool.noConfusion h, ?_⟩)
  conv => whnf
  refine ⟨fun h3 => ?_, fun h3 => ?_⟩ <;> try simp only [Bool.cond_true_left, Bool.cond_false_right, Bool.not_eq_true', Bool.not_eq_false', Bool.not_not] at h3
  · have h3 : 0 ≤ i := by simpa using h3
    obtain ⟨n, rfl⟩ : ∃ n : Nat, i = n := ⟨i.toNat, by omega⟩
    have hn : n < l.length := by omega
    repeat ((conv => whnf); first | refine Cd.seq ?_ | refine Cd.cut ?_ | refine Cd.reg ?_ | refine Cd.block ?_ | refine Cd.cond ?_ | refine Cd.dreg ?_ | refine Cd.skip ?_ | refine Cd.ret ?_ | refine Cd.exit ?_ | refine Cd.loop ?_ | refine ⟨rfl, ?_⟩ | refine ⟨Nat.le_of_ble_eq_true rfl, ?_⟩ | refine ⟨.inl rfl, ?_⟩ | refine ⟨fun h => Bool.noConfusion h, ?_⟩)
    conv => whnf
    refine ⟨fun _ => ⟨by omega, by omega⟩, ?_⟩
    repeat ((conv => whnf); first | refine Cd.seq ?_ | refine Cd.cut ?_ | refine Cd.reg ?_ | refine Cd.block ?_ | refine Cd.cond ?_ | refine Cd.dreg ?_ | refine Cd.skip ?_ | refine Cd.ret ?_ | refine Cd.exit ?_ | refine Cd.loop ?_ | refine ⟨rfl, ?_⟩ | refine ⟨Nat.le_of_ble_eq_true rfl, ?_⟩ | refine ⟨.inl rfl, ?_⟩ | refine ⟨fun h => Bool.noConfusion h, ?_⟩)
    conv => whnf
    refine ⟨fun _ => by rw [rowsZ_len]; simp; omega, ?_⟩
    repeat ((conv => whnf); first | refine Cd.seq ?_ | refine Cd.cut ?_ | refine Cd.reg ?_ | refine Cd.block ?_ | refine Cd.cond ?_ | refine Cd.dreg ?_ | refine Cd.skip ?_ | refine Cd.ret ?_ | refine Cd.exit ?_ | refine Cd.loop ?_ | refine ⟨rfl, ?_⟩ | refine ⟨Nat.le_of_ble_eq_true rfl, ?_⟩ | refine ⟨.inl rfl, ?_⟩ | refine ⟨fun h => Bool.noConfusion h, ?_⟩)
    conv => whnf
    rw [Nat.zero_add, Int.toNat_natCast, getEx l n hn]
    repeat ((conv => whnf); first | refine Cd.seq ?_ | refine Cd.cut ?_ | refine Cd.reg ?_ | refine Cd.block ?_ | refine Cd.cond ?_ | refine Cd.dreg ?_ | refine Cd.skip ?_ | refine Cd.ret ?_ | refine Cd.exit ?_ | refine Cd.loop ?_ | refine ⟨rfl, ?_⟩ | refine ⟨Nat.le_of_ble_eq_true rfl, ?_⟩ | refine ⟨.inl rfl, ?_⟩ | refine ⟨fun h => Bool.noConfusion h, ?_⟩)
    conv => whnf
    refine ⟨fun hu => ?_, fun hu => ?_⟩ <;> try simp only [Bool.cond_true_left, Bool.cond_false_right, Bool.not_eq_true', Bool.not_eq_false', Bool.not_not] at hu
    · repeat ((conv => whnf); first | refine Cd.seq ?_ | refine Cd.cut ?_ | refine Cd.reg ?_ | refine Cd.block ?_ | refine Cd.cond ?_ | refine Cd.dreg ?_ | refine Cd.skip ?_ | refine Cd.ret ?_ | refine Cd.exit ?_ | refine Cd.loop ?_ | refine ⟨rfl, ?_⟩ | refine ⟨Nat.le_of_ble_eq_true rfl, ?_⟩ | refine ⟨.inl rfl, ?_⟩ | refine ⟨fun h => Bool.noConfusion h, ?_⟩)
      conv => whnf
      refine ⟨fun _ => ⟨by omega, by omega⟩, ?_⟩
      repeat ((conv => whnf); first | refine Cd.seq ?_ | refine Cd.cut ?_ | refine Cd.reg ?_ | refine Cd.block ?_ | refine Cd.cond ?_ | refine Cd.dreg ?_ | refine Cd.skip ?_ | refine Cd.ret ?_ | refine Cd.exit ?_ | refine Cd.loop ?_ | refine ⟨rfl, ?_⟩ | refine ⟨Nat.le_of_ble_eq_true rfl, ?_⟩ | refine ⟨.inl rfl, ?_⟩ | refine ⟨fun h => Bool.noConfusion h, ?_⟩)
      conv => whnf
      refine ⟨fun _ => by rw [rowsZ_len]; simp; omega, ?_⟩
      repeat ((conv => whnf); first | refine Cd.seq ?_ | refine Cd.cut ?_ | refine Cd.reg ?_ | refine Cd.block ?_ | refine Cd.cond ?_ | refine Cd.dreg ?_ | refine Cd.skip ?_ | refine Cd.ret ?_ | refine Cd.exit ?_ | refine Cd.loop ?_ | refine ⟨rfl, ?_⟩ | refine ⟨Nat.le_of_ble_eq_true rfl, ?_⟩ | refine ⟨.inl rfl, ?_⟩ | refine ⟨fun h => Bool.noConfusion h, ?_⟩)
      conv => whnf
      rw [Nat.zero_add, Int.toNat_natCast, getEx l n hn]
      repeat ((conv => whnf); first | refine Cd.seq ?_ | refine Cd.cut ?_ | refine Cd.reg ?_ | refine Cd.block ?_ | refine Cd.cond ?_ | refine Cd.dreg ?_ | refine Cd.skip ?_ | refine Cd.ret ?_ | refine Cd.exit ?_ | refine Cd.loop ?_ | refine ⟨rfl, ?_⟩ | refine ⟨Nat.le_of_ble_eq_true rfl, ?_⟩ | refine ⟨.inl rfl, ?_⟩ | refine ⟨fun h => Bool.noConfusion h, ?_⟩)
      conv => whnf
      rw [rowsI_len]
      refine ⟨fun h4 => ?_, fun h4 => ?_⟩ <;> try simp only [Bool.cond_true_left, Bool.cond_false_right, Bool.not_eq_true', Bool.not_eq_false', Bool.not_not] at h4
      · have h4 : hasZ u l[n] = true := by rw [hasZ, leastZ, hu]; exact h4
        have hpos : 0 < l[n].free.length := by
          have := (hg l[n] (List.getElem_mem hn)).marks
          simp only [hasZ, leastZ, hu, decide_eq_true_eq, cond_true, cond_false] at h4
          omega
        have hst : takeAt l u (n + 1) = some n := by simp only [takeAt, getZ l n hn, h4, cond_true]
        rw [← hI3, show ((n : Int) + 1).toNat = n + 1 by omega, hst] at hk
        simp only [getZ l n hn] at hk
        repeat ((conv => whnf); first | refine Cd.seq ?_ | refine Cd.cut ?_ | refine Cd.reg ?_ | refine Cd.block ?_ | refine Cd.cond ?_ | refine Cd.dreg ?_ | refine Cd.skip ?_ | refine Cd.ret ?_ | refine Cd.exit ?_ | refine Cd.loop ?_ | refine ⟨rfl, ?_⟩ | refine ⟨Nat.le_of_ble_eq_true rfl, ?_⟩ | refine ⟨.inl rfl, ?_⟩ | refine ⟨fun h => Bool.noConfusion h, ?_⟩)
        conv => whnf
        refine ⟨fun _ => ⟨by omega, by omega⟩, ?_⟩
        repeat ((conv => whnf); first | refine Cd.seq ?_ | refine Cd.cut ?_ | refine Cd.reg ?_ | refine Cd.block ?_ | refine Cd.cond ?_ | refine Cd.dreg ?_ | refine Cd.skip ?_ | refine Cd.ret ?_ | refine Cd.exit ?_ | refine Cd.loop ?_ | refine ⟨rfl, ?_⟩ | refine ⟨Nat.le_of_ble_eq_true rfl, ?_⟩ | refine ⟨.inl rfl, ?_⟩ | refine ⟨fun h => Bool.noConfusion h, ?_⟩)
        conv => whnf
        refine ⟨fun _ => by rw [rowsZ_len]; simp; omega, ?_⟩
        repeat ((conv => whnf); first | refine Cd.seq ?_ | refine Cd.cut ?_ | refine Cd.reg ?_ | refine Cd.block ?_ | refine Cd.cond ?_ | refine Cd.dreg ?_ | refine Cd.skip ?_ | refine Cd.ret ?_ | refine Cd.exit ?_ | refine Cd.loop ?_ | refine ⟨rfl, ?_⟩ | refine ⟨Nat.le_of_ble_eq_true rfl, ?_⟩ | refine ⟨.inl rfl, ?_⟩ | refine ⟨fun h => Bool.noConfusion h, ?_⟩)
        conv => whnf
        rw [Nat.zero_add, Int.toNat_natCast, getEx l n hn]
        repeat ((conv => whnf); first | refine Cd.seq ?_ | refine Cd.cut ?_ | refine Cd.reg ?_ | refine Cd.block ?_ | refine Cd.cond ?_ | refine Cd.dreg ?_ | refine Cd.skip ?_ | refine Cd.ret ?_ | refine Cd.exit ?_ | refine Cd.loop ?_ | refine ⟨rfl, ?_⟩ | refine ⟨Nat.le_of_ble_eq_true rfl, ?_⟩ | refine ⟨.inl rfl, ?_⟩ | refine ⟨fun h => Bool.noConfusion h, ?_⟩)
        conv => whnf
        refine ⟨fun _ => ⟨rfl, by decide, by rw [rowsI_len]; show (0 : Int) < (l[n].free.length : Int); omega⟩, ?_⟩
        rw [show ((0 : Int)).toNat = 0 from rfl, rowsI_get _ 0 (by exact hpos)]
        repeat ((conv => whnf); first | refine Cd.seq ?_ | refine Cd.cut ?_ | refine Cd.reg ?_ | refine Cd.block ?_ | refine Cd.cond ?_ | refine Cd.dreg ?_ | refine Cd.skip ?_ | refine Cd.ret ?_ | refine Cd.exit ?_ | refine Cd.loop ?_ | refine ⟨rfl, ?_⟩ | refine ⟨Nat.le_of_ble_eq_true rfl, ?_⟩ | refine ⟨.inl rfl, ?_⟩ | refine ⟨fun h => Bool.noConfusion h, ?_⟩)
        conv => whnf
        refine ⟨fun _ => ⟨by omega, by omega⟩, ?_⟩
        repeat ((conv => whnf); first | refine Cd.seq ?_ | refine Cd.cut ?_ | refine Cd.reg ?_ | refine Cd.block ?_ | refine Cd.cond ?_ | refine Cd.dreg ?_ | refine Cd.skip ?_ | refine Cd.ret ?_ | refine Cd.exit ?_ | refine Cd.loop ?_ | refine ⟨rfl, ?_⟩ | refine ⟨Nat.le_of_ble_eq_true rfl, ?_⟩ | refine ⟨.inl rfl, ?_⟩ | refine ⟨fun h => Bool.noConfusion h, ?_⟩)
        conv => whnf
        refine ⟨fun _ => by rw [rowsZ_len]; simp; omega, ?_⟩
        repeat ((conv => whnf); first | refine Cd.seq ?_ | refine Cd.cut ?_ | refine Cd.reg ?_ | refine Cd.block ?_ | refine Cd.cond ?_ | refine Cd.dreg ?_ | refine Cd.skip ?_ | refine Cd.ret ?_ | refine Cd.exit ?_ | refine Cd.loop ?_ | refine ⟨rfl, ?_⟩ | refine ⟨Nat.le_of_ble_eq_true rfl, ?_⟩ | refine ⟨.inl rfl, ?_⟩ | refine ⟨fun h => Bool.noConfusion h, ?_⟩)
        conv => whnf
        rw [Nat.zero_add, Int.toNat_natCast, getEx l n hn]
        repeat ((conv => whnf); first | refine Cd.seq ?_ | refine Cd.cut ?_ | refine Cd.reg ?_ | refine Cd.block ?_ | refine Cd.cond ?_ | refine Cd.dreg ?_ | refine Cd.skip ?_ | refine Cd.ret ?_ | refine Cd.exit ?_ | refine Cd.loop ?_ | refine ⟨rfl, ?_⟩ | refine ⟨Nat.le_of_ble_eq_true rfl, ?_⟩ | refine ⟨.inl rfl, ?_⟩ | refine ⟨fun h => Bool.noConfusion h, ?_⟩)
        conv => whnf
        refine ⟨fun _ => ⟨.inl rfl, by decide, by rw [rowsI_len]; show (1 : Int) ≤ (l[n].free.length : Int); omega, Int.le_refl _⟩, ?_⟩
        rw [Int.toNat_natCast, drop1]
        repeat ((conv => whnf); first | refine Cd.seq ?_ | refine Cd.cut ?_ | refine Cd.reg ?_ | refine Cd.block ?_ | refine Cd.cond ?_ | refine Cd.dreg ?_ | refine Cd.skip ?_ | refine Cd.ret ?_ | refine Cd.exit ?_ | refine Cd.loop ?_ | refine ⟨rfl, ?_⟩ | refine ⟨Nat.le_of_ble_eq_true rfl, ?_⟩ | refine ⟨.inl rfl, ?_⟩ | refine ⟨fun h => Bool.noConfusion h, ?_⟩)
        conv => whnf
        refine ⟨fun _ => ⟨by omega, by omega⟩, ?_⟩
        repeat ((conv => whnf); first | refine Cd.seq ?_ | refine Cd.cut ?_ | refine Cd.reg ?_ | refine Cd.block ?_ | refine Cd.cond ?_ | refine Cd.dreg ?_ | refine Cd.skip ?_ | refine Cd.ret ?_ | refine Cd.exit ?_ | refine Cd.loop ?_ | refine ⟨rfl, ?_⟩ | refine ⟨Nat.le_of_ble_eq_true rfl, ?_⟩ | refine ⟨.inl rfl, ?_⟩ | refine ⟨fun h => Bool.noConfusion h, ?_⟩)
        conv => whnf
        refine ⟨by rw [rowsZ_len]; simp; omega, ?_⟩
        repeat ((conv => whnf); first | refine Cd.seq ?_ | refine Cd.cut ?_ | refine Cd.reg ?_ | refine Cd.block ?_ | refine Cd.cond ?_ | refine Cd.dreg ?_ | refine Cd.skip ?_ | refine Cd.ret ?_ | refine Cd.exit ?_ | refine Cd.loop ?_ | refine ⟨rfl, ?_⟩ | refine ⟨Nat.le_of_ble_eq_true rfl, ?_⟩ | refine ⟨.inl rfl, ?_⟩ | refine ⟨fun h => Bool.noConfusion h, ?_⟩)
        conv => whnf
        subst hk
        refine ⟨[], ?_, rfl, trivial, rfl, ?_⟩
        · exact trivial
        try subst hk
        repeat' (first | exact trivial | rfl | exact .inl rfl | exact .inr rfl | exact id | exact (fun h => Bool.noConfusion h) | refine And.intro ?_ ?_)
        · show 0 + l.length ≤ _
          rw [List.length_set, rowsZ_len]; simp
        · rw [Nat.zero_add, Int.toNat_natCast]
          refine (congrArg (fun r => List.take l.length (List.drop 0 r)) (putFree (l.map exZ) n (by simp; omega) (l[n].free.drop 1) false)).trans ?_
          refine (take0 (by rw [rowsZ_len]; simp)).trans ?_
          simp only [List.getElem_map]
          rfl
        · exact getI _ 0 hpos
      have h4 : hasZ u l[n] = false := by rw [hasZ, leastZ, hu]; exact h4
      have hst : takeAt l u (n + 1) = takeAt l u n := by simp only [takeAt, getZ l n hn, h4, cond_false]
      repeat ((conv => whnf); first | refine Cd.seq ?_ | refine Cd.cut ?_ | refine Cd.reg ?_ | refine Cd.block ?_ | refine Cd.cond ?_ | refine Cd.dreg ?_ | refine Cd.skip ?_ | refine Cd.ret ?_ | refine Cd.exit ?_ | refine Cd.loop ?_ | refine ⟨rfl, ?_⟩ | refine ⟨Nat.le_of_ble_eq_true rfl, ?_⟩ | refine ⟨.inl rfl, ?_⟩ | refine ⟨fun h => Bool.noConfusion h, ?_⟩)
      conv => whnf
      rw [wrapI (n := (n : Int) - 1) (by omega) (by omega)]
      refine ⟨(n : Int) - 1, ⟨by omega, by rw [show ((n : Int) - 1 + 1).toNat = n by omega, ← hst, ← hI3, show ((n : Int) + 1).toNat = n + 1 by omega]⟩, ?_, by show ((n : Int) - 1 + 1).toNat < ((n : Int) + 1).toNat; omega⟩
      refine viewI [some 0] rfl rfl ?_ rfl ?_ rfl ?_
      repeat' (first | exact trivial | rfl | exact .inl rfl | exact .inr rfl | exact id | exact (fun h => Bool.noConfusion h) | refine And.intro ?_ ?_)
    repeat ((conv => whnf); first | refine Cd.seq ?_ | refine Cd.cut ?_ | refine Cd.reg ?_ | refine Cd.block ?_ | refine Cd.cond ?_ | refine Cd.dreg ?_ | refine Cd.skip ?_ | refine Cd.ret ?_ | refine Cd.exit ?_ | refine Cd.loop ?_ | refine ⟨rfl, ?_⟩ | refine ⟨Nat.le_of_ble_eq_true rfl, ?_⟩ | refine ⟨.inl rfl, ?_⟩ | refine ⟨fun h => Bool.noConfusion h, ?_⟩)
    conv => whnf
    refine ⟨fun _ => ⟨by omega, by omega⟩, ?_⟩
    repeat ((conv => whnf); first | refine Cd.seq ?_ | refine Cd.cut ?_ | refine Cd.reg ?_ | refine Cd.block ?_ | refine Cd.cond ?_ | refine Cd.dreg ?_ | refine Cd.skip ?_ | refine Cd.ret ?_ | refine Cd.exit ?_ | refine Cd.loop ?_ | refine ⟨rfl, ?_⟩ | refine ⟨Nat.le_of_ble_eq_true rfl, ?_⟩ | refine ⟨.inl rfl, ?_⟩ | refine ⟨fun h => Bool.noConfusion h, ?_⟩)
    conv => whnf
    refine ⟨fun _ => by rw [rowsZ_len]; simp; omega, ?_⟩
    repeat ((conv => whnf); first | refine Cd.seq ?_ | refine Cd.cut ?_ | refine Cd.reg ?_ | refine Cd.block ?_ | refine Cd.cond ?_ | refine Cd.dreg ?_ | refine Cd.skip ?_ | refine Cd.ret ?_ | refine Cd.exit ?_ | refine Cd.loop ?_ | refine ⟨rfl, ?_⟩ | refine ⟨Nat.le_of_ble_eq_true rfl, ?_⟩ | refine ⟨.inl rfl, ?_⟩ | refine ⟨fun h => Bool.noConfusion h, ?_⟩)
    conv => whnf
    rw [Nat.zero_add, Int.toNat_natCast, getEx l n hn]
    repeat ((conv => whnf); first | refine Cd.seq ?_ | refine Cd.cut ?_ | refine Cd.reg ?_ | refine Cd.block ?_ | refine Cd.cond ?_ | refine Cd.dreg ?_ | refine Cd.skip ?_ | refine Cd.ret ?_ | refine Cd.exit ?_ | refine Cd.loop ?_ | refine ⟨rfl, ?_⟩ | refine ⟨Nat.le_of_ble_eq_true rfl, ?_⟩ | refine ⟨.inl rfl, ?_⟩ | refine ⟨fun h => Bool.noConfusion h, ?_⟩)
    conv => whnf
    rw [rowsI_len]
    refine ⟨fun h4 => ?_, fun h4 => ?_⟩ <;> try simp only [Bool.cond_true_left, Bool.cond_false_right, Bool.not_eq_true', Bool.not_eq_false', Bool.not_not] at h4
    · have h4 : hasZ u l[n] = true := by rw [hasZ, leastZ, hu]; exact h4
      have hpos : 0 < l[n].free.length := by
        have := (hg l[n] (List.getElem_mem hn)).marks
        simp only [hasZ, leastZ, hu, decide_eq_true_eq, cond_true, cond_false] at h4
        omega
      have hst : takeAt l u (n + 1) = some n := by simp only [takeAt, getZ l n hn, h4, cond_true]
      rw [← hI3, show ((n : Int) + 1).toNat = n + 1 by omega, hst] at hk
      simp only [getZ l n hn] at hk
      repeat ((conv => whnf); first | refine Cd.seq ?_ | refine Cd.cut ?_ | refine Cd.reg ?_ | refine Cd.block ?_ | refine Cd.cond ?_ | refine Cd.dreg ?_ | refine Cd.skip ?_ | refine Cd.ret ?_ | refine Cd.exit ?_ | refine Cd.loop ?_ | refine ⟨rfl, ?_⟩ | refine ⟨Nat.le_of_ble_eq_true rfl, ?_⟩ | refine ⟨.inl rfl, ?_⟩ | refine ⟨fun h => Bool.noConfusion h, ?_⟩)
      conv => whnf
      refine ⟨fun _ => ⟨by omega, by omega⟩, ?_⟩
      repeat ((conv => whnf); first | refine Cd.seq ?_ | refine Cd.cut ?_ | refine Cd.reg ?_ | refine Cd.block ?_ | refine Cd.cond ?_ | refine Cd.dreg ?_ | refine Cd.skip ?_ | refine Cd.ret ?_ | refine Cd.exit ?_ | refine Cd.loop ?_ | refine ⟨rfl, ?_⟩ | refine ⟨Nat.le_of_ble_eq_true rfl, ?_⟩ | refine ⟨.inl rfl, ?_⟩ | refine ⟨fun h => Bool.noConfusion h, ?_⟩)
      conv => whnf
      refine ⟨fun _ => by rw [rowsZ_len]; simp; omega, ?_⟩
      repeat ((conv => whnf); first | refine Cd.seq ?_ | refine Cd.cut ?_ | refine Cd.reg ?_ | refine Cd.block ?_ | refine Cd.cond ?_ | refine Cd.dreg ?_ | refine Cd.skip ?_ | refine Cd.ret ?_ | refine Cd.exit ?_ | refine Cd.loop ?_ | refine ⟨rfl, ?_⟩ | refine ⟨Nat.le_of_ble_eq_true rfl, ?_⟩ | refine ⟨.inl rfl, ?_⟩ | refine ⟨fun h => Bool.noConfusion h, ?_⟩)
      conv => whnf
      rw [Nat.zero_add, Int.toNat_natCast, getEx l n hn]
      repeat ((conv => whnf); first | refine Cd.seq ?_ | refine Cd.cut ?_ | refine Cd.reg ?_ | refine Cd.block ?_ | refine Cd.cond ?_ | refine Cd.dreg ?_ | refine Cd.skip ?_ | refine Cd.ret ?_ | refine Cd.exit ?_ | refine Cd.loop ?_ | refine ⟨rfl, ?_⟩ | refine ⟨Nat.le_of_ble_eq_true rfl, ?_⟩ | refine ⟨.inl rfl, ?_⟩ | refine ⟨fun h => Bool.noConfusion h, ?_⟩)
      conv => whnf
      refine ⟨fun _ => ⟨rfl, by decide, by rw [rowsI_len]; show (0 : Int) < (l[n].free.length : Int); omega⟩, ?_⟩
      rw [show ((0 : Int)).toNat = 0 from rfl, rowsI_get _ 0 (by exact hpos)]
      repeat ((conv => whnf); first | refine Cd.seq ?_ | refine Cd.cut ?_ | refine Cd.reg ?_ | refine Cd.block ?_ | refine Cd.cond ?_ | refine Cd.dreg ?_ | refine Cd.skip ?_ | refine Cd.ret ?_ | refine Cd.exit ?_ | refine Cd.loop ?_ | refine ⟨rfl, ?_⟩ | refine ⟨Nat.le_of_ble_eq_true rfl, ?_⟩ | refine ⟨.inl rfl, ?_⟩ | refine ⟨fun h => Bool.noConfusion h, ?_⟩)
      conv => whnf
      refine ⟨fun _ => ⟨by omega, by omega⟩, ?_⟩
      repeat ((conv => whnf); first | refine Cd.seq ?_ | refine Cd.cut ?_ | refine Cd.reg ?_ | refine Cd.block ?_ | refine Cd.cond ?_ | refine Cd.dreg ?_ | refine Cd.skip ?_ | refine Cd.ret ?_ | refine Cd.exit ?_ | refine Cd.loop ?_ | refine ⟨rfl, ?_⟩ | refine ⟨Nat.le_of_ble_eq_true rfl, ?_⟩ | refine ⟨.inl rfl, ?_⟩ | refine ⟨fun h => Bool.noConfusion h, ?_⟩)
      conv => whnf
      refine ⟨fun _ => by rw [rowsZ_len]; simp; omega, ?_⟩
      repeat ((conv => whnf); first | refine Cd.seq ?_ | refine Cd.cut ?_ | refine Cd.reg ?_ | refine Cd.block ?_ | refine Cd.cond ?_ | refine Cd.dreg ?_ | refine Cd.skip ?_ | refine Cd.ret ?_ | refine Cd.exit ?_ | refine Cd.loop ?_ | refine ⟨rfl, ?_⟩ | refine ⟨Nat.le_of_ble_eq_true rfl, ?_⟩ | refine ⟨.inl rfl, ?_⟩ | refine ⟨fun h => Bool.noConfusion h, ?_⟩)
      conv => whnf
      rw [Nat.zero_add, Int.toNat_natCast, getEx l n hn]
      repeat ((conv => whnf); first | refine Cd.seq ?_ | refine Cd.cut ?_ | refine Cd.reg ?_ | refine Cd.block ?_ | refine Cd.cond ?_ | refine Cd.dreg ?_ | refine Cd.skip ?_ | refine Cd.ret ?_ | refine Cd.exit ?_ | refine Cd.loop ?_ | refine ⟨rfl, ?_⟩ | refine ⟨Nat.le_of_ble_eq_true rfl, ?_⟩ | refine ⟨.inl rfl, ?_⟩ | refine ⟨fun h => Bool.noConfusion h, ?_⟩)
      conv => whnf
      refine ⟨fun _ => ⟨.inl rfl, by decide, by rw [rowsI_len]; show (1 : Int) ≤ (l[n].free.length : Int); omega, Int.le_refl _⟩, ?_⟩
      rw [Int.toNat_natCast, drop1]
      repeat ((conv => whnf); first | refine Cd.seq ?_ | refine Cd.cut ?_ | refine Cd.reg ?_ | refine Cd.block ?_ | refine Cd.cond ?_ | refine Cd.dreg ?_ | refine Cd.skip ?_ | refine Cd.ret ?_ | refine Cd.exit ?_ | refine Cd.loop ?_ | refine ⟨rfl, ?_⟩ | refine ⟨Nat.le_of_ble_eq_true rfl, ?_⟩ | refine ⟨.inl rfl, ?_⟩ | refine ⟨fun h => Bool.noConfusion h, ?_⟩)
      conv => whnf
      refine ⟨fun _ => ⟨by omega, by omega⟩, ?_⟩
      repeat ((conv => whnf); first | refine Cd.seq ?_ | refine Cd.cut ?_ | refine Cd.reg ?_ | refine Cd.block ?_ | refine Cd.cond ?_ | refine Cd.dreg ?_ | refine Cd.skip ?_ | refine Cd.ret ?_ | refine Cd.exit ?_ | refine Cd.loop ?_ | refine ⟨rfl, ?_⟩ | refine ⟨Nat.le_of_ble_eq_true rfl, ?_⟩ | refine ⟨.inl rfl, ?_⟩ | refine ⟨fun h => Bool.noConfusion h, ?_⟩)
      conv => whnf
      refine ⟨by rw [rowsZ_len]; simp; omega, ?_⟩
      repeat ((conv => whnf); first | refine Cd.seq ?_ | refine Cd.cut ?_ | refine Cd.reg ?_ | refine Cd.block ?_ | refine Cd.cond ?_ | refine Cd.dreg ?_ | refine Cd.skip ?_ | refine Cd.ret ?_ | refine Cd.exit ?_ | refine Cd.loop ?_ | refine ⟨rfl, ?_⟩ | refine ⟨Nat.le_of_ble_eq_true rfl, ?_⟩ | refine ⟨.inl rfl, ?_⟩ | refine ⟨fun h => Bool.noConfusion h, ?_⟩)
      conv => whnf
      subst hk
      refine ⟨[], ?_, rfl, trivial, rfl, ?_⟩
      · exact trivial
      try subst hk
      repeat' (first | exact trivial | rfl | exact .inl rfl | exact .inr rfl | exact id | exact (fun h => Bool.noConfusion h) | refine And.intro ?_ ?_)
      · show 0 + l.length ≤ _
        rw [List.length_set, rowsZ_len]; simp
      · rw [Nat.zero_add, Int.toNat_natCast]
        refine (congrArg (fun r => List.take l.length (List.drop 0 r)) (putFree (l.map exZ) n (by simp; omega) (l[n].free.drop 1) false)).trans ?_
        refine (take0 (by rw [rowsZ_len]; simp)).trans ?_
        simp only [List.getElem_map]
        rfl
      · exact getI _ 0 hpos
    have h4 : hasZ u l[n] = false := by rw [hasZ, leastZ, hu]; exact h4
    have hst : takeAt l u (n + 1) = takeAt l u n := by simp only [takeAt, getZ l n hn, h4, cond_false]
    repeat ((conv => whnf); first | refine Cd.seq ?_ | refine Cd.cut ?_ | refine Cd.reg ?_ | refine Cd.block ?_ | refine Cd.cond ?_ | refine Cd.dreg ?_ | refine Cd.skip ?_ | refine Cd.ret ?_ | refine Cd.exit ?_ | refine Cd.loop ?_ | refine ⟨rfl, ?_⟩ | refine ⟨Nat.le_of_ble_eq_true rfl, ?_⟩ | refine ⟨.inl rfl, ?_⟩ | refine ⟨fun h => Bool.noConfusion h, ?_⟩)
    conv => whnf
    rw [wrapI (n := (n : Int) - 1) (by omega) (by omega)]
    refine ⟨(n : Int) - 1, ⟨by omega, by rw [show ((n : Int) - 1 + 1).toNat = n by omega, ← hst, ← hI3, show ((n : Int) + 1).toNat = n + 1 by omega]⟩, ?_, by show ((n : Int) - 1 + 1).toNat < ((n : Int) + 1).toNat; omega⟩
    refine viewI [some 0] rfl rfl ?_ rfl ?_ rfl ?_
    repeat' (first | exact trivial | rfl | exact .inl rfl | exact .inr rfl | exact id | exact (fun h => Bool.noConfusion h) | refine And.intro ?_ ?_)
  have h3 : i = -1 := by simp at h3; omega
  subst h3
  rw [← hI3] at hk
  have hk : (l.map exZ, (0 : Int), (3 : Int)) = q := hk
  subst hk
  repeat ((conv => whnf); first | refine Cd.seq ?_ | refine Cd.cut ?_ | refine Cd.reg ?_ | refine Cd.block ?_ | refine Cd.cond ?_ | refine Cd.dreg ?_ | refine Cd.skip ?_ | refine Cd.ret ?_ | refine Cd.exit ?_ | refine Cd.loop ?_ | refine ⟨rfl, ?_⟩ | refine ⟨Nat.le_of_ble_eq_true rfl, ?_⟩ | refine ⟨.inl rfl, ?_⟩ | refine ⟨fun h => Bool.noConfusion h, ?_⟩)
  conv => whnf
  refine ⟨[], ?_, rfl, trivial, rfl, ?_⟩
  · exact trivial
  try subst hk
  repeat' (first | exact trivial | rfl | exact .inl rfl | exact .inr rfl | exact id | exact (fun h => Bool.noConfusion h) | refine And.intro ?_ ?_)
  · show 0 + l.length ≤ _
    rw [rowsZ_len]; simp
  · refine take0 ?_
    rw [rowsZ_len]; simp
theorem ok56 (l : List Zn) (t : Bool) (i : Nat) (z : Zn) (hi : i < l.length) (hl : l.length ≤ 100000) : FnC Try.prog 56 [] [.lst 6 t (rowsZ l), .int .i64 i, .agg z.c] (.lst 6 false (rowsZ (l.set i z))) [] := by
  refine fn_okC (ob0 := []) (rc := rc56) (rvs := rv56) Try.func56 rfl rcq56 rvq56 (show 3 ≤ _ by decide) ?_
  generalize hk : l.set i z = q
  repeat ((conv => whnf); first | refine Cd.seq ?_ | refine Cd.cut ?_ | refine Cd.reg ?_ | refine Cd.block ?_ | refine Cd.cond ?_ | refine Cd.dreg ?_ | refine Cd.skip ?_ | refine Cd.ret ?_ | refine Cd.exit ?_ | refine Cd.loop ?_ | refine ⟨rfl, ?_⟩ | refine ⟨Nat.le_of_ble_eq_true rfl, ?_⟩ | refine ⟨.inl rfl, ?_⟩ | refine ⟨fun h => Bool.noConfusion h, ?_⟩)
  conv => whnf
  rw [rowsZ_len]
  refine ⟨by omega, by omega, ?_⟩
  repeat ((conv => whnf); first | refine Cd.seq ?_ | refine Cd.cut ?_ | refine Cd.reg ?_ | refine Cd.block ?_ | refine Cd.cond ?_ | refine Cd.dreg ?_ | refine Cd.skip ?_ | refine Cd.ret ?_ | refine Cd.exit ?_ | refine Cd.loop ?_ | refine ⟨rfl, ?_⟩ | refine ⟨Nat.le_of_ble_eq_true rfl, ?_⟩ | refine ⟨.inl rfl, ?_⟩ | refine ⟨fun h => Bool.noConfusion h, ?_⟩)
  conv => whnf
  refine ⟨fun _ => ⟨by omega, by omega⟩, ?_⟩
  repeat ((conv => whnf); first | refine Cd.seq ?_ | refine Cd.cut ?_ | refine Cd.reg ?_ | refine Cd.block ?_ | refine Cd.cond ?_ | refine Cd.dreg ?_ | refine Cd.skip ?_ | refine Cd.ret ?_ | refine Cd.exit ?_ | refine Cd.loop ?_ | refine ⟨rfl, ?_⟩ | refine ⟨Nat.le_of_ble_eq_true rfl, ?_⟩ | refine ⟨.inl rfl, ?_⟩ | refine ⟨fun h => Bool.noConfusion h, ?_⟩)
  conv => whnf
  refine ⟨by rw [rowsZ_len]; omega, ?_⟩
  repeat ((conv => whnf); first | refine Cd.seq ?_ | refine Cd.cut ?_ | refine Cd.reg ?_ | refine Cd.block ?_ | refine Cd.cond ?_ | refine Cd.dreg ?_ | refine Cd.skip ?_ | refine Cd.ret ?_ | refine Cd.exit ?_ | refine Cd.loop ?_ | refine ⟨rfl, ?_⟩ | refine ⟨Nat.le_of_ble_eq_true rfl, ?_⟩ | refine ⟨.inl rfl, ?_⟩ | refine ⟨fun h => Bool.noConfusion h, ?_⟩)
  conv => whnf
  subst hk
  refine ⟨[], ?_, rfl, trivial, rfl, ?_⟩
  · exact trivial
  try subst hk
  repeat' (first | exact trivial | rfl | exact .inl rfl | exact .inr rfl | exact id | exact (fun h => Bool.noConfusion h) | refine And.intro ?_ ?_)
  · show 0 + l.length ≤ _
    rw [List.length_set, rowsZ_len]; omega
  · rw [Nat.zero_add, Int.toNat_natCast]
    refine (take0 (by rw [List.length_set, rowsZ_len])).trans ?_
    rw [rowsZ, rowsZ, List.map_set]
    rfl
end Go.Proofs.Ytcifhjkodbaghaa
