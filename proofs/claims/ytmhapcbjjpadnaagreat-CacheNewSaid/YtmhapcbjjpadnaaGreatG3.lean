/- Caches. -/
import Derived.Test.YtmhapcbjjpadnaaGreatG2
set_option linter.unusedSimpArgs false
set_option linter.unusedVariables false
set_option maxRecDepth 40000
namespace Go.Proofs.YtmhapcbjjpadnaaGreat
open Go Go.Sk Go.RowKit

def leastZ (u : Bool) (z : Zn) : Int := bif u then 0 else z.min
def hasZ (u : Bool) (z : Zn) : Bool := decide (leastZ u z < (z.free.length : Int))
/-- The highest of the first n zones that has a frame to give. -/
def takeAt (l : List Zn) (u : Bool) : Nat → Option Nat
  | 0 => none
  | i + 1 => bif hasZ u (l.getD i zeroZ) then some i else takeAt l u i
def takenZ (z : Zn) : Zn := ⟨z.first, z.size, z.min, z.low, z.high, z.free.drop 1, false⟩
def takeG (base l : List Zn) (p : Int) (u : Bool) : List Zn × Int × Int :=
  bif !checkZ l then (base, 0, 1) else bif decide (p < 0) || decide ((l.length : Int) ≤ p) then (base, 0, 2) else
  match takeAt l u (p + 1).toNat with
  | some i => (base.set i (takenZ (l.getD i zeroZ)), (l.getD i zeroZ).free.getD 0 0, 0)
  | none => (base, 0, 3)
theorem getZ (l : List Zn) (i : Nat) (h : i < l.length) : l.getD i zeroZ = l[i] := by simp [List.getD_eq_getElem?_getD, h]
theorem getEx (l : List Zn) (i : Nat) (h : i < l.length) : (rowsZ (l.map exZ)).getD i [] = (exZ l[i]).c := by
  rw [rowsZ_get _ i (by simpa using h)]; simp
theorem drop1 (l : List Int) : ((rowsI l).take (rowsI l).length).drop (1 : Int).toNat = rowsI (l.drop 1) := by
  rw [List.take_length, rowsI, rowsI, List.map_drop]; rfl
set_option maxRecDepth 20000 in
theorem ok109 (l : List Zn) (t : Bool) (p : Int) (u : Bool) (hl : SmallZ l) : FnC Tryz.prog 109 [] [.lst 6 t (rowsZ l), .int .i64 p, .bool u] (.tup [.lst 6 false (rowsZ (takeG (l.map exZ) l p u).1), .int .i64 (takeG (l.map exZ) l p u).2.1, .int .i64 (takeG (l.map exZ) l p u).2.2]) [] := by
  have hlen := hl.len
  refine fn_okX (ob0 := []) [] Tryz.func109 rfl rfl rfl rfl ?_
  generalize hk : takeG (l.map exZ) l p u = q
  repeat ((conv => whnf); first | refine Cd.go ?_ | refine ⟨rfl, ?_⟩ | refine rq_dec ⟨.inl rfl, rfl⟩ ?_ | refine rq_dec rfl ?_ | refine ⟨Nat.le_of_ble_eq_true rfl, ?_⟩ | refine ⟨.inl rfl, ?_⟩ | refine ⟨fun _ => ⟨rfl, Nat.le_of_ble_eq_true rfl⟩, ?_⟩ | refine ⟨fun _ => Nat.le_of_ble_eq_true rfl, ?_⟩ | refine ⟨fun h => Bool.noConfusion h, ?_⟩)
  conv => whnf
  refine .inr ⟨fun _ => ⟨[], _, _, _, ok210 l t hl, trivial, rfl, rfl, rfl, ?_⟩, (by intro h; cases h)⟩
  repeat ((conv => whnf); first | refine Cd.go ?_ | refine ⟨rfl, ?_⟩ | refine rq_dec ⟨.inl rfl, rfl⟩ ?_ | refine rq_dec rfl ?_ | refine ⟨Nat.le_of_ble_eq_true rfl, ?_⟩ | refine ⟨.inl rfl, ?_⟩ | refine ⟨fun _ => ⟨rfl, Nat.le_of_ble_eq_true rfl⟩, ?_⟩ | refine ⟨fun _ => Nat.le_of_ble_eq_true rfl, ?_⟩ | refine ⟨fun h => Bool.noConfusion h, ?_⟩ | refine .inl ⟨_, fun _ => ⟨purA rfl, (by first | exact ok211 l t hl)⟩, .inl rfl, ?_⟩)
  conv => whnf
  refine cq_intro (fun h1 => ?_) (fun h1 => ?_) <;> try simp only [Bool.cond_true_left, Bool.cond_false_right, Bool.not_eq_true', Bool.not_eq_false', Bool.not_not] at h1
  · have h1 : (!checkZ l) = true := by rw [h1]; rfl
    simp only [takeG, h1, cond_true] at hk
    subst hk
    repeat ((conv => whnf); first | refine Cd.go ?_ | refine ⟨rfl, ?_⟩ | refine rq_dec ⟨.inl rfl, rfl⟩ ?_ | refine rq_dec rfl ?_ | refine ⟨Nat.le_of_ble_eq_true rfl, ?_⟩ | refine ⟨.inl rfl, ?_⟩ | refine ⟨fun _ => ⟨rfl, Nat.le_of_ble_eq_true rfl⟩, ?_⟩ | refine ⟨fun _ => Nat.le_of_ble_eq_true rfl, ?_⟩ | refine ⟨fun h => Bool.noConfusion h, ?_⟩)
    conv => whnf
    refine ⟨[], trivial, rfl, trivial, rfl, ?_⟩
    try subst hk
    repeat' (first | exact trivial | rfl | exact .inl rfl | exact .inr rfl | exact id | exact (fun h => Bool.noConfusion h) | refine And.intro ?_ ?_)
    · show 0 + l.length ≤ _
      rw [rowsZ_len]; simp
    · refine take0 ?_
      rw [rowsZ_len]; simp
  have h1' : checkZ l = true := by simpa using h1
  have h1 : (!checkZ l) = false := by rw [h1']; rfl
  have hg := check_good h1'
  simp only [takeG, h1, cond_false] at hk
  repeat ((conv => whnf); first | refine Cd.go ?_ | refine ⟨rfl, ?_⟩ | refine rq_dec ⟨.inl rfl, rfl⟩ ?_ | refine rq_dec rfl ?_ | refine ⟨Nat.le_of_ble_eq_true rfl, ?_⟩ | refine ⟨.inl rfl, ?_⟩ | refine ⟨fun _ => ⟨rfl, Nat.le_of_ble_eq_true rfl⟩, ?_⟩ | refine ⟨fun _ => Nat.le_of_ble_eq_true rfl, ?_⟩ | refine ⟨fun h => Bool.noConfusion h, ?_⟩)
  conv => whnf
  rw [rowsZ_len]
  refine cq_intro (fun h2 => ?_) (fun h2 => ?_) <;> try simp only [Bool.cond_true_left, Bool.cond_false_right, Bool.not_eq_true', Bool.not_eq_false', Bool.not_not] at h2
  · simp only [h2, cond_true] at hk
    subst hk
    repeat ((conv => whnf); first | refine Cd.go ?_ | refine ⟨rfl, ?_⟩ | refine rq_dec ⟨.inl rfl, rfl⟩ ?_ | refine rq_dec rfl ?_ | refine ⟨Nat.le_of_ble_eq_true rfl, ?_⟩ | refine ⟨.inl rfl, ?_⟩ | refine ⟨fun _ => ⟨rfl, Nat.le_of_ble_eq_true rfl⟩, ?_⟩ | refine ⟨fun _ => Nat.le_of_ble_eq_true rfl, ?_⟩ | refine ⟨fun h => Bool.noConfusion h, ?_⟩)
    conv => whnf
    refine ⟨[], trivial, rfl, trivial, rfl, ?_⟩
    try subst hk
    repeat' (first | exact trivial | rfl | exact .inl rfl | exact .inr rfl | exact id | exact (fun h => Bool.noConfusion h) | refine And.intro ?_ ?_)
    · show 0 + l.length ≤ _
      rw [rowsZ_len]; simp
    · refine take0 ?_
      rw [rowsZ_len]; simp
  simp only [h2, cond_false] at hk
  simp only [Bool.or_eq_false_iff, decide_eq_false_iff_not] at h2
  repeat ((conv => whnf); first | refine Cd.go ?_ | refine ⟨rfl, ?_⟩ | refine rq_dec ⟨.inl rfl, rfl⟩ ?_ | refine rq_dec rfl ?_ | refine ⟨Nat.le_of_ble_eq_true rfl, ?_⟩ | refine ⟨.inl rfl, ?_⟩ | refine ⟨fun _ => ⟨rfl, Nat.le_of_ble_eq_true rfl⟩, ?_⟩ | refine ⟨fun _ => Nat.le_of_ble_eq_true rfl, ?_⟩ | refine ⟨fun h => Bool.noConfusion h, ?_⟩)
  conv => whnf
  refine ⟨Int, fun i => (-1 ≤ i ∧ i < l.length) ∧ takeAt l u (i + 1).toNat = takeAt l u (p + 1).toNat, fun i => ⟨[(2, ⟨[], true, .bool u⟩), (9, ⟨[], true, .sl 0 0 l.length⟩), (10, ⟨[], true, .int .i64 i⟩)], [(0, .row 6 (rowsZ (l.map exZ)))], 1⟩, fun i => (i + 1).toNat, ⟨p, ⟨by omega, rfl⟩, ?_⟩, fun i hI => ?_⟩
  · refine viewI [some ?k71_0] rfl rfl ?h3_71 ?h4_71 ?h5_71 ?h6_71 ?h7_71
    case' h7_71 => repeat' (first | exact trivial | rfl | exact .inl rfl | exact .inr rfl | exact id | exact (fun h => Bool.noConfusion h) | refine And.intro ?_ ?_)
    case' h4_71 => rfl
    case' h6_71 => rfl
    case' h3_71 => repeat' (first | exact trivial | rfl | exact .inl rfl | exact .inr rfl | exact id | exact (fun h => Bool.noConfusion h) | refine And.intro ?_ ?_)
    case' h5_71 => repeat' (first | exact trivial | rfl | exact .inl rfl | exact .inr rfl | exact id | exact (fun h => Bool.noConfusion h) | refine And.intro ?_ ?_)
  obtain ⟨⟨hI1, hI2⟩, hI3⟩ := hI
  repeat ((conv => whnf); first | refine Cd.go ?_ | refine ⟨rfl, ?_⟩ | refine rq_dec ⟨.inl rfl, rfl⟩ ?_ | refine rq_dec rfl ?_ | refine ⟨Nat.le_of_ble_eq_true rfl, ?_⟩ | refine ⟨.inl rfl, ?_⟩ | refine ⟨fun _ => ⟨rfl, Nat.le_of_ble_eq_true rfl⟩, ?_⟩ | refine ⟨fun _ => Nat.le_of_ble_eq_true rfl, ?_⟩ | refine ⟨fun h => Bool.noConfusion h, ?_⟩)
  conv => whnf
  refine cq_intro (fun h3 => ?_) (fun h3 => ?_) <;> try simp only [Bool.cond_true_left, Bool.cond_false_right, Bool.not_eq_true', Bool.not_eq_false', Bool.not_not] at h3
  · have h3 : 0 ≤ i := by simpa using h3
    obtain ⟨n, rfl⟩ : ∃ n : Nat, i = n := ⟨i.toNat, by omega⟩
    have hn : n < l.length := by omega
    repeat ((conv => whnf); first | refine Cd.go ?_ | refine ⟨rfl, ?_⟩ | refine rq_dec ⟨.inl rfl, rfl⟩ ?_ | refine rq_dec rfl ?_ | refine ⟨Nat.le_of_ble_eq_true rfl, ?_⟩ | refine ⟨.inl rfl, ?_⟩ | refine ⟨fun _ => ⟨rfl, Nat.le_of_ble_eq_true rfl⟩, ?_⟩ | refine ⟨fun _ => Nat.le_of_ble_eq_true rfl, ?_⟩ | refine ⟨fun h => Bool.noConfusion h, ?_⟩)
    conv => whnf
    first | refine rq_dec (⟨by omega, by omega⟩) ?_ | refine gq_dec (fun _ => ⟨by omega, by omega⟩) ?_ | refine ⟨fun _ => ⟨by omega, by omega⟩, ?_⟩
    repeat ((conv => whnf); first | refine Cd.go ?_ | refine ⟨rfl, ?_⟩ | refine rq_dec ⟨.inl rfl, rfl⟩ ?_ | refine rq_dec rfl ?_ | refine ⟨Nat.le_of_ble_eq_true rfl, ?_⟩ | refine ⟨.inl rfl, ?_⟩ | refine ⟨fun _ => ⟨rfl, Nat.le_of_ble_eq_true rfl⟩, ?_⟩ | refine ⟨fun _ => Nat.le_of_ble_eq_true rfl, ?_⟩ | refine ⟨fun h => Bool.noConfusion h, ?_⟩)
    conv => whnf
    first | refine rq_dec (by rw [rowsZ_len]; simp; omega) ?_ | refine gq_dec (fun _ => by rw [rowsZ_len]; simp; omega) ?_ | refine ⟨fun _ => by rw [rowsZ_len]; simp; omega, ?_⟩
    repeat ((conv => whnf); first | refine Cd.go ?_ | refine ⟨rfl, ?_⟩ | refine rq_dec ⟨.inl rfl, rfl⟩ ?_ | refine rq_dec rfl ?_ | refine ⟨Nat.le_of_ble_eq_true rfl, ?_⟩ | refine ⟨.inl rfl, ?_⟩ | refine ⟨fun _ => ⟨rfl, Nat.le_of_ble_eq_true rfl⟩, ?_⟩ | refine ⟨fun _ => Nat.le_of_ble_eq_true rfl, ?_⟩ | refine ⟨fun h => Bool.noConfusion h, ?_⟩)
    conv => whnf
    rw [Nat.zero_add, Int.toNat_natCast, getEx l n hn]
    repeat ((conv => whnf); first | refine Cd.go ?_ | refine ⟨rfl, ?_⟩ | refine rq_dec ⟨.inl rfl, rfl⟩ ?_ | refine rq_dec rfl ?_ | refine ⟨Nat.le_of_ble_eq_true rfl, ?_⟩ | refine ⟨.inl rfl, ?_⟩ | refine ⟨fun _ => ⟨rfl, Nat.le_of_ble_eq_true rfl⟩, ?_⟩ | refine ⟨fun _ => Nat.le_of_ble_eq_true rfl, ?_⟩ | refine ⟨fun h => Bool.noConfusion h, ?_⟩)
    conv => whnf
    refine cq_intro (fun hu => ?_) (fun hu => ?_) <;> try simp only [Bool.cond_true_left, Bool.cond_false_right, Bool.not_eq_true', Bool.not_eq_false', Bool.not_not] at hu
    · repeat ((conv => whnf); first | refine Cd.go ?_ | refine ⟨rfl, ?_⟩ | refine rq_dec ⟨.inl rfl, rfl⟩ ?_ | refine rq_dec rfl ?_ | refine ⟨Nat.le_of_ble_eq_true rfl, ?_⟩ | refine ⟨.inl rfl, ?_⟩ | refine ⟨fun _ => ⟨rfl, Nat.le_of_ble_eq_true rfl⟩, ?_⟩ | refine ⟨fun _ => Nat.le_of_ble_eq_true rfl, ?_⟩ | refine ⟨fun h => Bool.noConfusion h, ?_⟩)
      conv => whnf
      first | refine rq_dec (⟨by omega, by omega⟩) ?_ | refine gq_dec (fun _ => ⟨by omega, by omega⟩) ?_ | refine ⟨fun _ => ⟨by omega, by omega⟩, ?_⟩
      repeat ((conv => whnf); first | refine Cd.go ?_ | refine ⟨rfl, ?_⟩ | refine rq_dec ⟨.inl rfl, rfl⟩ ?_ | refine rq_dec rfl ?_ | refine ⟨Nat.le_of_ble_eq_true rfl, ?_⟩ | refine ⟨.inl rfl, ?_⟩ | refine ⟨fun _ => ⟨rfl, Nat.le_of_ble_eq_true rfl⟩, ?_⟩ | refine ⟨fun _ => Nat.le_of_ble_eq_true rfl, ?_⟩ | refine ⟨fun h => Bool.noConfusion h, ?_⟩)
      conv => whnf
      first | refine rq_dec (by rw [rowsZ_len]; simp; omega) ?_ | refine gq_dec (fun _ => by rw [rowsZ_len]; simp; omega) ?_ | refine ⟨fun _ => by rw [rowsZ_len]; simp; omega, ?_⟩
      repeat ((conv => whnf); first | refine Cd.go ?_ | refine ⟨rfl, ?_⟩ | refine rq_dec ⟨.inl rfl, rfl⟩ ?_ | refine rq_dec rfl ?_ | refine ⟨Nat.le_of_ble_eq_true rfl, ?_⟩ | refine ⟨.inl rfl, ?_⟩ | refine ⟨fun _ => ⟨rfl, Nat.le_of_ble_eq_true rfl⟩, ?_⟩ | refine ⟨fun _ => Nat.le_of_ble_eq_true rfl, ?_⟩ | refine ⟨fun h => Bool.noConfusion h, ?_⟩)
      conv => whnf
      rw [Nat.zero_add, Int.toNat_natCast, getEx l n hn]
      repeat ((conv => whnf); first | refine Cd.go ?_ | refine ⟨rfl, ?_⟩ | refine rq_dec ⟨.inl rfl, rfl⟩ ?_ | refine rq_dec rfl ?_ | refine ⟨Nat.le_of_ble_eq_true rfl, ?_⟩ | refine ⟨.inl rfl, ?_⟩ | refine ⟨fun _ => ⟨rfl, Nat.le_of_ble_eq_true rfl⟩, ?_⟩ | refine ⟨fun _ => Nat.le_of_ble_eq_true rfl, ?_⟩ | refine ⟨fun h => Bool.noConfusion h, ?_⟩)
      conv => whnf
      rw [rowsI_len]
      refine cq_intro (fun h4 => ?_) (fun h4 => ?_) <;> try simp only [Bool.cond_true_left, Bool.cond_false_right, Bool.not_eq_true', Bool.not_eq_false', Bool.not_not] at h4
      · have h4 : hasZ u l[n] = true := by rw [hasZ, leastZ, hu]; exact h4
        have hpos : 0 < l[n].free.length := by
          have := (hg l[n] (List.getElem_mem hn)).marks
          simp only [hasZ, leastZ, hu, decide_eq_true_eq, cond_true, cond_false] at h4
          omega
        have hst : takeAt l u (n + 1) = some n := by simp only [takeAt, getZ l n hn, h4, cond_true]
        rw [← hI3, show ((n : Int) + 1).toNat = n + 1 by omega, hst] at hk
        simp only [getZ l n hn] at hk
        repeat ((conv => whnf); first | refine Cd.go ?_ | refine ⟨rfl, ?_⟩ | refine rq_dec ⟨.inl rfl, rfl⟩ ?_ | refine rq_dec rfl ?_ | refine ⟨Nat.le_of_ble_eq_true rfl, ?_⟩ | refine ⟨.inl rfl, ?_⟩ | refine ⟨fun _ => ⟨rfl, Nat.le_of_ble_eq_true rfl⟩, ?_⟩ | refine ⟨fun _ => Nat.le_of_ble_eq_true rfl, ?_⟩ | refine ⟨fun h => Bool.noConfusion h, ?_⟩)
        conv => whnf
        first | refine rq_dec (⟨by omega, by omega⟩) ?_ | refine gq_dec (fun _ => ⟨by omega, by omega⟩) ?_ | refine ⟨fun _ => ⟨by omega, by omega⟩, ?_⟩
        repeat ((conv => whnf); first | refine Cd.go ?_ | refine ⟨rfl, ?_⟩ | refine rq_dec ⟨.inl rfl, rfl⟩ ?_ | refine rq_dec rfl ?_ | refine ⟨Nat.le_of_ble_eq_true rfl, ?_⟩ | refine ⟨.inl rfl, ?_⟩ | refine ⟨fun _ => ⟨rfl, Nat.le_of_ble_eq_true rfl⟩, ?_⟩ | refine ⟨fun _ => Nat.le_of_ble_eq_true rfl, ?_⟩ | refine ⟨fun h => Bool.noConfusion h, ?_⟩)
        conv => whnf
        first | refine rq_dec (by rw [rowsZ_len]; simp; omega) ?_ | refine gq_dec (fun _ => by rw [rowsZ_len]; simp; omega) ?_ | refine ⟨fun _ => by rw [rowsZ_len]; simp; omega, ?_⟩
        repeat ((conv => whnf); first | refine Cd.go ?_ | refine ⟨rfl, ?_⟩ | refine rq_dec ⟨.inl rfl, rfl⟩ ?_ | refine rq_dec rfl ?_ | refine ⟨Nat.le_of_ble_eq_true rfl, ?_⟩ | refine ⟨.inl rfl, ?_⟩ | refine ⟨fun _ => ⟨rfl, Nat.le_of_ble_eq_true rfl⟩, ?_⟩ | refine ⟨fun _ => Nat.le_of_ble_eq_true rfl, ?_⟩ | refine ⟨fun h => Bool.noConfusion h, ?_⟩)
        conv => whnf
        rw [Nat.zero_add, Int.toNat_natCast, getEx l n hn]
        repeat ((conv => whnf); first | refine Cd.go ?_ | refine ⟨rfl, ?_⟩ | refine rq_dec ⟨.inl rfl, rfl⟩ ?_ | refine rq_dec rfl ?_ | refine ⟨Nat.le_of_ble_eq_true rfl, ?_⟩ | refine ⟨.inl rfl, ?_⟩ | refine ⟨fun _ => ⟨rfl, Nat.le_of_ble_eq_true rfl⟩, ?_⟩ | refine ⟨fun _ => Nat.le_of_ble_eq_true rfl, ?_⟩ | refine ⟨fun h => Bool.noConfusion h, ?_⟩)
        conv => whnf
        first | refine rq_dec (⟨rfl, by decide, by rw [rowsI_len]; show (0 : Int) < (l[n].free.length : Int); omega⟩) ?_ | refine gq_dec (fun _ => ⟨rfl, by decide, by rw [rowsI_len]; show (0 : Int) < (l[n].free.length : Int); omega⟩) ?_ | refine ⟨fun _ => ⟨rfl, by decide, by rw [rowsI_len]; show (0 : Int) < (l[n].free.length : Int); omega⟩, ?_⟩
        rw [show ((0 : Int)).toNat = 0 from rfl, rowsI_get _ 0 (by exact hpos)]
        repeat ((conv => whnf); first | refine Cd.go ?_ | refine ⟨rfl, ?_⟩ | refine rq_dec ⟨.inl rfl, rfl⟩ ?_ | refine rq_dec rfl ?_ | refine ⟨Nat.le_of_ble_eq_true rfl, ?_⟩ | refine ⟨.inl rfl, ?_⟩ | refine ⟨fun _ => ⟨rfl, Nat.le_of_ble_eq_true rfl⟩, ?_⟩ | refine ⟨fun _ => Nat.le_of_ble_eq_true rfl, ?_⟩ | refine ⟨fun h => Bool.noConfusion h, ?_⟩)
        conv => whnf
        first | refine rq_dec (⟨by omega, by omega⟩) ?_ | refine gq_dec (fun _ => ⟨by omega, by omega⟩) ?_ | refine ⟨fun _ => ⟨by omega, by omega⟩, ?_⟩
        repeat ((conv => whnf); first | refine Cd.go ?_ | refine ⟨rfl, ?_⟩ | refine rq_dec ⟨.inl rfl, rfl⟩ ?_ | refine rq_dec rfl ?_ | refine ⟨Nat.le_of_ble_eq_true rfl, ?_⟩ | refine ⟨.inl rfl, ?_⟩ | refine ⟨fun _ => ⟨rfl, Nat.le_of_ble_eq_true rfl⟩, ?_⟩ | refine ⟨fun _ => Nat.le_of_ble_eq_true rfl, ?_⟩ | refine ⟨fun h => Bool.noConfusion h, ?_⟩)
        conv => whnf
        first | refine rq_dec (by rw [rowsZ_len]; simp; omega) ?_ | refine gq_dec (fun _ => by rw [rowsZ_len]; simp; omega) ?_ | refine ⟨fun _ => by rw [rowsZ_len]; simp; omega, ?_⟩
        repeat ((conv => whnf); first | refine Cd.go ?_ | refine ⟨rfl, ?_⟩ | refine rq_dec ⟨.inl rfl, rfl⟩ ?_ | refine rq_dec rfl ?_ | refine ⟨Nat.le_of_ble_eq_true rfl, ?_⟩ | refine ⟨.inl rfl, ?_⟩ | refine ⟨fun _ => ⟨rfl, Nat.le_of_ble_eq_true rfl⟩, ?_⟩ | refine ⟨fun _ => Nat.le_of_ble_eq_true rfl, ?_⟩ | refine ⟨fun h => Bool.noConfusion h, ?_⟩)
        conv => whnf
        rw [Nat.zero_add, Int.toNat_natCast, getEx l n hn]
        repeat ((conv => whnf); first | refine Cd.go ?_ | refine ⟨rfl, ?_⟩ | refine rq_dec ⟨.inl rfl, rfl⟩ ?_ | refine rq_dec rfl ?_ | refine ⟨Nat.le_of_ble_eq_true rfl, ?_⟩ | refine ⟨.inl rfl, ?_⟩ | refine ⟨fun _ => ⟨rfl, Nat.le_of_ble_eq_true rfl⟩, ?_⟩ | refine ⟨fun _ => Nat.le_of_ble_eq_true rfl, ?_⟩ | refine ⟨fun h => Bool.noConfusion h, ?_⟩)
        conv => whnf
        first | refine rq_dec (⟨.inl rfl, by decide, by rw [rowsI_len]; show (1 : Int) ≤ (l[n].free.length : Int); omega, Int.le_refl _⟩) ?_ | refine gq_dec (fun _ => ⟨.inl rfl, by decide, by rw [rowsI_len]; show (1 : Int) ≤ (l[n].free.length : Int); omega, Int.le_refl _⟩) ?_ | refine ⟨fun _ => ⟨.inl rfl, by decide, by rw [rowsI_len]; show (1 : Int) ≤ (l[n].free.length : Int); omega, Int.le_refl _⟩, ?_⟩
        rw [Int.toNat_natCast, drop1]
        repeat ((conv => whnf); first | refine Cd.go ?_ | refine ⟨rfl, ?_⟩ | refine rq_dec ⟨.inl rfl, rfl⟩ ?_ | refine rq_dec rfl ?_ | refine ⟨Nat.le_of_ble_eq_true rfl, ?_⟩ | refine ⟨.inl rfl, ?_⟩ | refine ⟨fun _ => ⟨rfl, Nat.le_of_ble_eq_true rfl⟩, ?_⟩ | refine ⟨fun _ => Nat.le_of_ble_eq_true rfl, ?_⟩ | refine ⟨fun h => Bool.noConfusion h, ?_⟩)
        conv => whnf
        first | refine rq_dec (⟨by omega, by omega⟩) ?_ | refine gq_dec (fun _ => ⟨by omega, by omega⟩) ?_ | refine ⟨fun _ => ⟨by omega, by omega⟩, ?_⟩
        repeat ((conv => whnf); first | refine Cd.go ?_ | refine ⟨rfl, ?_⟩ | refine rq_dec ⟨.inl rfl, rfl⟩ ?_ | refine rq_dec rfl ?_ | refine ⟨Nat.le_of_ble_eq_true rfl, ?_⟩ | refine ⟨.inl rfl, ?_⟩ | refine ⟨fun _ => ⟨rfl, Nat.le_of_ble_eq_true rfl⟩, ?_⟩ | refine ⟨fun _ => Nat.le_of_ble_eq_true rfl, ?_⟩ | refine ⟨fun h => Bool.noConfusion h, ?_⟩)
        conv => whnf
        first | refine rq_dec (by rw [rowsZ_len]; simp; omega) ?_ | refine ⟨by rw [rowsZ_len]; simp; omega, ?_⟩
        repeat ((conv => whnf); first | refine Cd.go ?_ | refine ⟨rfl, ?_⟩ | refine rq_dec ⟨.inl rfl, rfl⟩ ?_ | refine rq_dec rfl ?_ | refine ⟨Nat.le_of_ble_eq_true rfl, ?_⟩ | refine ⟨.inl rfl, ?_⟩ | refine ⟨fun _ => ⟨rfl, Nat.le_of_ble_eq_true rfl⟩, ?_⟩ | refine ⟨fun _ => Nat.le_of_ble_eq_true rfl, ?_⟩ | refine ⟨fun h => Bool.noConfusion h, ?_⟩)
        conv => whnf
        subst hk
        refine ⟨[], trivial, rfl, trivial, rfl, ?_⟩
        try subst hk
        repeat' (first | exact trivial | rfl | exact .inl rfl | exact .inr rfl | exact id | exact (fun h => Bool.noConfusion h) | refine And.intro ?_ ?_)
        · show 0 + l.length ≤ _
          rw [List.length_set, rowsZ_len]; simp
        · rw [Nat.zero_add, Int.toNat_natCast]
          refine (congrArg (fun r => List.take l.length (List.drop 0 r)) (putFree (l.map exZ) n (by simp; omega) (l[n].free.drop 1) false)).trans ?_
          refine (take0 (by rw [rowsZ_len]; simp)).trans ?_
          simp only [List.getElem_map]
          rfl
        · exact getI _ 0 hpos
      have h4 : hasZ u l[n] = false := by rw [hasZ, leastZ, hu]; exact h4
      have hst : takeAt l u (n + 1) = takeAt l u n := by simp only [takeAt, getZ l n hn, h4, cond_false]
      repeat ((conv => whnf); first | refine Cd.go ?_ | refine ⟨rfl, ?_⟩ | refine rq_dec ⟨.inl rfl, rfl⟩ ?_ | refine rq_dec rfl ?_ | refine ⟨Nat.le_of_ble_eq_true rfl, ?_⟩ | refine ⟨.inl rfl, ?_⟩ | refine ⟨fun _ => ⟨rfl, Nat.le_of_ble_eq_true rfl⟩, ?_⟩ | refine ⟨fun _ => Nat.le_of_ble_eq_true rfl, ?_⟩ | refine ⟨fun h => Bool.noConfusion h, ?_⟩)
      conv => whnf
      rw [wrapI (n := (n : Int) - 1) (by omega) (by omega)]
      refine ⟨(n : Int) - 1, ⟨by omega, by rw [show ((n : Int) - 1 + 1).toNat = n by omega, ← hst, ← hI3, show ((n : Int) + 1).toNat = n + 1 by omega]⟩, ?_, by show ((n : Int) - 1 + 1).toNat < ((n : Int) + 1).toNat; omega⟩
      refine viewI [some 0] rfl rfl ?_ rfl ?_ rfl ?_
      repeat' (first | exact trivial | rfl | exact .inl rfl | exact .inr rfl | exact id | exact (fun h => Bool.noConfusion h) | refine And.intro ?_ ?_)
    repeat ((conv => whnf); first | refine Cd.go ?_ | refine ⟨rfl, ?_⟩ | refine rq_dec ⟨.inl rfl, rfl⟩ ?_ | refine rq_dec rfl ?_ | refine ⟨Nat.le_of_ble_eq_true rfl, ?_⟩ | refine ⟨.inl rfl, ?_⟩ | refine ⟨fun _ => ⟨rfl, Nat.le_of_ble_eq_true rfl⟩, ?_⟩ | refine ⟨fun _ => Nat.le_of_ble_eq_true rfl, ?_⟩ | refine ⟨fun h => Bool.noConfusion h, ?_⟩)
    conv => whnf
    first | refine rq_dec (⟨by omega, by omega⟩) ?_ | refine gq_dec (fun _ => ⟨by omega, by omega⟩) ?_ | refine ⟨fun _ => ⟨by omega, by omega⟩, ?_⟩
    repeat ((conv => whnf); first | refine Cd.go ?_ | refine ⟨rfl, ?_⟩ | refine rq_dec ⟨.inl rfl, rfl⟩ ?_ | refine rq_dec rfl ?_ | refine ⟨Nat.le_of_ble_eq_true rfl, ?_⟩ | refine ⟨.inl rfl, ?_⟩ | refine ⟨fun _ => ⟨rfl, Nat.le_of_ble_eq_true rfl⟩, ?_⟩ | refine ⟨fun _ => Nat.le_of_ble_eq_true rfl, ?_⟩ | refine ⟨fun h => Bool.noConfusion h, ?_⟩)
    conv => whnf
    first | refine rq_dec (by rw [rowsZ_len]; simp; omega) ?_ | refine gq_dec (fun _ => by rw [rowsZ_len]; simp; omega) ?_ | refine ⟨fun _ => by rw [rowsZ_len]; simp; omega, ?_⟩
    repeat ((conv => whnf); first | refine Cd.go ?_ | refine ⟨rfl, ?_⟩ | refine rq_dec ⟨.inl rfl, rfl⟩ ?_ | refine rq_dec rfl ?_ | refine ⟨Nat.le_of_ble_eq_true rfl, ?_⟩ | refine ⟨.inl rfl, ?_⟩ | refine ⟨fun _ => ⟨rfl, Nat.le_of_ble_eq_true rfl⟩, ?_⟩ | refine ⟨fun _ => Nat.le_of_ble_eq_true rfl, ?_⟩ | refine ⟨fun h => Bool.noConfusion h, ?_⟩)
    conv => whnf
    rw [Nat.zero_add, Int.toNat_natCast, getEx l n hn]
    repeat ((conv => whnf); first | refine Cd.go ?_ | refine ⟨rfl, ?_⟩ | refine rq_dec ⟨.inl rfl, rfl⟩ ?_ | refine rq_dec rfl ?_ | refine ⟨Nat.le_of_ble_eq_true rfl, ?_⟩ | refine ⟨.inl rfl, ?_⟩ | refine ⟨fun _ => ⟨rfl, Nat.le_of_ble_eq_true rfl⟩, ?_⟩ | refine ⟨fun _ => Nat.le_of_ble_eq_true rfl, ?_⟩ | refine ⟨fun h => Bool.noConfusion h, ?_⟩)
    conv => whnf
    rw [rowsI_len]
    refine cq_intro (fun h4 => ?_) (fun h4 => ?_) <;> try simp only [Bool.cond_true_left, Bool.cond_false_right, Bool.not_eq_true', Bool.not_eq_false', Bool.not_not] at h4
    · have h4 : hasZ u l[n] = true := by rw [hasZ, leastZ, hu]; exact h4
      have hpos : 0 < l[n].free.length := by
        have := (hg l[n] (List.getElem_mem hn)).marks
        simp only [hasZ, leastZ, hu, decide_eq_true_eq, cond_true, cond_false] at h4
        omega
      have hst : takeAt l u (n + 1) = some n := by simp only [takeAt, getZ l n hn, h4, cond_true]
      rw [← hI3, show ((n : Int) + 1).toNat = n + 1 by omega, hst] at hk
      simp only [getZ l n hn] at hk
      repeat ((conv => whnf); first | refine Cd.go ?_ | refine ⟨rfl, ?_⟩ | refine rq_dec ⟨.inl rfl, rfl⟩ ?_ | refine rq_dec rfl ?_ | refine ⟨Nat.le_of_ble_eq_true rfl, ?_⟩ | refine ⟨.inl rfl, ?_⟩ | refine ⟨fun _ => ⟨rfl, Nat.le_of_ble_eq_true rfl⟩, ?_⟩ | refine ⟨fun _ => Nat.le_of_ble_eq_true rfl, ?_⟩ | refine ⟨fun h => Bool.noConfusion h, ?_⟩)
      conv => whnf
      first | refine rq_dec (⟨by omega, by omega⟩) ?_ | refine gq_dec (fun _ => ⟨by omega, by omega⟩) ?_ | refine ⟨fun _ => ⟨by omega, by omega⟩, ?_⟩
      repeat ((conv => whnf); first | refine Cd.go ?_ | refine ⟨rfl, ?_⟩ | refine rq_dec ⟨.inl rfl, rfl⟩ ?_ | refine rq_dec rfl ?_ | refine ⟨Nat.le_of_ble_eq_true rfl, ?_⟩ | refine ⟨.inl rfl, ?_⟩ | refine ⟨fun _ => ⟨rfl, Nat.le_of_ble_eq_true rfl⟩, ?_⟩ | refine ⟨fun _ => Nat.le_of_ble_eq_true rfl, ?_⟩ | refine ⟨fun h => Bool.noConfusion h, ?_⟩)
      conv => whnf
      first | refine rq_dec (by rw [rowsZ_len]; simp; omega) ?_ | refine gq_dec (fun _ => by rw [rowsZ_len]; simp; omega) ?_ | refine ⟨fun _ => by rw [rowsZ_len]; simp; omega, ?_⟩
      repeat ((conv => whnf); first | refine Cd.go ?_ | refine ⟨rfl, ?_⟩ | refine rq_dec ⟨.inl rfl, rfl⟩ ?_ | refine rq_dec rfl ?_ | refine ⟨Nat.le_of_ble_eq_true rfl, ?_⟩ | refine ⟨.inl rfl, ?_⟩ | refine ⟨fun _ => ⟨rfl, Nat.le_of_ble_eq_true rfl⟩, ?_⟩ | refine ⟨fun _ => Nat.le_of_ble_eq_true rfl, ?_⟩ | refine ⟨fun h => Bool.noConfusion h, ?_⟩)
      conv => whnf
      rw [Nat.zero_add, Int.toNat_natCast, getEx l n hn]
      repeat ((conv => whnf); first | refine Cd.go ?_ | refine ⟨rfl, ?_⟩ | refine rq_dec ⟨.inl rfl, rfl⟩ ?_ | refine rq_dec rfl ?_ | refine ⟨Nat.le_of_ble_eq_true rfl, ?_⟩ | refine ⟨.inl rfl, ?_⟩ | refine ⟨fun _ => ⟨rfl, Nat.le_of_ble_eq_true rfl⟩, ?_⟩ | refine ⟨fun _ => Nat.le_of_ble_eq_true rfl, ?_⟩ | refine ⟨fun h => Bool.noConfusion h, ?_⟩)
      conv => whnf
      first | refine rq_dec (⟨rfl, by decide, by rw [rowsI_len]; show (0 : Int) < (l[n].free.length : Int); omega⟩) ?_ | refine gq_dec (fun _ => ⟨rfl, by decide, by rw [rowsI_len]; show (0 : Int) < (l[n].free.length : Int); omega⟩) ?_ | refine ⟨fun _ => ⟨rfl, by decide, by rw [rowsI_len]; show (0 : Int) < (l[n].free.length : Int); omega⟩, ?_⟩
      rw [show ((0 : Int)).toNat = 0 from rfl, rowsI_get _ 0 (by exact hpos)]
      repeat ((conv => whnf); first | refine Cd.go ?_ | refine ⟨rfl, ?_⟩ | refine rq_dec ⟨.inl rfl, rfl⟩ ?_ | refine rq_dec rfl ?_ | refine ⟨Nat.le_of_ble_eq_true rfl, ?_⟩ | refine ⟨.inl rfl, ?_⟩ | refine ⟨fun _ => ⟨rfl, Nat.le_of_ble_eq_true rfl⟩, ?_⟩ | refine ⟨fun _ => Nat.le_of_ble_eq_true rfl, ?_⟩ | refine ⟨fun h => Bool.noConfusion h, ?_⟩)
      conv => whnf
      first | refine rq_dec (⟨by omega, by omega⟩) ?_ | refine gq_dec (fun _ => ⟨by omega, by omega⟩) ?_ | refine ⟨fun _ => ⟨by omega, by omega⟩, ?_⟩
      repeat ((conv => whnf); first | refine Cd.go ?_ | refine ⟨rfl, ?_⟩ | refine rq_dec ⟨.inl rfl, rfl⟩ ?_ | refine rq_dec rfl ?_ | refine ⟨Nat.le_of_ble_eq_true rfl, ?_⟩ | refine ⟨.inl rfl, ?_⟩ | refine ⟨fun _ => ⟨rfl, Nat.le_of_ble_eq_true rfl⟩, ?_⟩ | refine ⟨fun _ => Nat.le_of_ble_eq_true rfl, ?_⟩ | refine ⟨fun h => Bool.noConfusion h, ?_⟩)
      conv => whnf
      first | refine rq_dec (by rw [rowsZ_len]; simp; omega) ?_ | refine gq_dec (fun _ => by rw [rowsZ_len]; simp; omega) ?_ | refine ⟨fun _ => by rw [rowsZ_len]; simp; omega, ?_⟩
      repeat ((conv => whnf); first | refine Cd.go ?_ | refine ⟨rfl, ?_⟩ | refine rq_dec ⟨.inl rfl, rfl⟩ ?_ | refine rq_dec rfl ?_ | refine ⟨Nat.le_of_ble_eq_true rfl, ?_⟩ | refine ⟨.inl rfl, ?_⟩ | refine ⟨fun _ => ⟨rfl, Nat.le_of_ble_eq_true rfl⟩, ?_⟩ | refine ⟨fun _ => Nat.le_of_ble_eq_true rfl, ?_⟩ | refine ⟨fun h => Bool.noConfusion h, ?_⟩)
      conv => whnf
      rw [Nat.zero_add, Int.toNat_natCast, getEx l n hn]
      repeat ((conv => whnf); first | refine Cd.go ?_ | refine ⟨rfl, ?_⟩ | refine rq_dec ⟨.inl rfl, rfl⟩ ?_ | refine rq_dec rfl ?_ | refine ⟨Nat.le_of_ble_eq_true rfl, ?_⟩ | refine ⟨.inl rfl, ?_⟩ | refine ⟨fun _ => ⟨rfl, Nat.le_of_ble_eq_true rfl⟩, ?_⟩ | refine ⟨fun _ => Nat.le_of_ble_eq_true rfl, ?_⟩ | refine ⟨fun h => Bool.noConfusion h, ?_⟩)
      conv => whnf
      first | refine rq_dec (⟨.inl rfl, by decide, by rw [rowsI_len]; show (1 : Int) ≤ (l[n].free.length : Int); omega, Int.le_refl _⟩) ?_ | refine gq_dec (fun _ => ⟨.inl rfl, by decide, by rw [rowsI_len]; show (1 : Int) ≤ (l[n].free.length : Int); omega, Int.le_refl _⟩) ?_ | refine ⟨fun _ => ⟨.inl rfl, by decide, by rw [rowsI_len]; show (1 : Int) ≤ (l[n].free.length : Int); omega, Int.le_refl _⟩, ?_⟩
      rw [Int.toNat_natCast, drop1]
      repeat ((conv => whnf); first | refine Cd.go ?_ | refine ⟨rfl, ?_⟩ | refine rq_dec ⟨.inl rfl, rfl⟩ ?_ | refine rq_dec rfl ?_ | refine ⟨Nat.le_of_ble_eq_true rfl, ?_⟩ | refine ⟨.inl rfl, ?_⟩ | refine ⟨fun _ => ⟨rfl, Nat.le_of_ble_eq_true rfl⟩, ?_⟩ | refine ⟨fun _ => Nat.le_of_ble_eq_true rfl, ?_⟩ | refine ⟨fun h => Bool.noConfusion h, ?_⟩)
      conv => whnf
      first | refine rq_dec (⟨by omega, by omega⟩) ?_ | refine gq_dec (fun _ => ⟨by omega, by omega⟩) ?_ | refine ⟨fun _ => ⟨by omega, by omega⟩, ?_⟩
      repeat ((conv => whnf); first | refine Cd.go ?_ | refine ⟨rfl, ?_⟩ | refine rq_dec ⟨.inl rfl, rfl⟩ ?_ | refine rq_dec rfl ?_ | refine ⟨Nat.le_of_ble_eq_true rfl, ?_⟩ | refine ⟨.inl rfl, ?_⟩ | refine ⟨fun _ => ⟨rfl, Nat.le_of_ble_eq_true rfl⟩, ?_⟩ | refine ⟨fun _ => Nat.le_of_ble_eq_true rfl, ?_⟩ | refine ⟨fun h => Bool.noConfusion h, ?_⟩)
      conv => whnf
      first | refine rq_dec (by rw [rowsZ_len]; simp; omega) ?_ | refine ⟨by rw [rowsZ_len]; simp; omega, ?_⟩
      repeat ((conv => whnf); first | refine Cd.go ?_ | refine ⟨rfl, ?_⟩ | refine rq_dec ⟨.inl rfl, rfl⟩ ?_ | refine rq_dec rfl ?_ | refine ⟨Nat.le_of_ble_eq_true rfl, ?_⟩ | refine ⟨.inl rfl, ?_⟩ | refine ⟨fun _ => ⟨rfl, Nat.le_of_ble_eq_true rfl⟩, ?_⟩ | refine ⟨fun _ => Nat.le_of_ble_eq_true rfl, ?_⟩ | refine ⟨fun h => Bool.noConfusion h, ?_⟩)
      conv => whnf
      subst hk
      refine ⟨[], trivial, rfl, trivial, rfl, ?_⟩
      try subst hk
      repeat' (first | exact trivial | rfl | exact .inl rfl | exact .inr rfl | exact id | exact (fun h => Bool.noConfusion h) | refine And.intro ?_ ?_)
      · show 0 + l.length ≤ _
        rw [List.length_set, rowsZ_len]; simp
      · rw [Nat.zero_add, Int.toNat_natCast]
        refine (congrArg (fun r => List.take l.length (List.drop 0 r)) (putFree (l.map exZ) n (by simp; omega) (l[n].free.drop 1) false)).trans ?_
        refine (take0 (by rw [rowsZ_len]; simp)).trans ?_
        simp only [List.getElem_map]
        rfl
      · exact getI _ 0 hpos
    have h4 : hasZ u l[n] = false := by rw [hasZ, leastZ, hu]; exact h4
    have hst : takeAt l u (n + 1) = takeAt l u n := by simp only [takeAt, getZ l n hn, h4, cond_false]
    repeat ((conv => whnf); first | refine Cd.go ?_ | refine ⟨rfl, ?_⟩ | refine rq_dec ⟨.inl rfl, rfl⟩ ?_ | refine rq_dec rfl ?_ | refine ⟨Nat.le_of_ble_eq_true rfl, ?_⟩ | refine ⟨.inl rfl, ?_⟩ | refine ⟨fun _ => ⟨rfl, Nat.le_of_ble_eq_true rfl⟩, ?_⟩ | refine ⟨fun _ => Nat.le_of_ble_eq_true rfl, ?_⟩ | refine ⟨fun h => Bool.noConfusion h, ?_⟩)
    conv => whnf
    rw [wrapI (n := (n : Int) - 1) (by omega) (by omega)]
    refine ⟨(n : Int) - 1, ⟨by omega, by rw [show ((n : Int) - 1 + 1).toNat = n by omega, ← hst, ← hI3, show ((n : Int) + 1).toNat = n + 1 by omega]⟩, ?_, by show ((n : Int) - 1 + 1).toNat < ((n : Int) + 1).toNat; omega⟩
    refine viewI [some 0] rfl rfl ?_ rfl ?_ rfl ?_
    repeat' (first | exact trivial | rfl | exact .inl rfl | exact .inr rfl | exact id | exact (fun h => Bool.noConfusion h) | refine And.intro ?_ ?_)
  have h3 : i = -1 := by simp at h3; omega
  subst h3
  rw [← hI3] at hk
  have hk : (l.map exZ, (0 : Int), (3 : Int)) = q := hk
  subst hk
  repeat ((conv => whnf); first | refine Cd.go ?_ | refine ⟨rfl, ?_⟩ | refine rq_dec ⟨.inl rfl, rfl⟩ ?_ | refine rq_dec rfl ?_ | refine ⟨Nat.le_of_ble_eq_true rfl, ?_⟩ | refine ⟨.inl rfl, ?_⟩ | refine ⟨fun _ => ⟨rfl, Nat.le_of_ble_eq_true rfl⟩, ?_⟩ | refine ⟨fun _ => Nat.le_of_ble_eq_true rfl, ?_⟩ | refine ⟨fun h => Bool.noConfusion h, ?_⟩)
  conv => whnf
  refine ⟨[], trivial, rfl, trivial, rfl, ?_⟩
  try subst hk
  repeat' (first | exact trivial | rfl | exact .inl rfl | exact .inr rfl | exact id | exact (fun h => Bool.noConfusion h) | refine And.intro ?_ ?_)
  · show 0 + l.length ≤ _
    rw [rowsZ_len]; simp
  · refine take0 ?_
    rw [rowsZ_len]; simp
end Go.Proofs.YtmhapcbjjpadnaaGreat

set_option maxRecDepth 40000
namespace Go.Proofs.YtmhapcbjjpadnaaGreat
open Go Go.Sk Go.RowKit

end Go.Proofs.YtmhapcbjjpadnaaGreat

