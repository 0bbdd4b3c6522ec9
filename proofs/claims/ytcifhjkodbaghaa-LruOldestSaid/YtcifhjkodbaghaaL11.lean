/- Lru: LruOldest as a contract. -/
import Derived.Test.YtcifhjkodbaghaaL7
set_option linter.unusedSimpArgs false
set_option linter.unusedVariables false
namespace Go.Proofs.Ytcifhjkodbaghaa
open Go Go.Sk Go.RowKit

/- pagecache/pagecachelaw08.LruOldest -/
def rc13 : RC :=
  (.seq
  (.reg [⟨(some 4), none, (.mv (.c (.bool false)))⟩] [])
  (.seq
  (.reg [⟨(some 21), none, (.mv (.t 0))⟩,
    ⟨(some 22), none, (.build [(.lst 0 true []), (.int .i64 0)] [(0, (1, (.t 21)))])⟩,
    ⟨(some 23), none, (.box (.t 22))⟩,
    ⟨(some 5), none, (.mv (.t 23))⟩] [21, 22, 23])
  (.seq
  (.reg [⟨(some 6), none, (.alloc [(.lst 0 true []), (.lst 0 true []), (.lst 0 true [])])⟩] [])
  (.seq
  (.reg [⟨(some 24), none, (.mv (.t 5))⟩,
    ⟨(some 25), none, (.call 16 [(.t 24), (.c (.int .i64 12))])⟩,
    ⟨(some 26), none, (.bin .add (.c (.int .i64 1)) (.t 25))⟩,
    ⟨(some 7), none, (.mv (.t 26))⟩] [24, 25, 26])
  (.seq
  (.seq
  (.reg [⟨(some 8), none, (.mv (.c (.int .i64 1)))⟩] [])
  (.block 0
   (.loop
    (.seq
    (.seq
    (.reg [⟨(some 27), none, (.mv (.t 8))⟩,
      ⟨(some 28), none, (.mv (.t 7))⟩,
      ⟨(some 29), none, (.bin .leq (.t 27) (.t 28))⟩] [27, 28])
    (.cond (.t 29)
     .skip
     (.exit 0)))
    (.seq
    (.block 1
     (.seq
     (.reg [⟨(some 33), none, (.ld true 3 (.t 6))⟩,
       ⟨(some 34), none, (.mv (.t 8))⟩,
       ⟨(some 35), none, (.call 36 [(.t 33), (.t 34), (.c (.bool false))])⟩,
       ⟨(some 32), none, (.mv (.t 35))⟩,
       ⟨(some 36), none, (.extr 0 (.t 32))⟩,
       ⟨(some 37), none, (.extr 1 (.t 32))⟩,
       ⟨(some 9), none, (.alloc [(.lst 0 true []), (.lst 0 true []), (.lst 0 true [])])⟩,
       ⟨none, none, (.st 3 (.t 9) (.t 36))⟩,
       ⟨(some 10), none, (.mv (.t 37))⟩] [33, 34, 35, 32, 36, 37])
     (.seq
     (.seq
     (.reg [⟨(some 38), none, (.mv (.t 10))⟩,
       ⟨(some 39), none, (.bin .neq (.t 38) (.c (.int .i64 0)))⟩] [38])
     (.cond (.t 39)
      (.seq
      (.reg [⟨(some 4), none, (.mv (.c (.bool false)))⟩] [])
      .ret)
      .skip))
     (.reg [⟨(some 40), none, (.ld true 3 (.t 9))⟩,
       ⟨none, none, (.st 3 (.t 6) (.t 40))⟩] [40]))))
    (.reg [⟨(some 30), none, (.mv (.t 8))⟩,
      ⟨(some 31), none, (.bin .add (.t 30) (.c (.int .i64 1)))⟩,
      ⟨(some 8), none, (.mv (.t 31))⟩] [30, 31]))))))
  (.seq
  (.reg [⟨(some 41), none, .mkmap⟩,
    ⟨(some 11), none, (.mv (.t 41))⟩] [41])
  (.seq
  (.seq
  (.reg [⟨(some 42), none, (.mv (.t 5))⟩,
    ⟨(some 43), none, (.call 16 [(.t 42), (.c (.int .i64 8))])⟩,
    ⟨(some 12), none, (.mv (.t 43))⟩] [42, 43])
  (.block 2
   (.loop
    (.seq
    (.seq
    (.reg [⟨(some 44), none, (.mv (.t 12))⟩,
      ⟨(some 45), none, (.bin .gtr (.t 44) (.c (.int .i64 0)))⟩] [44])
    (.cond (.t 45)
     .skip
     (.exit 2)))
    (.seq
    (.block 3
     (.seq
     (.reg [⟨(some 48), none, (.mv (.t 5))⟩,
       ⟨(some 49), none, (.mv (.t 7))⟩,
       ⟨(some 50), none, (.call 16 [(.t 48), (.t 49)])⟩,
       ⟨(some 51), none, (.bin .add (.c (.int .i64 1)) (.t 50))⟩,
       ⟨(some 13), none, (.mv (.t 51))⟩] [48, 49, 50, 51])
     (.seq
     (.seq
     (.reg [⟨(some 52), none, (.mv (.t 11))⟩,
       ⟨(some 53), none, (.mv (.t 13))⟩,
       ⟨(some 54), none, (.mget (.bool false) false (.t 52) (.t 53))⟩] [52, 53])
     (.cond (.t 54)
      (.exit 3)
      .skip))
     (.seq
     (.reg [⟨(some 55), none, (.mv (.t 11))⟩,
       ⟨(some 56), none, (.mv (.t 13))⟩,
       ⟨none, none, (.mput (.t 55) (.t 56) (.c (.bool true)))⟩] [55, 56])
     (.seq
     (.reg [⟨(some 58), none, (.ld true 3 (.t 6))⟩,
       ⟨(some 59), none, (.mv (.t 13))⟩,
       ⟨(some 60), none, (.call 40 [(.t 58), (.t 59)])⟩,
       ⟨(some 57), none, (.mv (.t 60))⟩,
       ⟨(some 61), none, (.extr 0 (.t 57))⟩,
       ⟨(some 62), none, (.extr 1 (.t 57))⟩,
       ⟨(some 14), none, (.alloc [(.lst 0 true []), (.lst 0 true []), (.lst 0 true [])])⟩,
       ⟨none, none, (.st 3 (.t 14) (.t 61))⟩,
       ⟨(some 15), none, (.mv (.t 62))⟩] [58, 59, 60, 57, 61, 62])
     (.seq
     (.seq
     (.reg [⟨(some 63), none, (.mv (.t 15))⟩,
       ⟨(some 64), none, (.bin .neq (.t 63) (.c (.int .i64 0)))⟩] [63])
     (.cond (.t 64)
      (.seq
      (.reg [⟨(some 4), none, (.mv (.c (.bool false)))⟩] [])
      .ret)
      .skip))
     (.reg [⟨(some 65), none, (.ld true 3 (.t 14))⟩,
       ⟨none, none, (.st 3 (.t 6) (.t 65))⟩] [65])))))))
    (.reg [⟨(some 46), none, (.mv (.t 12))⟩,
      ⟨(some 47), none, (.bin .sub (.t 46) (.c (.int .i64 1)))⟩,
      ⟨(some 12), none, (.mv (.t 47))⟩] [46, 47]))))))
  (.seq
  (.reg [⟨(some 66), none, (.mv (.t 1))⟩,
    ⟨(some 67), none, (.call 49 [(.t 66), (.c (.int .i64 14))])⟩,
    ⟨(some 68), none, (.bin .add (.c (.int .i64 1)) (.t 67))⟩,
    ⟨(some 16), none, (.mv (.t 68))⟩] [66, 67, 68])
  (.seq
  (.reg [⟨(some 70), none, (.ld true 3 (.t 6))⟩,
    ⟨(some 71), none, (.mv (.t 16))⟩,
    ⟨(some 72), none, (.call 50 [(.t 70), (.t 71), (.c (.lst 0 true []))])⟩,
    ⟨(some 69), none, (.mv (.t 72))⟩,
    ⟨(some 73), none, (.extr 0 (.t 69))⟩,
    ⟨(some 74), none, (.extr 1 (.t 69))⟩,
    ⟨(some 17), none, (.alloc [(.lst 0 true []), (.lst 0 true []), (.lst 0 true [])])⟩,
    ⟨none, none, (.st 3 (.t 17) (.t 73))⟩,
    ⟨(some 18), none, (.mv (.t 74))⟩] [70, 71, 72, 69, 73, 74, 17])
  (.seq
  (.reg [⟨(some 19), none, (.mv (.c (.lst 0 true [])))⟩] [])
  (.seq
  (.seq
  (.reg [⟨(some 20), none, (.mv (.c (.int .i64 1)))⟩] [])
  (.block 4
   (.loop
    (.seq
    (.seq
    (.reg [⟨(some 75), none, (.mv (.t 20))⟩,
      ⟨(some 76), none, (.mv (.t 7))⟩,
      ⟨(some 77), none, (.bin .leq (.t 75) (.t 76))⟩,
      ⟨(some 78), none, (.mv (.t 77))⟩,
      ⟨(some 79), (some (78, true)), (.mv (.t 19))⟩,
      ⟨(some 80), (some (78, true)), (.len (.t 79))⟩,
      ⟨(some 81), (some (78, true)), (.mv (.t 16))⟩,
      ⟨(some 82), (some (78, true)), (.bin .lss (.t 80) (.t 81))⟩,
      ⟨(some 83), none, (.pick (.t 78) (.t 82) (.c (.bool false)))⟩] [75, 76, 77, 78, 79, 80, 81, 82])
    (.cond (.t 83)
     .skip
     (.exit 4)))
    (.seq
    (.block 5
     (.seq
     (.reg [⟨(some 86), none, (.mv (.t 11))⟩,
       ⟨(some 87), none, (.mv (.t 20))⟩,
       ⟨(some 88), none, (.mget (.bool false) false (.t 86) (.t 87))⟩,
       ⟨(some 89), none, (.un .not (.t 88))⟩] [86, 87, 88])
     (.cond (.t 89)
      (.reg [⟨(some 90), none, (.mv (.t 19))⟩,
        ⟨(some 91), none, (.mv (.t 20))⟩,
        ⟨(some 92), none, (.bslice 1 [(.int .i64 0)] 1 [(0, (.t 91))])⟩,
        ⟨(some 93), none, (.app 1 8 (.t 90) (.t 92))⟩,
        ⟨(some 19), none, (.mv (.t 93))⟩] [90, 91, 92, 93])
      .skip)))
    (.reg [⟨(some 84), none, (.mv (.t 20))⟩,
      ⟨(some 85), none, (.bin .add (.t 84) (.c (.int .i64 1)))⟩,
      ⟨(some 20), none, (.mv (.t 85))⟩] [84, 85]))))))
  (.seq
  (.reg [⟨(some 94), none, (.mv (.t 18))⟩,
    ⟨(some 95), none, (.mv (.t 19))⟩,
    ⟨(some 96), none, (.call 52 [(.t 94), (.t 95)])⟩,
    ⟨(some 97), none, (.mv (.t 96))⟩,
    ⟨(some 98), (some (97, true)), (.call 47 [])⟩,
    ⟨(some 99), none, (.pick (.t 97) (.t 98) (.c (.bool false)))⟩,
    ⟨(some 4), none, (.mv (.t 99))⟩] [94, 95, 96, 97, 98, 99])
  .ret))))))))))))
theorem rcq13 : resC Go.Proofs.Try.prog Go.Proofs.Try.f13.ntmps ((Go.Proofs.Try.f13.body).getD .skip) = some (strip rc13) := by kernel_rfl
def rv13 : List RV := [(.tmp 4)]
theorem rvq13 : Go.Proofs.Try.f13.results.toList.mapM (resRV Go.Proofs.Try.prog) = some rv13 := by kernel_rfl

/-- Frames 1 to k, the last one at the front. -/
def downI (k : Nat) : List Int := (seqI 1 ((k : Int) + 1)).reverse
def adN (k : Nat) : Ls := ⟨[], downI k, []⟩
theorem downI_succ (k : Nat) : downI (k + 1) = ((k + 1 : Nat) : Int) :: downI k := by
  rw [downI, downI, show (((k + 1 : Nat) : Int) + 1) = ((k : Int) + 1) + 1 by omega, seqI_succ 1 _ (by omega), List.reverse_append]
  rfl
theorem mem_downI {k : Nat} {x : Int} : x ∈ downI k ↔ 1 ≤ x ∧ x ≤ k := by rw [downI, List.mem_reverse, mem_seqI]; omega
theorem downI_nodup (k : Nat) : (downI k).Nodup := (List.reverse_perm _).nodup_iff.2 ((seqI_ok _ _).asc.imp fun h => by omega)
theorem old_ok {k : Nat} {R : List Int} (hk : k ≤ 64) (ha : R.Pairwise (· < ·)) (hs : ∀ x ∈ R, x ∈ downI k) : ChkP ⟨[], downI k, R⟩ :=
  ⟨by show ([] ++ downI k).Nodup; rw [List.nil_append]; exact downI_nodup k, fun f hf => by have := mem_downI.1 (show f ∈ downI k from hf); omega, ha, hs⟩
theorem adN_ok {k : Nat} (hk : k ≤ 64) : ChkP (adN k) := old_ok hk List.Pairwise.nil (fun x hx => by cases hx)
theorem adN_add {k : Nat} (hk : k < 64) : addP (adN k) ((k + 1 : Nat) : Int) false = (adN (k + 1), 0) := by
  rw [addP_eq', addF, addG, (chk_iff' _).2 (adN_ok (by omega)), (known_iff _).2 (by omega)]
  have : hasL (adN k) ((k + 1 : Nat) : Int) = false := by
    simp only [hasL, adN, Bool.or_eq_false_iff, decide_eq_false_iff_not, mem_downI]
    exact ⟨by simp, by omega⟩
  rw [this]
  show ((⟨[], ((k + 1 : Nat) : Int) :: downI k, []⟩ : Ls), (0 : Int)) = _
  rw [adN, downI_succ]
/-- The victims, one after the other. -/
def wantN (R : List Int) (n : Int) : List Int → List Int → List Int
  | [], a => a
  | f :: r, a => bif decide ((a.length : Int) < n) then wantN R n r (bif decide (f ∈ R) then a else a ++ [f]) else a
theorem scan_want (R0 : List Int) (n : Int) : ∀ (r : List Int) (s : ScS), (scanG R0 [] n r s).v = wantN R0 n r s.v
  | [], s => rfl
  | f :: r, s => by
    rw [scanG, wantN]
    cases decide ((s.v.length : Int) < n) with
    | false => rfl
    | true =>
      simp only [cond_true]
      rw [scan_want R0 n r]
      congr 1
      unfold scanS
      cases decide (f ∈ R0) <;> rfl
theorem seqI_cons (a b : Int) (h : a < b) : seqI a b = a :: seqI (a + 1) b := by
  obtain ⟨m, rfl⟩ : ∃ m : Nat, b = a + 1 + m := ⟨(b - a - 1).toNat, by omega⟩
  induction m with
  | zero =>
    rw [show a + 1 + ((0 : Nat) : Int) = a + 1 by omega, seqI_succ a a (by omega), seqI_nil a a (by omega), seqI_nil (a + 1) (a + 1) (by omega)]; rfl
  | succ m ih =>
    rw [show a + 1 + ((m + 1 : Nat) : Int) = a + 1 + m + 1 by omega, seqI_succ a _ (by omega), seqI_succ (a + 1) _ (by omega), ih (by omega)]; rfl
theorem old_scan {k : Nat} {R : List Int} (h : ChkP ⟨[], downI k, R⟩) (n : Int) : (scanF ⟨[], downI k, R⟩ n []).2 = wantN R n (seqI 1 ((k : Int) + 1)) [] := by
  rw [scanF, (chk_iff' _).2 h]
  show (scanG R [] n (downI k).reverse ⟨downI k, R, []⟩).v = _
  rw [scan_want, downI, List.reverse_reverse]
set_option maxRecDepth 20000 in
set_option maxHeartbeats 1000000 in
theorem ok13 (L : List Int) (n : Int) (hL : (L.length : Int) < 2 ^ 62) : FnC Try.prog 13 [] [.lst 1 false (rowsI L), .int .i64 n] (.bool true) [] := by
  refine fn_okC (ob0 := []) (rc := rc13) (rvs := rv13) Try.func13 rfl rcq13 rvq13 (show 2 ≤ _ by decide) ?_
  have hJ1 := nxI_in L 0 (by omega)
  have a1 := nxV_in L 0 12 (by decide) (by decide)
  repeat ((conv => whnf); first | refine Cd.seq ?_ | refine Cd.cut ?_ | refine Cd.reg ?_ | refine Cd.block ?_ | refine Cd.cond ?_ | refine Cd.dreg ?_ | refine Cd.skip ?_ | refine Cd.ret ?_ | refine Cd.exit ?_ | refine Cd.loop ?_ | refine ⟨rfl, ?_⟩ | refine ⟨Nat.le_of_ble_eq_true rfl, ?_⟩ | refine ⟨.inl rfl, ?_⟩ | refine ⟨fun h => Bool.noConfusion h, ?_⟩ | refine .inr ⟨fun _ => ⟨[0], _, _, _, ok16n L _ _ hL (by omega) (by omega) (by omega), ⟨rfl, rfl, trivial⟩, rfl, rfl, rfl, rfl, ?_⟩, (by intro h; cases h)⟩)
  conv => whnf
  refine .inr ⟨fun _ => ⟨[0], _, _, _, ok16n L 0 12 hL (by omega) (by decide) (by decide), ⟨rfl, rfl, trivial⟩, rfl, rfl, rfl, rfl, ?_⟩, (by intro h; cases h)⟩
  repeat ((conv => whnf); first | refine Cd.seq ?_ | refine Cd.cut ?_ | refine Cd.reg ?_ | refine Cd.block ?_ | refine Cd.cond ?_ | refine Cd.dreg ?_ | refine Cd.skip ?_ | refine Cd.ret ?_ | refine Cd.exit ?_ | refine Cd.loop ?_ | refine ⟨rfl, ?_⟩ | refine ⟨Nat.le_of_ble_eq_true rfl, ?_⟩ | refine ⟨.inl rfl, ?_⟩ | refine ⟨fun h => Bool.noConfusion h, ?_⟩ | refine .inr ⟨fun _ => ⟨[0], _, _, _, ok16n L _ _ hL (by omega) (by omega) (by omega), ⟨rfl, rfl, trivial⟩, rfl, rfl, rfl, rfl, ?_⟩, (by intro h; cases h)⟩)
  conv => whnf
  rw [wrapI (n := 1 + nxV L 0 12) (by omega) (by omega)]
  generalize hc0 : 1 + nxV L 0 12 = c0
  obtain ⟨cnt, rfl⟩ : ∃ m : Nat, c0 = m := ⟨c0.toNat, by omega⟩
  have hcnt : 1 ≤ cnt ∧ cnt ≤ 12 := by omega
  clear hc0
  generalize nxI L 0 = J at hJ1 ⊢
  refine ⟨Nat, fun k => k ≤ cnt, fun k => ⟨[(1, ⟨[], true, .int .i64 n⟩), (5, ⟨[], true, .ptr 0 0 0⟩), (6, ⟨[], true, .ptr 1 0 0⟩), (7, ⟨[], true, .int .i64 (cnt : Int)⟩), (8, ⟨[], true, .int .i64 ((k + 1 : Nat) : Int)⟩)], [(0, tpO L J), (1, .box (adN k).c)], 2⟩, fun k => cnt - k, ⟨0, by omega, ?_⟩, fun k hk => ?_⟩
  · refine viewI [some 0, some 1] rfl rfl ?_ rfl ?_ rfl ?_
    repeat' (first | exact trivial | rfl | exact .inl rfl | exact .inr rfl | exact id | exact (fun h => Bool.noConfusion h) | refine And.intro ?_ ?_)
  have hk : k ≤ cnt := hk
  have hok := adN_ok (k := k) (by omega)
  repeat ((conv => whnf); first | refine Cd.seq ?_ | refine Cd.cut ?_ | refine Cd.reg ?_ | refine Cd.block ?_ | refine Cd.cond ?_ | refine Cd.dreg ?_ | refine Cd.skip ?_ | refine Cd.ret ?_ | refine Cd.exit ?_ | refine Cd.loop ?_ | refine ⟨rfl, ?_⟩ | refine ⟨Nat.le_of_ble_eq_true rfl, ?_⟩ | refine ⟨.inl rfl, ?_⟩ | refine ⟨fun h => Bool.noConfusion h, ?_⟩ | refine .inr ⟨fun _ => ⟨[0], _, _, _, ok16n L _ _ hL (by omega) (by omega) (by omega), ⟨rfl, rfl, trivial⟩, rfl, rfl, rfl, rfl, ?_⟩, (by intro h; cases h)⟩)
  conv => whnf
  refine ⟨fun h1 => ?_, fun h1 => ?_⟩ <;> try simp only [Bool.cond_true_left, Bool.cond_false_right, Bool.not_eq_true', Bool.not_eq_false', Bool.not_not] at h1
  · have h1 : k < cnt := by simp at h1; omega
    have k36 := ok36 (adN k) ((k + 1 : Nat) : Int) false hok.small
    rw [adN_add (by omega)] at k36
    repeat ((conv => whnf); first | refine Cd.seq ?_ | refine Cd.cut ?_ | refine Cd.reg ?_ | refine Cd.block ?_ | refine Cd.cond ?_ | refine Cd.dreg ?_ | refine Cd.skip ?_ | refine Cd.ret ?_ | refine Cd.exit ?_ | refine Cd.loop ?_ | refine ⟨rfl, ?_⟩ | refine ⟨Nat.le_of_ble_eq_true rfl, ?_⟩ | refine ⟨.inl rfl, ?_⟩ | refine ⟨fun h => Bool.noConfusion h, ?_⟩ | refine ⟨?_, fun h => Bool.noConfusion h⟩ | refine fun (_ : false = false) => ?_ | refine fun (_ : true = true) => ?_ | refine .inl ⟨_, fun _ => ⟨purA rfl, (by first | exact k36)⟩, .inl rfl, ?_⟩ | refine .inr ⟨fun _ => ⟨[0], _, _, _, ok16n L _ _ hL (by omega) (by omega) (by omega), ⟨rfl, rfl, trivial⟩, rfl, rfl, rfl, rfl, ?_⟩, (by intro h; cases h)⟩)
    conv => whnf
    rw [wrapI (n := ((k + 1 : Nat) : Int) + 1) (by omega) (by omega), show (((k + 1 : Nat) : Int) + 1) = ((k + 1 + 1 : Nat) : Int) by omega]
    refine ⟨k + 1, by show k + 1 ≤ cnt; omega, ?_, by show cnt - (k + 1) < cnt - k; omega⟩
    refine viewI [some 0, some 1] rfl rfl ?_ rfl ?_ rfl ?_
    repeat' (first | exact trivial | rfl | exact .inl rfl | exact .inr rfl | exact id | exact (fun h => Bool.noConfusion h) | refine And.intro ?_ ?_)
  have h1 : k = cnt := by simp at h1; omega
  subst h1
  clear hk hok
  have hJ2 := nxI_in L J hJ1
  have a2 := nxV_in L J 8 (by decide) (by decide)
  repeat ((conv => whnf); first | refine Cd.seq ?_ | refine Cd.cut ?_ | refine Cd.reg ?_ | refine Cd.block ?_ | refine Cd.cond ?_ | refine Cd.dreg ?_ | refine Cd.skip ?_ | refine Cd.ret ?_ | refine Cd.exit ?_ | refine Cd.loop ?_ | refine ⟨rfl, ?_⟩ | refine ⟨Nat.le_of_ble_eq_true rfl, ?_⟩ | refine ⟨.inl rfl, ?_⟩ | refine ⟨fun h => Bool.noConfusion h, ?_⟩ | refine .inr ⟨fun _ => ⟨[0], _, _, _, ok16n L _ _ hL (by omega) (by omega) (by omega), ⟨rfl, rfl, trivial⟩, rfl, rfl, rfl, rfl, ?_⟩, (by intro h; cases h)⟩)
  conv => whnf
  generalize nxV L J 8 = t0 at a2 ⊢
  obtain ⟨t0, rfl⟩ : ∃ m : Nat, t0 = m := ⟨t0.toNat, by omega⟩
  generalize nxI L J = J2 at hJ2 ⊢
  refine ⟨Nat × List Int × List (Int × V) × Nat, fun p => (p.1 ≤ 8 ∧ p.2.2.2 ≤ L.length) ∧ ChkP ⟨[], downI k, p.2.1⟩ ∧ ∀ f, mgetV p.2.2.1 f (.bool false) = .bool (decide (f ∈ p.2.1)), fun p => ⟨[(1, ⟨[], true, .int .i64 n⟩), (5, ⟨[], true, .ptr 0 0 0⟩), (6, ⟨[], true, .ptr 1 0 0⟩), (7, ⟨[], true, .int .i64 (k : Int)⟩), (11, ⟨[], true, .mp 2⟩), (12, ⟨[], true, .int .i64 (p.1 : Int)⟩)],
    [(0, tpO L p.2.2.2), (1, .box (Ls.c ⟨[], downI k, p.2.1⟩)), (2, .mp p.2.2.1)], 3⟩, fun p => p.1, ⟨(t0, [], [], J2), ⟨⟨by show t0 ≤ 8; omega, hJ2⟩, adN_ok (by omega), fun f => by simp [mgetV]⟩, ?_⟩, fun p hp => ?_⟩
  · refine viewI [some 0, some 1, some 2] rfl rfl ?_ rfl ?_ rfl ?_
    repeat' (first | exact trivial | rfl | exact .inl rfl | exact .inr rfl | exact id | exact (fun h => Bool.noConfusion h) | refine And.intro ?_ ?_)
  clear hJ2 a2
  obtain ⟨m, R, Mp, J⟩ := p
  obtain ⟨⟨hm, hJ⟩, hP, hM⟩ := hp
  dsimp only at hm hJ hP hM ⊢
  have hJ3 := nxI_in L J hJ
  repeat ((conv => whnf); first | refine Cd.seq ?_ | refine Cd.cut ?_ | refine Cd.reg ?_ | refine Cd.block ?_ | refine Cd.cond ?_ | refine Cd.dreg ?_ | refine Cd.skip ?_ | refine Cd.ret ?_ | refine Cd.exit ?_ | refine Cd.loop ?_ | refine ⟨rfl, ?_⟩ | refine ⟨Nat.le_of_ble_eq_true rfl, ?_⟩ | refine ⟨.inl rfl, ?_⟩ | refine ⟨fun h => Bool.noConfusion h, ?_⟩ | refine .inr ⟨fun _ => ⟨[0], _, _, _, ok16n L _ _ hL (by omega) (by omega) (by omega), ⟨rfl, rfl, trivial⟩, rfl, rfl, rfl, rfl, ?_⟩, (by intro h; cases h)⟩)
  conv => whnf
  refine ⟨fun h2 => ?_, fun h2 => ?_⟩ <;> try simp only [Bool.cond_true_left, Bool.cond_false_right, Bool.not_eq_true', Bool.not_eq_false', Bool.not_not] at h2
  · have h2 : 0 < m := by simpa using h2
    obtain ⟨m, rfl⟩ : ∃ j, m = j + 1 := ⟨m - 1, by omega⟩
    have hm1 : IntKind.i64.wrap (((m + 1 : Nat) : Int) - 1) = (m : Int) := by rw [wrapI (by omega) (by omega)]; omega
    have hf := nxV_in L J k (by omega) (by omega)
    repeat ((conv => whnf); first | refine Cd.seq ?_ | refine Cd.cut ?_ | refine Cd.reg ?_ | refine Cd.block ?_ | refine Cd.cond ?_ | refine Cd.dreg ?_ | refine Cd.skip ?_ | refine Cd.ret ?_ | refine Cd.exit ?_ | refine Cd.loop ?_ | refine ⟨rfl, ?_⟩ | refine ⟨Nat.le_of_ble_eq_true rfl, ?_⟩ | refine ⟨.inl rfl, ?_⟩ | refine ⟨fun h => Bool.noConfusion h, ?_⟩ | refine .inr ⟨fun _ => ⟨[0], _, _, _, ok16n L _ _ hL (by omega) (by omega) (by omega), ⟨rfl, rfl, trivial⟩, rfl, rfl, rfl, rfl, ?_⟩, (by intro h; cases h)⟩)
    conv => whnf
    rw [wrapI (n := 1 + nxV L J k) (by omega) (by omega)]
    have hf : 1 ≤ 1 + nxV L J k ∧ 1 + nxV L J k ≤ k := by omega
    generalize 1 + nxV L J k = f at hf ⊢
    rw [hM f]
    repeat ((conv => whnf); first | refine Cd.seq ?_ | refine Cd.cut ?_ | refine Cd.reg ?_ | refine Cd.block ?_ | refine Cd.cond ?_ | refine Cd.dreg ?_ | refine Cd.skip ?_ | refine Cd.ret ?_ | refine Cd.exit ?_ | refine Cd.loop ?_ | refine ⟨rfl, ?_⟩ | refine ⟨Nat.le_of_ble_eq_true rfl, ?_⟩ | refine ⟨.inl rfl, ?_⟩ | refine ⟨fun h => Bool.noConfusion h, ?_⟩ | refine .inr ⟨fun _ => ⟨[0], _, _, _, ok16n L _ _ hL (by omega) (by omega) (by omega), ⟨rfl, rfl, trivial⟩, rfl, rfl, rfl, rfl, ?_⟩, (by intro h; cases h)⟩)
    conv => whnf
    refine ⟨fun h3 => ?_, fun h3 => ?_⟩ <;> try simp only [Bool.cond_true_left, Bool.cond_false_right, Bool.not_eq_true', Bool.not_eq_false', Bool.not_not] at h3
    · repeat ((conv => whnf); first | refine Cd.seq ?_ | refine Cd.cut ?_ | refine Cd.reg ?_ | refine Cd.block ?_ | refine Cd.cond ?_ | refine Cd.dreg ?_ | refine Cd.skip ?_ | refine Cd.ret ?_ | refine Cd.exit ?_ | refine Cd.loop ?_ | refine ⟨rfl, ?_⟩ | refine ⟨Nat.le_of_ble_eq_true rfl, ?_⟩ | refine ⟨.inl rfl, ?_⟩ | refine ⟨fun h => Bool.noConfusion h, ?_⟩ | refine .inr ⟨fun _ => ⟨[0], _, _, _, ok16n L _ _ hL (by omega) (by omega) (by omega), ⟨rfl, rfl, trivial⟩, rfl, rfl, rfl, rfl, ?_⟩, (by intro h; cases h)⟩)
      conv => whnf
      rw [hm1]
      refine ⟨(m, R, Mp, nxI L J), ⟨⟨by show m ≤ 8; omega, hJ3⟩, hP, hM⟩, ?_, Nat.lt_succ_self m⟩
      refine viewI [some 0, some 1, some 2] rfl rfl ?_ rfl ?_ rfl ?_
      repeat' (first | exact trivial | rfl | exact .inl rfl | exact .inr rfl | exact id | exact (fun h => Bool.noConfusion h) | refine And.intro ?_ ?_)
    have h3 : f ∉ R := by simpa using h3
    have ht : touF ⟨[], downI k, R⟩ f = (⟨[], downI k, insI R (atI R f) f⟩, 0) := by
      have hh : hasL ⟨[], downI k, R⟩ f = true := by
        simp only [hasL, Bool.or_eq_true, decide_eq_true_eq]
        exact .inr (mem_downI.2 hf)
      rw [touF, (chk_iff' _).2 hP, (known_iff f).2 (by omega), hh]
      show (bif !decide (f ∈ R) then _ else _) = _
      rw [show (!decide (f ∈ R)) = true by simpa using h3]; rfl
    have hP' := (hP.tou f).1
    rw [ht] at hP'
    have k40 := ok40 ⟨[], downI k, R⟩ f hP.small
    rw [ht] at k40
    repeat ((conv => whnf); first | refine Cd.seq ?_ | refine Cd.cut ?_ | refine Cd.reg ?_ | refine Cd.block ?_ | refine Cd.cond ?_ | refine Cd.dreg ?_ | refine Cd.skip ?_ | refine Cd.ret ?_ | refine Cd.exit ?_ | refine Cd.loop ?_ | refine ⟨rfl, ?_⟩ | refine ⟨Nat.le_of_ble_eq_true rfl, ?_⟩ | refine ⟨.inl rfl, ?_⟩ | refine ⟨fun h => Bool.noConfusion h, ?_⟩ | refine ⟨?_, fun h => Bool.noConfusion h⟩ | refine fun (_ : false = false) => ?_ | refine fun (_ : true = true) => ?_ | refine .inl ⟨_, fun _ => ⟨purA rfl, (by first | exact k40)⟩, .inl rfl, ?_⟩ | refine .inr ⟨fun _ => ⟨[0], _, _, _, ok16n L _ _ hL (by omega) (by omega) (by omega), ⟨rfl, rfl, trivial⟩, rfl, rfl, rfl, rfl, ?_⟩, (by intro h; cases h)⟩)
    conv => whnf
    rw [hm1]
    refine ⟨(m, insI R (atI R f) f, msetV Mp f (.bool true), nxI L J), ⟨⟨by show m ≤ 8; omega, hJ3⟩, hP', fun y => ?_⟩, ?_, Nat.lt_succ_self m⟩
    · show mgetV (msetV Mp f (.bool true)) y (.bool false) = .bool (decide (y ∈ insI R (atI R f) f))
      rw [mgetV_set, hM y]
      by_cases e : y = f
      · rw [if_pos e, show decide (y ∈ insI R (atI R f) f) = true by rw [decide_eq_true_eq]; exact mem_insI.2 (.inl e)]
      · rw [if_neg e]
        congr 1
        exact decide_eq_decide.2 (by rw [mem_insI]; exact ⟨.inr, fun h => h.resolve_left e⟩)
    refine viewI [some 0, some 1, some 2] rfl rfl ?_ rfl ?_ rfl ?_
    repeat' (first | exact trivial | rfl | exact .inl rfl | exact .inr rfl | exact id | exact (fun h => Bool.noConfusion h) | refine And.intro ?_ ?_)
  clear h2
  have hcu := cutF_in n 14 (by decide) (by decide)
  repeat ((conv => whnf); first | refine Cd.seq ?_ | refine Cd.cut ?_ | refine Cd.reg ?_ | refine Cd.block ?_ | refine Cd.cond ?_ | refine Cd.dreg ?_ | refine Cd.skip ?_ | refine Cd.ret ?_ | refine Cd.exit ?_ | refine Cd.loop ?_ | refine ⟨rfl, ?_⟩ | refine ⟨Nat.le_of_ble_eq_true rfl, ?_⟩ | refine ⟨.inl rfl, ?_⟩ | refine ⟨fun h => Bool.noConfusion h, ?_⟩ | refine .inl ⟨_, fun _ => ⟨purA rfl, (by first | exact ok49 n 14 (by decide))⟩, .inl rfl, ?_⟩ | refine .inr ⟨fun _ => ⟨[0], _, _, _, ok16n L _ _ hL (by omega) (by omega) (by omega), ⟨rfl, rfl, trivial⟩, rfl, rfl, rfl, rfl, ?_⟩, (by intro h; cases h)⟩)
  conv => whnf
  rw [wrapI (n := 1 + cutF n 14) (by omega) (by omega)]
  generalize 1 + cutF n 14 = most at hcu ⊢
  have hos := old_scan hP most
  have hvl := scanF_vlen hP.small most []
  repeat ((conv => whnf); first | refine Cd.seq ?_ | refine Cd.cut ?_ | refine Cd.reg ?_ | refine Cd.block ?_ | refine Cd.cond ?_ | refine Cd.dreg ?_ | refine Cd.skip ?_ | refine Cd.ret ?_ | refine Cd.exit ?_ | refine Cd.loop ?_ | refine ⟨rfl, ?_⟩ | refine ⟨Nat.le_of_ble_eq_true rfl, ?_⟩ | refine ⟨.inl rfl, ?_⟩ | refine ⟨fun h => Bool.noConfusion h, ?_⟩ | refine .inl ⟨_, fun _ => ⟨purA rfl, (by first | exact ok50n ⟨[], downI k, R⟩ most hP.small)⟩, .inl rfl, ?_⟩ | refine .inr ⟨fun _ => ⟨[0], _, _, _, ok16n L _ _ hL (by omega) (by omega) (by omega), ⟨rfl, rfl, trivial⟩, rfl, rfl, rfl, rfl, ?_⟩, (by intro h; cases h)⟩)
  conv => whnf
  rw [hos] at hvl ⊢
  generalize hw : wantN R most (seqI 1 ((k : Int) + 1)) [] = v at hvl ⊢
  refine ⟨Nat × List Int, fun p => (p.1 ≤ k ∧ p.2.length ≤ p.1) ∧ wantN R most (seqI ((p.1 + 1 : Nat) : Int) ((k : Int) + 1)) p.2 = v, fun p => ⟨[(7, ⟨[], true, .int .i64 (k : Int)⟩), (11, ⟨[], true, .mp 0⟩), (16, ⟨[], true, .int .i64 most⟩), (18, ⟨[], true, .lst 1 false (rowsI v)⟩), (19, ⟨[], true, .sl 1 0 p.2.length⟩), (20, ⟨[], true, .int .i64 ((p.1 + 1 : Nat) : Int)⟩)],
    [(0, .mp Mp), (1, .row 1 (rowsI p.2))], 2⟩, fun p => k - p.1, ⟨(0, []), ⟨⟨by simp, by simp⟩, hw⟩, ?_⟩, fun p hp => ?_⟩
  · refine viewI [some 2, none] rfl rfl ?_ rfl ?_ rfl ?_
    repeat' (first | exact trivial | rfl | exact .inl rfl | exact .inr rfl | exact id | exact (fun h => Bool.noConfusion h) | refine And.intro ?_ ?_)
  obtain ⟨i, out⟩ := p
  obtain ⟨⟨hi1, hi2⟩, hwv⟩ := hp
  dsimp only at hi1 hi2 hwv ⊢
  repeat ((conv => whnf); first | refine Cd.seq ?_ | refine Cd.cut ?_ | refine Cd.reg ?_ | refine Cd.block ?_ | refine Cd.cond ?_ | refine Cd.dreg ?_ | refine Cd.skip ?_ | refine Cd.ret ?_ | refine Cd.exit ?_ | refine Cd.loop ?_ | refine ⟨rfl, ?_⟩ | refine ⟨Nat.le_of_ble_eq_true rfl, ?_⟩ | refine ⟨.inl rfl, ?_⟩ | refine ⟨fun h => Bool.noConfusion h, ?_⟩ | refine .inr ⟨fun _ => ⟨[0], _, _, _, ok16n L _ _ hL (by omega) (by omega) (by omega), ⟨rfl, rfl, trivial⟩, rfl, rfl, rfl, rfl, ?_⟩, (by intro h; cases h)⟩)
  conv => whnf
  by_cases hik : i = k
  · subst hik
    rw [seqI_nil _ _ (by omega), wantN] at hwv
    subst hwv
    rw [show decide (((i + 1 : Nat) : Int) ≤ (i : Int)) = false by rw [decide_eq_false_iff_not]; omega]
    have k52 : FnC Try.prog 52 [] [.lst 1 false (rowsI out), .lst 1 false (((rowsI out).drop 0).take out.length)] (.bool (decide (out = out))) [] := by
      rw [take0 (rowsI_len out)]; exact ok52 out out false false (by omega) (by omega)
    repeat ((conv => whnf); first | refine Cd.seq ?_ | refine Cd.cut ?_ | refine Cd.reg ?_ | refine Cd.block ?_ | refine Cd.cond ?_ | refine Cd.dreg ?_ | refine Cd.skip ?_ | refine Cd.ret ?_ | refine Cd.exit ?_ | refine Cd.loop ?_ | refine ⟨rfl, ?_⟩ | refine ⟨Nat.le_of_ble_eq_true rfl, ?_⟩ | refine ⟨.inl rfl, ?_⟩ | refine ⟨fun h => Bool.noConfusion h, ?_⟩ | refine ⟨?_, fun h => Bool.noConfusion h⟩ | refine fun (_ : false = false) => ?_ | refine fun (_ : true = true) => ?_ | refine .inr ⟨fun _ => ⟨[0], _, _, _, ok16n L _ _ hL (by omega) (by omega) (by omega), ⟨rfl, rfl, trivial⟩, rfl, rfl, rfl, rfl, ?_⟩, (by intro h; cases h)⟩)
    conv => whnf
    refine .inl ⟨.bool (decide (out = out)), fun _ => ⟨?_, k52⟩, .inr rfl, ?_⟩
    · intro v hv
      have hv : v ∈ [V.lst 1 false (rowsI out), V.sl 1 0 out.length] := hv
      rcases List.mem_cons.1 hv with rfl | hv
      · exact trivial
      · obtain rfl := List.mem_singleton.1 hv
        show 0 + out.length ≤ (rowsI out).length
        rw [rowsI_len]; omega
    rw [show decide (out = out) = true by simp]
    repeat ((conv => whnf); first | refine Cd.seq ?_ | refine Cd.cut ?_ | refine Cd.reg ?_ | refine Cd.block ?_ | refine Cd.cond ?_ | refine Cd.dreg ?_ | refine Cd.skip ?_ | refine Cd.ret ?_ | refine Cd.exit ?_ | refine Cd.loop ?_ | refine ⟨rfl, ?_⟩ | refine ⟨Nat.le_of_ble_eq_true rfl, ?_⟩ | refine ⟨.inl rfl, ?_⟩ | refine ⟨fun h => Bool.noConfusion h, ?_⟩ | refine ⟨?_, fun h => Bool.noConfusion h⟩ | refine fun (_ : false = false) => ?_ | refine fun (_ : true = true) => ?_ | refine .inl ⟨_, fun _ => ⟨purA rfl, (by first | exact ok47)⟩, .inl rfl, ?_⟩ | refine .inr ⟨fun _ => ⟨[0], _, _, _, ok16n L _ _ hL (by omega) (by omega) (by omega), ⟨rfl, rfl, trivial⟩, rfl, rfl, rfl, rfl, ?_⟩, (by intro h; cases h)⟩)
    conv => whnf
    refine ⟨[], ?_, rfl, trivial, rfl, ?_⟩
    · exact trivial
    try subst hk
    repeat' (first | exact trivial | rfl | exact .inl rfl | exact .inr rfl | exact id | exact (fun h => Bool.noConfusion h) | refine And.intro ?_ ?_)
  rw [show decide (((i + 1 : Nat) : Int) ≤ (k : Int)) = true by rw [decide_eq_true_eq]; omega, cond_true]
  rw [seqI_cons _ _ (by omega), wantN] at hwv
  refine ⟨fun h4 => ?_, fun h4 => ?_⟩ <;> try simp only [Bool.cond_true_left, Bool.cond_false_right, Bool.not_eq_true', Bool.not_eq_false', Bool.not_not] at h4
  · rw [h4, cond_true] at hwv
    have hi3 : IntKind.i64.wrap (((i + 1 : Nat) : Int) + 1) = ((i + 1 + 1 : Nat) : Int) := by rw [wrapI (by omega) (by omega)]; omega
    rw [show (((i + 1 : Nat) : Int) + 1) = ((i + 1 + 1 : Nat) : Int) by omega] at hwv
    repeat ((conv => whnf); first | refine Cd.seq ?_ | refine Cd.cut ?_ | refine Cd.reg ?_ | refine Cd.block ?_ | refine Cd.cond ?_ | refine Cd.dreg ?_ | refine Cd.skip ?_ | refine Cd.ret ?_ | refine Cd.exit ?_ | refine Cd.loop ?_ | refine ⟨rfl, ?_⟩ | refine ⟨Nat.le_of_ble_eq_true rfl, ?_⟩ | refine ⟨.inl rfl, ?_⟩ | refine ⟨fun h => Bool.noConfusion h, ?_⟩ | refine .inr ⟨fun _ => ⟨[0], _, _, _, ok16n L _ _ hL (by omega) (by omega) (by omega), ⟨rfl, rfl, trivial⟩, rfl, rfl, rfl, rfl, ?_⟩, (by intro h; cases h)⟩)
    conv => whnf
    rw [hM]
    repeat ((conv => whnf); first | refine Cd.seq ?_ | refine Cd.cut ?_ | refine Cd.reg ?_ | refine Cd.block ?_ | refine Cd.cond ?_ | refine Cd.dreg ?_ | refine Cd.skip ?_ | refine Cd.ret ?_ | refine Cd.exit ?_ | refine Cd.loop ?_ | refine ⟨rfl, ?_⟩ | refine ⟨Nat.le_of_ble_eq_true rfl, ?_⟩ | refine ⟨.inl rfl, ?_⟩ | refine ⟨fun h => Bool.noConfusion h, ?_⟩ | refine .inr ⟨fun _ => ⟨[0], _, _, _, ok16n L _ _ hL (by omega) (by omega) (by omega), ⟨rfl, rfl, trivial⟩, rfl, rfl, rfl, rfl, ?_⟩, (by intro h; cases h)⟩)
    conv => whnf
    refine ⟨fun h5 => ?_, fun h5 => ?_⟩ <;> try simp only [Bool.cond_true_left, Bool.cond_false_right, Bool.not_eq_true', Bool.not_eq_false', Bool.not_not] at h5
    · rw [h5, cond_false] at hwv
      repeat ((conv => whnf); first | refine Cd.seq ?_ | refine Cd.cut ?_ | refine Cd.reg ?_ | refine Cd.block ?_ | refine Cd.cond ?_ | refine Cd.dreg ?_ | refine Cd.skip ?_ | refine Cd.ret ?_ | refine Cd.exit ?_ | refine Cd.loop ?_ | refine ⟨rfl, ?_⟩ | refine ⟨Nat.le_of_ble_eq_true rfl, ?_⟩ | refine ⟨.inl rfl, ?_⟩ | refine ⟨fun h => Bool.noConfusion h, ?_⟩ | refine .inr ⟨fun _ => ⟨[0], _, _, _, ok16n L _ _ hL (by omega) (by omega) (by omega), ⟨rfl, rfl, trivial⟩, rfl, rfl, rfl, rfl, ?_⟩, (by intro h; cases h)⟩)
      conv => whnf
      refine ⟨(rowsI_len out).symm, by show (((rowsI out).length + 1 : Nat) : Int) ≤ _; rw [rowsI_len]; omega, by show ((rowsI out).length + 1) * 8 ≤ _; rw [rowsI_len]; omega, ?_⟩
      repeat ((conv => whnf); first | refine Cd.seq ?_ | refine Cd.cut ?_ | refine Cd.reg ?_ | refine Cd.block ?_ | refine Cd.cond ?_ | refine Cd.dreg ?_ | refine Cd.skip ?_ | refine Cd.ret ?_ | refine Cd.exit ?_ | refine Cd.loop ?_ | refine ⟨rfl, ?_⟩ | refine ⟨Nat.le_of_ble_eq_true rfl, ?_⟩ | refine ⟨.inl rfl, ?_⟩ | refine ⟨fun h => Bool.noConfusion h, ?_⟩ | refine .inr ⟨fun _ => ⟨[0], _, _, _, ok16n L _ _ hL (by omega) (by omega) (by omega), ⟨rfl, rfl, trivial⟩, rfl, rfl, rfl, rfl, ?_⟩, (by intro h; cases h)⟩)
      conv => whnf
      rw [hi3]
      refine ⟨(i + 1, out ++ [((i + 1 : Nat) : Int)]), ⟨⟨by show i + 1 ≤ k; omega, by show (out ++ [_]).length ≤ i + 1; rw [List.length_append, List.length_singleton]; omega⟩, hwv⟩, ?_, by show k - (i + 1) < k - i; omega⟩
      refine viewI [some 0, some ?k217_1] rfl rfl ?h3_217 ?h4_217 ?h5_217 ?h6_217 ?h7_217
      case' h7_217 => repeat' (first | exact trivial | rfl | exact .inl rfl | exact .inr rfl | exact id | exact (fun h => Bool.noConfusion h) | refine And.intro ?_ ?_)
      case' h4_217 => rfl
      case' h6_217 => rfl
      case' h3_217 => repeat' (first | exact trivial | rfl | exact .inl rfl | exact .inr rfl | exact id | exact (fun h => Bool.noConfusion h) | refine And.intro ?_ ?_)
      case' h5_217 => repeat' (first | exact trivial | rfl | exact .inl rfl | exact .inr rfl | exact id | exact (fun h => Bool.noConfusion h) | refine And.intro ?_ ?_)
      · exact rowsI_snoc out _
      · show (rowsI out).length + 1 = (out ++ [_]).length
        rw [rowsI_len, List.length_append]; rfl
    rw [h5, cond_true] at hwv
    repeat ((conv => whnf); first | refine Cd.seq ?_ | refine Cd.cut ?_ | refine Cd.reg ?_ | refine Cd.block ?_ | refine Cd.cond ?_ | refine Cd.dreg ?_ | refine Cd.skip ?_ | refine Cd.ret ?_ | refine Cd.exit ?_ | refine Cd.loop ?_ | refine ⟨rfl, ?_⟩ | refine ⟨Nat.le_of_ble_eq_true rfl, ?_⟩ | refine ⟨.inl rfl, ?_⟩ | refine ⟨fun h => Bool.noConfusion h, ?_⟩ | refine .inr ⟨fun _ => ⟨[0], _, _, _, ok16n L _ _ hL (by omega) (by omega) (by omega), ⟨rfl, rfl, trivial⟩, rfl, rfl, rfl, rfl, ?_⟩, (by intro h; cases h)⟩)
    conv => whnf
    rw [hi3]
    refine ⟨(i + 1, out), ⟨⟨by show i + 1 ≤ k; omega, by show out.length ≤ i + 1; omega⟩, hwv⟩, ?_, by show k - (i + 1) < k - i; omega⟩
    refine viewI [some 0, some 1] rfl rfl ?_ rfl ?_ rfl ?_
    repeat' (first | exact trivial | rfl | exact .inl rfl | exact .inr rfl | exact id | exact (fun h => Bool.noConfusion h) | refine And.intro ?_ ?_)
  rw [h4, cond_false] at hwv
  subst hwv
  rw [h4]
  have k52 : FnC Try.prog 52 [] [.lst 1 false (rowsI out), .lst 1 false (((rowsI out).drop 0).take out.length)] (.bool (decide (out = out))) [] := by
    rw [take0 (rowsI_len out)]; exact ok52 out out false false (by omega) (by omega)
  repeat ((conv => whnf); first | refine Cd.seq ?_ | refine Cd.cut ?_ | refine Cd.reg ?_ | refine Cd.block ?_ | refine Cd.cond ?_ | refine Cd.dreg ?_ | refine Cd.skip ?_ | refine Cd.ret ?_ | refine Cd.exit ?_ | refine Cd.loop ?_ | refine ⟨rfl, ?_⟩ | refine ⟨Nat.le_of_ble_eq_true rfl, ?_⟩ | refine ⟨.inl rfl, ?_⟩ | refine ⟨fun h => Bool.noConfusion h, ?_⟩ | refine ⟨?_, fun h => Bool.noConfusion h⟩ | refine fun (_ : false = false) => ?_ | refine fun (_ : true = true) => ?_ | refine .inr ⟨fun _ => ⟨[0], _, _, _, ok16n L _ _ hL (by omega) (by omega) (by omega), ⟨rfl, rfl, trivial⟩, rfl, rfl, rfl, rfl, ?_⟩, (by intro h; cases h)⟩)
  conv => whnf
  refine .inl ⟨.bool (decide (out = out)), fun _ => ⟨?_, k52⟩, .inr rfl, ?_⟩
  · intro v hv
    have hv : v ∈ [V.lst 1 false (rowsI out), V.sl 1 0 out.length] := hv
    rcases List.mem_cons.1 hv with rfl | hv
    · exact trivial
    · obtain rfl := List.mem_singleton.1 hv
      show 0 + out.length ≤ (rowsI out).length
      rw [rowsI_len]; omega
  rw [show decide (out = out) = true by simp]
  repeat ((conv => whnf); first | refine Cd.seq ?_ | refine Cd.cut ?_ | refine Cd.reg ?_ | refine Cd.block ?_ | refine Cd.cond ?_ | refine Cd.dreg ?_ | refine Cd.skip ?_ | refine Cd.ret ?_ | refine Cd.exit ?_ | refine Cd.loop ?_ | refine ⟨rfl, ?_⟩ | refine ⟨Nat.le_of_ble_eq_true rfl, ?_⟩ | refine ⟨.inl rfl, ?_⟩ | refine ⟨fun h => Bool.noConfusion h, ?_⟩ | refine ⟨?_, fun h => Bool.noConfusion h⟩ | refine fun (_ : false = false) => ?_ | refine fun (_ : true = true) => ?_ | refine .inl ⟨_, fun _ => ⟨purA rfl, (by first | exact ok47)⟩, .inl rfl, ?_⟩ | refine .inr ⟨fun _ => ⟨[0], _, _, _, ok16n L _ _ hL (by omega) (by omega) (by omega), ⟨rfl, rfl, trivial⟩, rfl, rfl, rfl, rfl, ?_⟩, (by intro h; cases h)⟩)
  conv => whnf
  refine ⟨[], ?_, rfl, trivial, rfl, ?_⟩
  · exact trivial
  try subst hk
  repeat' (first | exact trivial | rfl | exact .inl rfl | exact .inr rfl | exact id | exact (fun h => Bool.noConfusion h) | refine And.intro ?_ ?_)
end Go.Proofs.Ytcifhjkodbaghaa

