/- Lru: lists; clone, Check. -/
import Derived.Test.YtcifhjkodbaghaaL1
set_option linter.unusedSimpArgs false
set_option linter.unusedVariables false
namespace Go.Proofs.Ytcifhjkodbaghaa
open Go Go.Sk Go.RowKit

/- pagecache/lru.clone -/
def rc65 : RC :=
  (.seq
  (.reg [⟨(some 1), none, (.box (.t 0))⟩,
    ⟨(some 2), none, (.alloc [(.lst 0 true []), (.lst 0 true []), (.lst 0 true [])])⟩] [])
  (.seq
  (.dreg 2048 2224 [⟨(some 3), none, (.faddr 0 (.t 1))⟩,
    ⟨(some 4), none, (.ld false 1 (.t 3))⟩,
    ⟨(some 5), none, (.call 75 [(.t 4)])⟩,
    ⟨(some 6), none, (.faddr 1 (.t 1))⟩,
    ⟨(some 7), none, (.ld false 1 (.t 6))⟩,
    ⟨(some 8), none, (.call 75 [(.t 7)])⟩,
    ⟨(some 9), none, (.faddr 2 (.t 1))⟩,
    ⟨(some 10), none, (.ld false 1 (.t 9))⟩,
    ⟨(some 11), none, (.call 75 [(.t 10)])⟩,
    ⟨(some 12), none, (.build [(.lst 0 true []), (.lst 0 true []), (.lst 0 true [])] [(0, (1, (.t 5))), (1, (1, (.t 8))), (2, (1, (.t 11)))])⟩,
    ⟨none, none, (.st 3 (.t 2) (.t 12))⟩] [3, 4, 5, 6, 7, 8, 9, 10, 11, 12] [[], [0], [1, 0], [], [3], [4, 3, 2, 0, 1], [], [6], [7, 6, 5, 1, 0, 2, 3, 4], [8, 4, 3, 2, 0, 1, 5, 6, 7], [9, 7, 6, 5, 1, 0, 2, 3, 4, 8]] [2048, 2064, 2080, 2096, 2112, 2128, 2144, 2160, 2176, 2192, 2208])
  .ret))
theorem rcq65 : resC Go.Proofs.Try.prog Go.Proofs.Try.f65.ntmps ((Go.Proofs.Try.f65.body).getD .skip) = some (strip rc65) := by kernel_rfl
def rv65 : List RV := [(.cell 2 true 3)]
theorem rvq65 : Go.Proofs.Try.f65.results.toList.mapM (resRV Go.Proofs.Try.prog) = some rv65 := by kernel_rfl

structure Ls where
  A : List Int
  I : List Int
  R : List Int
def Ls.c (l : Ls) : List V := [.lst 1 false (rowsI l.A), .lst 1 false (rowsI l.I), .lst 1 false (rowsI l.R)]
structure SmallL (l : Ls) : Prop where
  a : l.A.length ≤ 10000
  i : l.I.length ≤ 10000
  r : l.R.length ≤ 10000
set_option maxRecDepth 20000 in
theorem ok65 (l : Ls) (hl : SmallL l) : FnC Try.prog 65 [] [.agg l.c] (.agg l.c) [] := by
  have h1 := hl.a; have h2 := hl.i; have h3 := hl.r
  refine fn_okC (ob0 := []) (rc := rc65) (rvs := rv65) Try.func65 rfl rcq65 rvq65 (show 1 ≤ _ by decide) ?_
  repeat ((conv => whnf); first | refine Cd.seq ?_ | refine Cd.cut ?_ | refine Cd.reg ?_ | refine Cd.block ?_ | refine Cd.cond ?_ | refine Cd.dreg ?_ | refine Cd.skip ?_ | refine Cd.ret ?_ | refine Cd.exit ?_ | refine Cd.loop ?_ | refine ⟨rfl, ?_⟩ | refine ⟨Nat.le_of_ble_eq_true rfl, ?_⟩ | refine ⟨.inl rfl, ?_⟩ | refine ⟨fun h => Bool.noConfusion h, ?_⟩)
  conv => whnf
  refine .inr ⟨fun _ => ⟨[], _, _, _, ok75 (rowsI l.A) false (by rw [rowsI_len]; omega), trivial, rfl, rfl, rfl, rfl, ?_⟩, (by intro h; cases h)⟩
  rw [rowsI_len]
  repeat ((conv => whnf); first | refine Cd.seq ?_ | refine Cd.cut ?_ | refine Cd.reg ?_ | refine Cd.block ?_ | refine Cd.cond ?_ | refine Cd.dreg ?_ | refine Cd.skip ?_ | refine Cd.ret ?_ | refine Cd.exit ?_ | refine Cd.loop ?_ | refine ⟨rfl, ?_⟩ | refine ⟨Nat.le_of_ble_eq_true rfl, ?_⟩ | refine ⟨.inl rfl, ?_⟩ | refine ⟨fun h => Bool.noConfusion h, ?_⟩)
  conv => whnf
  refine .inr ⟨fun _ => ⟨[], _, _, _, ok75 (rowsI l.I) false (by rw [rowsI_len]; omega), trivial, rfl, rfl, rfl, rfl, ?_⟩, (by intro h; cases h)⟩
  rw [rowsI_len]
  repeat ((conv => whnf); first | refine Cd.seq ?_ | refine Cd.cut ?_ | refine Cd.reg ?_ | refine Cd.block ?_ | refine Cd.cond ?_ | refine Cd.dreg ?_ | refine Cd.skip ?_ | refine Cd.ret ?_ | refine Cd.exit ?_ | refine Cd.loop ?_ | refine ⟨rfl, ?_⟩ | refine ⟨Nat.le_of_ble_eq_true rfl, ?_⟩ | refine ⟨.inl rfl, ?_⟩ | refine ⟨fun h => Bool.noConfusion h, ?_⟩)
  conv => whnf
  refine .inr ⟨fun _ => ⟨[], _, _, _, ok75 (rowsI l.R) false (by rw [rowsI_len]; omega), trivial, rfl, rfl, rfl, rfl, ?_⟩, (by intro h; cases h)⟩
  rw [rowsI_len]
  repeat ((conv => whnf); first | refine Cd.seq ?_ | refine Cd.cut ?_ | refine Cd.reg ?_ | refine Cd.block ?_ | refine Cd.cond ?_ | refine Cd.dreg ?_ | refine Cd.skip ?_ | refine Cd.ret ?_ | refine Cd.exit ?_ | refine Cd.loop ?_ | refine ⟨rfl, ?_⟩ | refine ⟨Nat.le_of_ble_eq_true rfl, ?_⟩ | refine ⟨.inl rfl, ?_⟩ | refine ⟨fun h => Bool.noConfusion h, ?_⟩)
  conv => whnf
  refine ⟨[], ?_, rfl, trivial, rfl, ?_⟩
  · exact trivial
  try subst hk
  repeat' (first | exact trivial | rfl | exact .inl rfl | exact .inr rfl | exact id | exact (fun h => Bool.noConfusion h) | refine And.intro ?_ ?_)
  · show 0 + l.A.length ≤ _
    rw [rowsI_len]; omega
  · exact take0 (rowsI_len _)
  · show 0 + l.I.length ≤ _
    rw [rowsI_len]; omega
  · exact take0 (rowsI_len _)
  · show 0 + l.R.length ≤ _
    rw [rowsI_len]; omega
  · exact take0 (rowsI_len _)
/-- The same, the third list owned. -/
theorem ok65t (l : Ls) (hl : SmallL l) : FnC Try.prog 65 [] [.agg l.c] (.agg [.lst 1 false (rowsI l.A), .lst 1 false (rowsI l.I), .sl 0 0 l.R.length]) [.row 1 (rowsI l.R)] := by
  have h1 := hl.a; have h2 := hl.i; have h3 := hl.r
  refine fn_okC (ob0 := []) (rc := rc65) (rvs := rv65) Try.func65 rfl rcq65 rvq65 (show 1 ≤ _ by decide) ?_
  repeat ((conv => whnf); first | refine Cd.seq ?_ | refine Cd.cut ?_ | refine Cd.reg ?_ | refine Cd.block ?_ | refine Cd.cond ?_ | refine Cd.dreg ?_ | refine Cd.skip ?_ | refine Cd.ret ?_ | refine Cd.exit ?_ | refine Cd.loop ?_ | refine ⟨rfl, ?_⟩ | refine ⟨Nat.le_of_ble_eq_true rfl, ?_⟩ | refine ⟨.inl rfl, ?_⟩ | refine ⟨fun h => Bool.noConfusion h, ?_⟩)
  conv => whnf
  refine .inr ⟨fun _ => ⟨[], _, _, _, ok75 (rowsI l.A) false (by rw [rowsI_len]; omega), trivial, rfl, rfl, rfl, rfl, ?_⟩, (by intro h; cases h)⟩
  rw [rowsI_len]
  repeat ((conv => whnf); first | refine Cd.seq ?_ | refine Cd.cut ?_ | refine Cd.reg ?_ | refine Cd.block ?_ | refine Cd.cond ?_ | refine Cd.dreg ?_ | refine Cd.skip ?_ | refine Cd.ret ?_ | refine Cd.exit ?_ | refine Cd.loop ?_ | refine ⟨rfl, ?_⟩ | refine ⟨Nat.le_of_ble_eq_true rfl, ?_⟩ | refine ⟨.inl rfl, ?_⟩ | refine ⟨fun h => Bool.noConfusion h, ?_⟩)
  conv => whnf
  refine .inr ⟨fun _ => ⟨[], _, _, _, ok75 (rowsI l.I) false (by rw [rowsI_len]; omega), trivial, rfl, rfl, rfl, rfl, ?_⟩, (by intro h; cases h)⟩
  rw [rowsI_len]
  repeat ((conv => whnf); first | refine Cd.seq ?_ | refine Cd.cut ?_ | refine Cd.reg ?_ | refine Cd.block ?_ | refine Cd.cond ?_ | refine Cd.dreg ?_ | refine Cd.skip ?_ | refine Cd.ret ?_ | refine Cd.exit ?_ | refine Cd.loop ?_ | refine ⟨rfl, ?_⟩ | refine ⟨Nat.le_of_ble_eq_true rfl, ?_⟩ | refine ⟨.inl rfl, ?_⟩ | refine ⟨fun h => Bool.noConfusion h, ?_⟩)
  conv => whnf
  refine .inr ⟨fun _ => ⟨[], _, _, _, ok75 (rowsI l.R) false (by rw [rowsI_len]; omega), trivial, rfl, rfl, rfl, rfl, ?_⟩, (by intro h; cases h)⟩
  rw [rowsI_len]
  repeat ((conv => whnf); first | refine Cd.seq ?_ | refine Cd.cut ?_ | refine Cd.reg ?_ | refine Cd.block ?_ | refine Cd.cond ?_ | refine Cd.dreg ?_ | refine Cd.skip ?_ | refine Cd.ret ?_ | refine Cd.exit ?_ | refine Cd.loop ?_ | refine ⟨rfl, ?_⟩ | refine ⟨Nat.le_of_ble_eq_true rfl, ?_⟩ | refine ⟨.inl rfl, ?_⟩ | refine ⟨fun h => Bool.noConfusion h, ?_⟩)
  conv => whnf
  try subst hk
  refine ⟨[some 2176], ?_, rfl, ?_, rfl, ?_⟩
  all_goals repeat' (first | exact trivial | rfl | exact .inl rfl | exact .inr rfl | exact id | exact (fun h => Bool.noConfusion h) | refine And.intro ?_ ?_)
  · show 0 + l.A.length ≤ _
    rw [rowsI_len]; omega
  · exact take0 (rowsI_len _)
  · show 0 + l.I.length ≤ _
    rw [rowsI_len]; omega
  · exact take0 (rowsI_len _)
/-! What Check says. -/
def noneBad (b : Nat → Bool) : Nat → Bool
  | 0 => true
  | n + 1 => noneBad b n && !b n
theorem noneBad_at {b : Nat → Bool} : ∀ {n i : Nat}, i < n → noneBad b n = true → b i = false
  | 0, _, h, _ => by omega
  | n + 1, i, h, h1 => by
    simp only [noneBad, Bool.and_eq_true, Bool.not_eq_true'] at h1
    by_cases e : i = n
    · subst e; exact h1.2
    · exact noneBad_at (n := n) (by omega) h1.1
theorem noneBad_bad {b : Nat → Bool} {n i : Nat} (h : i < n) (hb : b i = true) : noneBad b n = false := by
  cases ha : noneBad b n with
  | false => rfl
  | true => rw [noneBad_at h ha] at hb; cases hb
theorem noneBad_of {b : Nat → Bool} : ∀ {n : Nat}, (∀ i, i < n → b i = false) → noneBad b n = true
  | 0, _ => rfl
  | n + 1, h => by simp only [noneBad, noneBad_of (n := n) fun i hi => h i (by omega), h n (by omega)]; rfl
def badA (all : List Int) (i : Nat) : Bool := !knownB (all.getD i 0) || decide (all.getD i 0 ∈ all.take i)
def badQ (all R : List Int) (i : Nat) : Bool := !decide (R.getD i 0 ∈ all) || (decide (0 < (i : Int)) && decide (R.getD i 0 ≤ R.getD (i - 1) 0))
def chkL (l : Ls) : Bool := noneBad (badA (l.A ++ l.I)) (l.A ++ l.I).length && noneBad (badQ (l.A ++ l.I) l.R) l.R.length
end Go.Proofs.Ytcifhjkodbaghaa

namespace Go.Proofs.Ytcifhjkodbaghaa
open Go Go.Sk Go.RowKit

/- pagecache/lru.Check -/
def rc42 : RC :=
  (.seq
  (.reg [⟨(some 1), none, (.box (.t 0))⟩,
    ⟨(some 2), none, (.mv (.c (.bool false)))⟩] [])
  (.seq
  (.reg [⟨(some 8), none, .mkmap⟩,
    ⟨(some 3), none, (.mv (.t 8))⟩] [8])
  (.seq
  (.seq
  (.dreg 3072 3200 [⟨(some 9), none, (.faddr 0 (.t 1))⟩,
    ⟨(some 10), none, (.ld false 1 (.t 9))⟩,
    ⟨(some 11), none, (.call 75 [(.t 10)])⟩,
    ⟨(some 12), none, (.faddr 1 (.t 1))⟩,
    ⟨(some 13), none, (.ld false 1 (.t 12))⟩,
    ⟨(some 14), none, (.app 1 8 (.t 11) (.t 13))⟩,
    ⟨(some 15), none, (.len (.t 14))⟩,
    ⟨(some 16), none, (.mv (.c (.int .i64 0)))⟩] [9, 10, 11, 12, 13] [[], [0], [1, 0], [], [3], [4, 3, 2, 0, 1], [5, 1, 0, 2, 3, 4], []] [3072, 3088, 3104, 3120, 3136, 3152, 3168, 3184])
  (.block 0
   (.loop
    (.seq
    (.reg [⟨(some 17), none, (.bin .lss (.t 16) (.t 15))⟩] [])
    (.seq
    (.cond (.t 17)
     .skip
     (.exit 0))
    (.seq
    (.block 1
     (.seq
     (.reg [⟨(some 18), none, (.iaddr 1 (.t 14) (.t 16))⟩,
       ⟨(some 19), none, (.ld false 1 (.t 18))⟩,
       ⟨(some 5), none, (.mv (.t 19))⟩] [18, 19])
     (.seq
     (.seq
     (.reg [⟨(some 20), none, (.mv (.t 5))⟩,
       ⟨(some 21), none, (.call 76 [(.t 20)])⟩,
       ⟨(some 22), none, (.un .not (.t 21))⟩,
       ⟨(some 23), none, (.mv (.t 22))⟩,
       ⟨(some 24), (some (23, false)), (.mv (.t 3))⟩,
       ⟨(some 25), (some (23, false)), (.mv (.t 5))⟩,
       ⟨(some 26), (some (23, false)), (.mget (.bool false) false (.t 24) (.t 25))⟩,
       ⟨(some 27), none, (.pick (.t 23) (.c (.bool true)) (.t 26))⟩] [20, 21, 22, 23, 24, 25, 26])
     (.cond (.t 27)
      (.seq
      (.reg [⟨(some 2), none, (.mv (.c (.bool false)))⟩] [])
      .ret)
      .skip))
     (.reg [⟨(some 28), none, (.mv (.t 3))⟩,
       ⟨(some 29), none, (.mv (.t 5))⟩,
       ⟨none, none, (.mput (.t 28) (.t 29) (.c (.bool true)))⟩] [28, 29]))))
    (.reg [⟨(some 30), none, (.bin .add (.t 16) (.c (.int .i64 1)))⟩,
      ⟨(some 16), none, (.mv (.t 30))⟩] [30])))))))
  (.seq
  (.seq
  (.reg [⟨(some 31), none, (.faddr 2 (.t 1))⟩,
    ⟨(some 32), none, (.ld false 1 (.t 31))⟩,
    ⟨(some 33), none, (.len (.t 32))⟩,
    ⟨(some 34), none, (.mv (.c (.int .i64 0)))⟩] [31])
  (.block 2
   (.loop
    (.seq
    (.reg [⟨(some 35), none, (.bin .lss (.t 34) (.t 33))⟩] [])
    (.seq
    (.cond (.t 35)
     .skip
     (.exit 2))
    (.seq
    (.block 3
     (.seq
     (.reg [⟨(some 36), none, (.mv (.t 34))⟩,
       ⟨(some 37), none, (.iaddr 1 (.t 32) (.t 34))⟩,
       ⟨(some 38), none, (.ld false 1 (.t 37))⟩,
       ⟨(some 6), none, (.mv (.t 36))⟩,
       ⟨(some 7), none, (.mv (.t 38))⟩] [36, 37, 38])
     (.seq
     (.reg [⟨(some 39), none, (.mv (.t 3))⟩,
       ⟨(some 40), none, (.mv (.t 7))⟩,
       ⟨(some 41), none, (.mget (.bool false) false (.t 39) (.t 40))⟩,
       ⟨(some 42), none, (.un .not (.t 41))⟩,
       ⟨(some 43), none, (.mv (.t 42))⟩,
       ⟨(some 44), (some (43, false)), (.mv (.t 6))⟩,
       ⟨(some 45), (some (43, false)), (.bin .gtr (.t 44) (.c (.int .i64 0)))⟩,
       ⟨(some 46), (some (43, false)), (.mv (.t 45))⟩,
       ⟨(some 47), (some (46, true)), (.faddr 2 (.t 1))⟩,
       ⟨(some 48), (some (46, true)), (.ld false 1 (.t 47))⟩,
       ⟨(some 49), (some (46, true)), (.mv (.t 6))⟩,
       ⟨(some 50), (some (46, true)), (.bin .sub (.t 49) (.c (.int .i64 1)))⟩,
       ⟨(some 51), (some (46, true)), (.iaddr 1 (.t 48) (.t 50))⟩,
       ⟨(some 52), (some (46, true)), (.ld false 1 (.t 51))⟩,
       ⟨(some 53), (some (46, true)), (.mv (.t 7))⟩,
       ⟨(some 54), (some (46, true)), (.bin .geq (.t 52) (.t 53))⟩,
       ⟨(some 55), (some (43, false)), (.pick (.t 46) (.t 54) (.c (.bool false)))⟩,
       ⟨(some 56), none, (.pick (.t 43) (.c (.bool true)) (.t 55))⟩] [39, 40, 41, 42, 43, 44, 45, 46, 47, 48, 49, 50, 51, 52, 53, 54, 55])
     (.cond (.t 56)
      (.seq
      (.reg [⟨(some 2), none, (.mv (.c (.bool false)))⟩] [])
      .ret)
      .skip))))
    (.reg [⟨(some 57), none, (.bin .add (.t 34) (.c (.int .i64 1)))⟩,
      ⟨(some 34), none, (.mv (.t 57))⟩] [57])))))))
  (.seq
  (.reg [⟨(some 2), none, (.mv (.c (.bool true)))⟩] [])
  .ret)))))
theorem rcq42 : resC Go.Proofs.Try.prog Go.Proofs.Try.f42.ntmps ((Go.Proofs.Try.f42.body).getD .skip) = some (strip rc42) := by kernel_rfl
def rv42 : List RV := [(.tmp 2)]
theorem rvq42 : Go.Proofs.Try.f42.results.toList.mapM (resRV Go.Proofs.Try.prog) = some rv42 := by kernel_rfl

theorem known_or (f : Int) : (decide (f < 1) || decide (64 < f)) = !knownB f := by
  unfold knownB
  by_cases h1 : f < 1 <;> by_cases h2 : 64 < f <;> simp [h1, h2] <;> omega
theorem rowsI_append (a b : List Int) : rowsI a ++ rowsI b = rowsI (a ++ b) := by rw [rowsI, rowsI, rowsI, List.map_append]
set_option maxRecDepth 20000 in
set_option maxHeartbeats 1000000 in
theorem ok42 (l : Ls) (hl : SmallL l) : FnC Try.prog 42 [] [.agg l.c] (.bool (chkL l)) [] := by
  have h1 := hl.a; have h2 := hl.i; have h3 := hl.r
  have hall : (l.A ++ l.I).length ≤ 20000 := by rw [List.length_append]; omega
  refine fn_okC (ob0 := []) (rc := rc42) (rvs := rv42) Try.func42 rfl rcq42 rvq42 (show 1 ≤ _ by decide) ?_
  generalize hk : chkL l = q
  repeat ((conv => whnf); first | refine Cd.seq ?_ | refine Cd.cut ?_ | refine Cd.reg ?_ | refine Cd.block ?_ | refine Cd.cond ?_ | refine Cd.dreg ?_ | refine Cd.skip ?_ | refine Cd.ret ?_ | refine Cd.exit ?_ | refine Cd.loop ?_ | refine ⟨rfl, ?_⟩ | refine ⟨Nat.le_of_ble_eq_true rfl, ?_⟩ | refine ⟨.inl rfl, ?_⟩ | refine ⟨fun h => Bool.noConfusion h, ?_⟩)
  conv => whnf
  refine .inr ⟨fun _ => ⟨[], _, _, _, ok75 (rowsI l.A) false (by rw [rowsI_len]; omega), trivial, rfl, rfl, rfl, rfl, ?_⟩, (by intro h; cases h)⟩
  rw [rowsI_len]
  repeat ((conv => whnf); first | refine Cd.seq ?_ | refine Cd.cut ?_ | refine Cd.reg ?_ | refine Cd.block ?_ | refine Cd.cond ?_ | refine Cd.dreg ?_ | refine Cd.skip ?_ | refine Cd.ret ?_ | refine Cd.exit ?_ | refine Cd.loop ?_ | refine ⟨rfl, ?_⟩ | refine ⟨Nat.le_of_ble_eq_true rfl, ?_⟩ | refine ⟨.inl rfl, ?_⟩ | refine ⟨fun h => Bool.noConfusion h, ?_⟩)
  conv => whnf
  refine ⟨by rw [rowsI_len], by rw [rowsI_len, rowsI_len]; omega, by rw [rowsI_len, rowsI_len]; omega, ?_⟩
  repeat ((conv => whnf); first | refine Cd.seq ?_ | refine Cd.cut ?_ | refine Cd.reg ?_ | refine Cd.block ?_ | refine Cd.cond ?_ | refine Cd.dreg ?_ | refine Cd.skip ?_ | refine Cd.ret ?_ | refine Cd.exit ?_ | refine Cd.loop ?_ | refine ⟨rfl, ?_⟩ | refine ⟨Nat.le_of_ble_eq_true rfl, ?_⟩ | refine ⟨.inl rfl, ?_⟩ | refine ⟨fun h => Bool.noConfusion h, ?_⟩)
  conv => whnf
  have hn : ((rowsI l.A).length + (rowsI l.I).length : Nat) = (l.A ++ l.I).length := by rw [rowsI_len, rowsI_len, List.length_append]
  rw [hn, rowsI_append]
  rw [chkL] at hk
  generalize l.A ++ l.I = all at hk hall ⊢
  refine ⟨Nat × List (Int × V), fun p => (p.1 ≤ all.length ∧ noneBad (badA all) p.1 = true) ∧ ∀ f, mgetV p.2 f (.bool false) = .bool (decide (f ∈ all.take p.1)), fun p => ⟨[(1, ⟨[], true, .ptr 0 0 0⟩), (3, ⟨[], true, .mp 1⟩), (14, ⟨[], true, .lst 1 false (rowsI all)⟩), (15, ⟨[], true, .int .i64 (all.length : Int)⟩), (16, ⟨[], true, .int .i64 (p.1 : Int)⟩)],
    [(0, .box l.c), (1, .mp p.2)], 2⟩, fun p => all.length - p.1, ⟨(0, []), ⟨⟨by simp, rfl⟩, fun f => by simp [mgetV]⟩, ?_⟩, fun p hp => ?_⟩
  · refine viewI [some 0, some 1] rfl rfl ?_ rfl ?_ rfl ?_
    repeat' (first | exact trivial | rfl | exact .inl rfl | exact .inr rfl | exact id | exact (fun h => Bool.noConfusion h) | refine And.intro ?_ ?_)
    · show 0 + all.length ≤ _
      rw [rowsI_len]; omega
    · exact take0 (rowsI_len _)
  obtain ⟨i, M⟩ := p
  obtain ⟨⟨hp1, hp2⟩, hM⟩ := hp
  dsimp only at hp1 hp2 hM ⊢
  repeat ((conv => whnf); first | refine Cd.seq ?_ | refine Cd.cut ?_ | refine Cd.reg ?_ | refine Cd.block ?_ | refine Cd.cond ?_ | refine Cd.dreg ?_ | refine Cd.skip ?_ | refine Cd.ret ?_ | refine Cd.exit ?_ | refine Cd.loop ?_ | refine ⟨rfl, ?_⟩ | refine ⟨Nat.le_of_ble_eq_true rfl, ?_⟩ | refine ⟨.inl rfl, ?_⟩ | refine ⟨fun h => Bool.noConfusion h, ?_⟩)
  conv => whnf
  refine ⟨fun b1 => ?_, fun b1 => ?_⟩ <;> try simp only [Bool.cond_true_left, Bool.cond_false_right, Bool.not_eq_true', Bool.not_eq_false', Bool.not_not] at b1
  · have b1 : i < all.length := by simp at b1; omega
    have hi1 : IntKind.i64.wrap ((i : Int) + 1) = ((i + 1 : Nat) : Int) := by rw [wrapI (by omega) (by omega)]; omega
    repeat ((conv => whnf); first | refine Cd.seq ?_ | refine Cd.cut ?_ | refine Cd.reg ?_ | refine Cd.block ?_ | refine Cd.cond ?_ | refine Cd.dreg ?_ | refine Cd.skip ?_ | refine Cd.ret ?_ | refine Cd.exit ?_ | refine Cd.loop ?_ | refine ⟨rfl, ?_⟩ | refine ⟨Nat.le_of_ble_eq_true rfl, ?_⟩ | refine ⟨.inl rfl, ?_⟩ | refine ⟨fun h => Bool.noConfusion h, ?_⟩)
    conv => whnf
    refine ⟨fun _ => ⟨rfl, by omega, by rw [rowsI_len]; omega⟩, ?_⟩
    rw [rowsI_getK all i b1]
    have hbd : badA all i = (!knownB (all.getD i 0) || decide (all.getD i 0 ∈ all.take i)) := rfl
    have hmem : ∀ y, y ∈ all.take (i + 1) ↔ y ∈ all.take i ∨ y = all.getD i 0 := fun y => by
      rw [List.take_succ_eq_append_getElem b1, List.mem_append, List.mem_singleton, getI all i b1]
    generalize all.getD i 0 = f at hbd hmem ⊢
    repeat ((conv => whnf); first | refine Cd.seq ?_ | refine Cd.cut ?_ | refine Cd.reg ?_ | refine Cd.block ?_ | refine Cd.cond ?_ | refine Cd.dreg ?_ | refine Cd.skip ?_ | refine Cd.ret ?_ | refine Cd.exit ?_ | refine Cd.loop ?_ | refine ⟨rfl, ?_⟩ | refine ⟨Nat.le_of_ble_eq_true rfl, ?_⟩ | refine ⟨.inl rfl, ?_⟩ | refine ⟨fun h => Bool.noConfusion h, ?_⟩ | refine .inl ⟨_, fun _ => ⟨purA rfl, (by first | exact ok76 f)⟩, .inl rfl, ?_⟩)
    conv => whnf
    rw [hM f]
    repeat ((conv => whnf); first | refine Cd.seq ?_ | refine Cd.cut ?_ | refine Cd.reg ?_ | refine Cd.block ?_ | refine Cd.cond ?_ | refine Cd.dreg ?_ | refine Cd.skip ?_ | refine Cd.ret ?_ | refine Cd.exit ?_ | refine Cd.loop ?_ | refine ⟨rfl, ?_⟩ | refine ⟨Nat.le_of_ble_eq_true rfl, ?_⟩ | refine ⟨.inl rfl, ?_⟩ | refine ⟨fun h => Bool.noConfusion h, ?_⟩)
    conv => whnf
    refine ⟨fun b2 => ?_, fun b2 => ?_⟩ <;> try simp only [Bool.cond_true_left, Bool.cond_false_right, Bool.not_eq_true', Bool.not_eq_false', Bool.not_not] at b2
    · have b2 : badA all i = true := by rw [hbd, ← b2]
      rw [noneBad_bad b1 b2] at hk
      have hk : q = false := by rw [← hk]; rfl
      subst hk
      repeat ((conv => whnf); first | refine Cd.seq ?_ | refine Cd.cut ?_ | refine Cd.reg ?_ | refine Cd.block ?_ | refine Cd.cond ?_ | refine Cd.dreg ?_ | refine Cd.skip ?_ | refine Cd.ret ?_ | refine Cd.exit ?_ | refine Cd.loop ?_ | refine ⟨rfl, ?_⟩ | refine ⟨Nat.le_of_ble_eq_true rfl, ?_⟩ | refine ⟨.inl rfl, ?_⟩ | refine ⟨fun h => Bool.noConfusion h, ?_⟩)
      conv => whnf
      refine ⟨[], ?_, rfl, trivial, rfl, ?_⟩
      · exact trivial
      try subst hk
      repeat' (first | exact trivial | rfl | exact .inl rfl | exact .inr rfl | exact id | exact (fun h => Bool.noConfusion h) | refine And.intro ?_ ?_)
    have b2 : badA all i = false := by rw [hbd, ← b2]
    repeat ((conv => whnf); first | refine Cd.seq ?_ | refine Cd.cut ?_ | refine Cd.reg ?_ | refine Cd.block ?_ | refine Cd.cond ?_ | refine Cd.dreg ?_ | refine Cd.skip ?_ | refine Cd.ret ?_ | refine Cd.exit ?_ | refine Cd.loop ?_ | refine ⟨rfl, ?_⟩ | refine ⟨Nat.le_of_ble_eq_true rfl, ?_⟩ | refine ⟨.inl rfl, ?_⟩ | refine ⟨fun h => Bool.noConfusion h, ?_⟩)
    conv => whnf
    rw [hi1]
    refine ⟨(i + 1, msetV M f (.bool true)), ⟨⟨by show i + 1 ≤ _; omega, by show noneBad (badA all) (i + 1) = true; simp only [noneBad, hp2, b2]; rfl⟩, fun y => ?_⟩, ?_, by show all.length - (i + 1) < all.length - i; omega⟩
    · show mgetV (msetV M f (.bool true)) y (.bool false) = .bool (decide (y ∈ all.take (i + 1)))
      rw [mgetV_set, hM y]
      by_cases e : y = f
      · rw [if_pos e, show decide (y ∈ all.take (i + 1)) = true by rw [decide_eq_true_eq, hmem]; exact .inr e]
      · rw [if_neg e]
        congr 1
        exact decide_eq_decide.2 (by rw [hmem]; exact ⟨.inl, fun h => h.resolve_right e⟩)
    refine viewI [some 0, some 1] rfl rfl ?_ rfl ?_ rfl ?_
    repeat' (first | exact trivial | rfl | exact .inl rfl | exact .inr rfl | exact id | exact (fun h => Bool.noConfusion h) | refine And.intro ?_ ?_)
  have b1 : i = all.length := by simp at b1; omega
  subst b1
  rw [List.take_length] at hM
  rw [hp2, Bool.true_and] at hk
  repeat ((conv => whnf); first | refine Cd.seq ?_ | refine Cd.cut ?_ | refine Cd.reg ?_ | refine Cd.block ?_ | refine Cd.cond ?_ | refine Cd.dreg ?_ | refine Cd.skip ?_ | refine Cd.ret ?_ | refine Cd.exit ?_ | refine Cd.loop ?_ | refine ⟨rfl, ?_⟩ | refine ⟨Nat.le_of_ble_eq_true rfl, ?_⟩ | refine ⟨.inl rfl, ?_⟩ | refine ⟨fun h => Bool.noConfusion h, ?_⟩)
  conv => whnf
  rw [rowsI_len]
  refine ⟨Nat, fun j => j ≤ l.R.length ∧ noneBad (badQ all l.R) j = true, fun j => ⟨[(1, ⟨[], true, .ptr 0 0 0⟩), (3, ⟨[], true, .mp 1⟩), (32, ⟨[], true, .lst 1 false (rowsI l.R)⟩), (33, ⟨[], true, .int .i64 (l.R.length : Int)⟩), (34, ⟨[], true, .int .i64 (j : Int)⟩)],
    [(0, .box l.c), (1, .mp M)], 2⟩, fun j => l.R.length - j, ⟨0, ⟨by omega, rfl⟩, ?_⟩, fun j hj => ?_⟩
  · refine viewI [some 0, some 1] rfl rfl ?_ rfl ?_ rfl ?_
    repeat' (first | exact trivial | rfl | exact .inl rfl | exact .inr rfl | exact id | exact (fun h => Bool.noConfusion h) | refine And.intro ?_ ?_)
  obtain ⟨hj1, hj2⟩ := hj
  repeat ((conv => whnf); first | refine Cd.seq ?_ | refine Cd.cut ?_ | refine Cd.reg ?_ | refine Cd.block ?_ | refine Cd.cond ?_ | refine Cd.dreg ?_ | refine Cd.skip ?_ | refine Cd.ret ?_ | refine Cd.exit ?_ | refine Cd.loop ?_ | refine ⟨rfl, ?_⟩ | refine ⟨Nat.le_of_ble_eq_true rfl, ?_⟩ | refine ⟨.inl rfl, ?_⟩ | refine ⟨fun h => Bool.noConfusion h, ?_⟩)
  conv => whnf
  refine ⟨fun c1 => ?_, fun c1 => ?_⟩ <;> try simp only [Bool.cond_true_left, Bool.cond_false_right, Bool.not_eq_true', Bool.not_eq_false', Bool.not_not] at c1
  · have c1 : j < l.R.length := by simp at c1; omega
    have hj3 : IntKind.i64.wrap ((j : Int) + 1) = ((j + 1 : Nat) : Int) := by rw [wrapI (by omega) (by omega)]; omega
    repeat ((conv => whnf); first | refine Cd.seq ?_ | refine Cd.cut ?_ | refine Cd.reg ?_ | refine Cd.block ?_ | refine Cd.cond ?_ | refine Cd.dreg ?_ | refine Cd.skip ?_ | refine Cd.ret ?_ | refine Cd.exit ?_ | refine Cd.loop ?_ | refine ⟨rfl, ?_⟩ | refine ⟨Nat.le_of_ble_eq_true rfl, ?_⟩ | refine ⟨.inl rfl, ?_⟩ | refine ⟨fun h => Bool.noConfusion h, ?_⟩)
    conv => whnf
    refine ⟨fun _ => ⟨rfl, by omega, by rw [rowsI_len]; omega⟩, ?_⟩
    rw [rowsI_getK l.R j c1]
    repeat ((conv => whnf); first | refine Cd.seq ?_ | refine Cd.cut ?_ | refine Cd.reg ?_ | refine Cd.block ?_ | refine Cd.cond ?_ | refine Cd.dreg ?_ | refine Cd.skip ?_ | refine Cd.ret ?_ | refine Cd.exit ?_ | refine Cd.loop ?_ | refine ⟨rfl, ?_⟩ | refine ⟨Nat.le_of_ble_eq_true rfl, ?_⟩ | refine ⟨.inl rfl, ?_⟩ | refine ⟨fun h => Bool.noConfusion h, ?_⟩)
    conv => whnf
    rw [hM]
    repeat ((conv => whnf); first | refine Cd.seq ?_ | refine Cd.cut ?_ | refine Cd.reg ?_ | refine Cd.block ?_ | refine Cd.cond ?_ | refine Cd.dreg ?_ | refine Cd.skip ?_ | refine Cd.ret ?_ | refine Cd.exit ?_ | refine Cd.loop ?_ | refine ⟨rfl, ?_⟩ | refine ⟨Nat.le_of_ble_eq_true rfl, ?_⟩ | refine ⟨.inl rfl, ?_⟩ | refine ⟨fun h => Bool.noConfusion h, ?_⟩)
    conv => whnf
    rw [prev_nat j (by omega), prev_int j (by omega)]
    refine ⟨fun hg => ⟨rfl, ?_, by rw [rowsI_len]; omega⟩, ?_⟩
    · simp only [Bool.and_eq_true, decide_eq_true_eq] at hg; omega
    rw [rowsI_get l.R (j - 1) (by omega), getI l.R (j - 1) (by omega)]
    repeat ((conv => whnf); first | refine Cd.seq ?_ | refine Cd.cut ?_ | refine Cd.reg ?_ | refine Cd.block ?_ | refine Cd.cond ?_ | refine Cd.dreg ?_ | refine Cd.skip ?_ | refine Cd.ret ?_ | refine Cd.exit ?_ | refine Cd.loop ?_ | refine ⟨rfl, ?_⟩ | refine ⟨Nat.le_of_ble_eq_true rfl, ?_⟩ | refine ⟨.inl rfl, ?_⟩ | refine ⟨fun h => Bool.noConfusion h, ?_⟩)
    conv => whnf
    have hbd : badQ all l.R j = (!decide (l.R.getD j 0 ∈ all) || (decide (0 < (j : Int)) && decide (l.R.getD j 0 ≤ l.R.getD (j - 1) 0))) := rfl
    refine ⟨fun c2 => ?_, fun c2 => ?_⟩ <;> try simp only [Bool.cond_true_left, Bool.cond_false_right, Bool.not_eq_true', Bool.not_eq_false', Bool.not_not] at c2
    · have c2 : badQ all l.R j = true := by rw [hbd, ← c2]
      rw [noneBad_bad c1 c2] at hk
      subst hk
      repeat ((conv => whnf); first | refine Cd.seq ?_ | refine Cd.cut ?_ | refine Cd.reg ?_ | refine Cd.block ?_ | refine Cd.cond ?_ | refine Cd.dreg ?_ | refine Cd.skip ?_ | refine Cd.ret ?_ | refine Cd.exit ?_ | refine Cd.loop ?_ | refine ⟨rfl, ?_⟩ | refine ⟨Nat.le_of_ble_eq_true rfl, ?_⟩ | refine ⟨.inl rfl, ?_⟩ | refine ⟨fun h => Bool.noConfusion h, ?_⟩)
      conv => whnf
      refine ⟨[], ?_, rfl, trivial, rfl, ?_⟩
      · exact trivial
      try subst hk
      repeat' (first | exact trivial | rfl | exact .inl rfl | exact .inr rfl | exact id | exact (fun h => Bool.noConfusion h) | refine And.intro ?_ ?_)
    have c2 : badQ all l.R j = false := by rw [hbd, ← c2]
    repeat ((conv => whnf); first | refine Cd.seq ?_ | refine Cd.cut ?_ | refine Cd.reg ?_ | refine Cd.block ?_ | refine Cd.cond ?_ | refine Cd.dreg ?_ | refine Cd.skip ?_ | refine Cd.ret ?_ | refine Cd.exit ?_ | refine Cd.loop ?_ | refine ⟨rfl, ?_⟩ | refine ⟨Nat.le_of_ble_eq_true rfl, ?_⟩ | refine ⟨.inl rfl, ?_⟩ | refine ⟨fun h => Bool.noConfusion h, ?_⟩)
    conv => whnf
    rw [hj3]
    refine ⟨j + 1, ⟨by show j + 1 ≤ _; omega, by simp only [noneBad, hj2, c2]; rfl⟩, ?_, by show l.R.length - (j + 1) < l.R.length - j; omega⟩
    refine viewI [some 0, some 1] rfl rfl ?_ rfl ?_ rfl ?_
    repeat' (first | exact trivial | rfl | exact .inl rfl | exact .inr rfl | exact id | exact (fun h => Bool.noConfusion h) | refine And.intro ?_ ?_)
  have c1 : j = l.R.length := by simp at c1; omega
  rw [← c1, hj2] at hk
  subst hk
  repeat ((conv => whnf); first | refine Cd.seq ?_ | refine Cd.cut ?_ | refine Cd.reg ?_ | refine Cd.block ?_ | refine Cd.cond ?_ | refine Cd.dreg ?_ | refine Cd.skip ?_ | refine Cd.ret ?_ | refine Cd.exit ?_ | refine Cd.loop ?_ | refine ⟨rfl, ?_⟩ | refine ⟨Nat.le_of_ble_eq_true rfl, ?_⟩ | refine ⟨.inl rfl, ?_⟩ | refine ⟨fun h => Bool.noConfusion h, ?_⟩)
  conv => whnf
  refine ⟨[], ?_, rfl, trivial, rfl, ?_⟩
  · exact trivial
  try subst hk
  repeat' (first | exact trivial | rfl | exact .inl rfl | exact .inr rfl | exact id | exact (fun h => Bool.noConfusion h) | refine And.intro ?_ ?_)
end Go.Proofs.Ytcifhjkodbaghaa

namespace Go.Proofs.Ytcifhjkodbaghaa
open Go Go.Sk Go.RowKit

/- pagecache/pagecacheref08.Check -/
def rc43 : RC :=
  (.seq
  (.reg [⟨(some 1), none, (.box (.t 0))⟩,
    ⟨(some 2), none, (.mv (.c (.bool false)))⟩] [])
  (.seq
  (.dreg 2048 2160 [⟨(some 6), none, (.faddr 0 (.t 1))⟩,
    ⟨(some 7), none, (.ld false 1 (.t 6))⟩,
    ⟨(some 8), none, (.app 1 8 (.c (.lst 0 true [])) (.t 7))⟩,
    ⟨(some 9), none, (.faddr 1 (.t 1))⟩,
    ⟨(some 10), none, (.ld false 1 (.t 9))⟩,
    ⟨(some 11), none, (.app 1 8 (.t 8) (.t 10))⟩,
    ⟨(some 3), none, (.mv (.t 11))⟩] [6, 7, 8, 9, 10, 11] [[], [0], [1, 0], [], [3], [4, 3, 2, 0, 1], [5, 1, 0, 2, 3, 4]] [2048, 2064, 2080, 2096, 2112, 2128, 2144])
  (.seq
  (.seq
  (.reg [⟨(some 4), none, (.mv (.c (.int .i64 0)))⟩] [])
  (.block 0
   (.loop
    (.seq
    (.seq
    (.reg [⟨(some 12), none, (.mv (.t 4))⟩,
      ⟨(some 13), none, (.mv (.t 3))⟩,
      ⟨(some 14), none, (.len (.t 13))⟩,
      ⟨(some 15), none, (.bin .lss (.t 12) (.t 14))⟩] [12, 13, 14])
    (.cond (.t 15)
     .skip
     (.exit 0)))
    (.seq
    (.block 1
     (.seq
     (.dreg 6144 6512 [⟨(some 18), none, (.mv (.t 3))⟩,
       ⟨(some 19), none, (.mv (.t 4))⟩,
       ⟨(some 20), none, (.iaddr 1 (.t 18) (.t 19))⟩,
       ⟨(some 21), none, (.ld false 1 (.t 20))⟩,
       ⟨(some 22), none, (.bin .lss (.t 21) (.c (.int .i64 1)))⟩,
       ⟨(some 23), none, (.mv (.t 22))⟩,
       ⟨(some 24), (some (23, false)), (.mv (.t 3))⟩,
       ⟨(some 25), (some (23, false)), (.mv (.t 4))⟩,
       ⟨(some 26), (some (23, false)), (.iaddr 1 (.t 24) (.t 25))⟩,
       ⟨(some 27), (some (23, false)), (.ld false 1 (.t 26))⟩,
       ⟨(some 28), (some (23, false)), (.bin .gtr (.t 27) (.c (.int .i64 64)))⟩,
       ⟨(some 29), none, (.pick (.t 23) (.c (.bool true)) (.t 28))⟩,
       ⟨(some 30), none, (.mv (.t 29))⟩,
       ⟨(some 31), (some (30, false)), (.mv (.t 3))⟩,
       ⟨(some 32), (some (30, false)), (.mv (.t 4))⟩,
       ⟨(some 33), (some (30, false)), (.slc 1 (.t 31) none (some (.t 32)))⟩,
       ⟨(some 34), (some (30, false)), (.mv (.t 3))⟩,
       ⟨(some 35), (some (30, false)), (.mv (.t 4))⟩,
       ⟨(some 36), (some (30, false)), (.iaddr 1 (.t 34) (.t 35))⟩,
       ⟨(some 37), (some (30, false)), (.ld false 1 (.t 36))⟩,
       ⟨(some 38), (some (30, false)), (.call 54 [(.t 33), (.t 37)])⟩,
       ⟨(some 39), (some (30, false)), (.bin .geq (.t 38) (.c (.int .i64 0)))⟩,
       ⟨(some 40), none, (.pick (.t 30) (.c (.bool true)) (.t 39))⟩] [18, 19, 20, 21, 22, 23, 24, 25, 26, 27, 28, 29, 30, 31, 32, 33, 34, 35, 36, 37, 38, 39] [[], [], [0, 1], [2, 1, 0], [3, 0, 1, 2], [4, 2, 1, 0, 3], [5, 3, 0, 1, 2, 4], [5, 3, 0, 1, 2, 4], [6, 7, 5, 3, 0, 1, 2, 4], [8, 7, 6, 5, 3, 0, 1, 2, 4], [9, 6, 7, 8, 5, 3, 0, 1, 2, 4], [10, 4, 2, 1, 0, 3, 5, 8, 7, 6, 9], [11, 9, 6, 7, 8, 10, 5, 3, 0, 1, 2, 4], [12, 4, 2, 1, 0, 3, 5, 10, 8, 7, 6, 9, 11], [12, 4, 2, 1, 0, 3, 5, 10, 8, 7, 6, 9, 11], [13, 14, 12, 4, 2, 1, 0, 3, 5, 10, 8, 7, 6, 9, 11], [12, 4, 2, 1, 0, 3, 5, 10, 8, 7, 6, 9, 11], [12, 4, 2, 1, 0, 3, 5, 10, 8, 7, 6, 9, 11], [16, 17, 12, 4, 2, 1, 0, 3, 5, 10, 8, 7, 6, 9, 11], [18, 17, 16, 12, 4, 2, 1, 0, 3, 5, 10, 8, 7, 6, 9, 11], [15, 14, 13, 19, 16, 17, 18, 12, 4, 2, 1, 0, 3, 5, 10, 8, 7, 6, 9, 11], [20, 18, 17, 16, 19, 13, 14, 15, 12, 4, 2, 1, 0, 3, 5, 10, 8, 7, 6, 9, 11], [21, 11, 9, 6, 7, 8, 10, 5, 3, 0, 1, 2, 4, 12, 15, 14, 13, 19, 16, 17, 18, 20]] [6144, 6160, 6176, 6192, 6208, 6224, 6240, 6256, 6272, 6288, 6304, 6320, 6336, 6352, 6368, 6384, 6400, 6416, 6432, 6448, 6464, 6480, 6496])
     (.cond (.t 40)
      (.seq
      (.reg [⟨(some 2), none, (.mv (.c (.bool false)))⟩] [])
      .ret)
      .skip)))
    (.reg [⟨(some 16), none, (.mv (.t 4))⟩,
      ⟨(some 17), none, (.bin .add (.t 16) (.c (.int .i64 1)))⟩,
      ⟨(some 4), none, (.mv (.t 17))⟩] [16, 17]))))))
  (.seq
  (.seq
  (.reg [⟨(some 5), none, (.mv (.c (.int .i64 0)))⟩] [])
  (.block 2
   (.loop
    (.seq
    (.seq
    (.reg [⟨(some 41), none, (.mv (.t 5))⟩,
      ⟨(some 42), none, (.faddr 2 (.t 1))⟩,
      ⟨(some 43), none, (.ld false 1 (.t 42))⟩,
      ⟨(some 44), none, (.len (.t 43))⟩,
      ⟨(some 45), none, (.bin .lss (.t 41) (.t 44))⟩] [41, 42, 43, 44])
    (.cond (.t 45)
     .skip
     (.exit 2)))
    (.seq
    (.block 3
     (.seq
     (.dreg 11264 11680 [⟨(some 48), none, (.mv (.t 3))⟩,
       ⟨(some 49), none, (.faddr 2 (.t 1))⟩,
       ⟨(some 50), none, (.ld false 1 (.t 49))⟩,
       ⟨(some 51), none, (.mv (.t 5))⟩,
       ⟨(some 52), none, (.iaddr 1 (.t 50) (.t 51))⟩,
       ⟨(some 53), none, (.ld false 1 (.t 52))⟩,
       ⟨(some 54), none, (.call 54 [(.t 48), (.t 53)])⟩,
       ⟨(some 55), none, (.bin .lss (.t 54) (.c (.int .i64 0)))⟩,
       ⟨(some 56), none, (.mv (.t 55))⟩,
       ⟨(some 57), (some (56, false)), (.mv (.t 5))⟩,
       ⟨(some 58), (some (56, false)), (.bin .gtr (.t 57) (.c (.int .i64 0)))⟩,
       ⟨(some 59), (some (56, false)), (.mv (.t 58))⟩,
       ⟨(some 60), (some (59, true)), (.faddr 2 (.t 1))⟩,
       ⟨(some 61), (some (59, true)), (.ld false 1 (.t 60))⟩,
       ⟨(some 62), (some (59, true)), (.mv (.t 5))⟩,
       ⟨(some 63), (some (59, true)), (.iaddr 1 (.t 61) (.t 62))⟩,
       ⟨(some 64), (some (59, true)), (.ld false 1 (.t 63))⟩,
       ⟨(some 65), (some (59, true)), (.faddr 2 (.t 1))⟩,
       ⟨(some 66), (some (59, true)), (.ld false 1 (.t 65))⟩,
       ⟨(some 67), (some (59, true)), (.mv (.t 5))⟩,
       ⟨(some 68), (some (59, true)), (.bin .sub (.t 67) (.c (.int .i64 1)))⟩,
       ⟨(some 69), (some (59, true)), (.iaddr 1 (.t 66) (.t 68))⟩,
       ⟨(some 70), (some (59, true)), (.ld false 1 (.t 69))⟩,
       ⟨(some 71), (some (59, true)), (.bin .leq (.t 64) (.t 70))⟩,
       ⟨(some 72), (some (56, false)), (.pick (.t 59) (.t 71) (.c (.bool false)))⟩,
       ⟨(some 73), none, (.pick (.t 56) (.c (.bool true)) (.t 72))⟩] [48, 49, 50, 51, 52, 53, 54, 55, 56, 57, 58, 59, 60, 61, 62, 63, 64, 65, 66, 67, 68, 69, 70, 71, 72] [[], [], [1], [], [2, 1, 3], [4, 3, 1, 2], [0, 5, 2, 1, 3, 4], [6, 4, 3, 1, 2, 5, 0], [7, 6, 4, 3, 1, 2, 5, 0], [8, 0, 5, 2, 1, 3, 4, 6, 7], [9, 8, 0, 5, 2, 1, 3, 4, 6, 7], [10, 9, 8, 0, 5, 2, 1, 3, 4, 6, 7], [11, 7, 6, 4, 3, 1, 2, 5, 0, 8, 9, 10], [12, 11, 7, 6, 4, 3, 1, 2, 5, 0, 8, 9, 10], [11, 7, 6, 4, 3, 1, 2, 5, 0, 8, 9, 10], [13, 12, 14, 11, 7, 6, 4, 3, 1, 2, 5, 0, 8, 9, 10], [15, 14, 12, 13, 11, 7, 6, 4, 3, 1, 2, 5, 0, 8, 9, 10], [11, 7, 6, 4, 3, 1, 2, 5, 0, 8, 9, 10], [17, 11, 7, 6, 4, 3, 1, 2, 5, 0, 8, 9, 10], [11, 7, 6, 4, 3, 1, 2, 5, 0, 8, 9, 10], [19, 11, 7, 6, 4, 3, 1, 2, 5, 0, 8, 9, 10], [18, 17, 20, 19, 11, 7, 6, 4, 3, 1, 2, 5, 0, 8, 9, 10], [21, 19, 20, 17, 18, 11, 7, 6, 4, 3, 1, 2, 5, 0, 8, 9, 10], [16, 13, 12, 14, 15, 22, 18, 17, 20, 19, 21, 11, 7, 6, 4, 3, 1, 2, 5, 0, 8, 9, 10], [23, 10, 9, 11, 21, 19, 20, 17, 18, 22, 15, 14, 12, 13, 16, 8, 0, 5, 2, 1, 3, 4, 6, 7], [24, 7, 6, 4, 3, 1, 2, 5, 0, 8, 16, 13, 12, 14, 15, 22, 18, 17, 20, 19, 21, 11, 9, 10, 23]] [11264, 11280, 11296, 11312, 11328, 11344, 11360, 11376, 11392, 11408, 11424, 11440, 11456, 11472, 11488, 11504, 11520, 11536, 11552, 11568, 11584, 11600, 11616, 11632, 11648, 11664])
     (.cond (.t 73)
      (.seq
      (.reg [⟨(some 2), none, (.mv (.c (.bool false)))⟩] [])
      .ret)
      .skip)))
    (.reg [⟨(some 46), none, (.mv (.t 5))⟩,
      ⟨(some 47), none, (.bin .add (.t 46) (.c (.int .i64 1)))⟩,
      ⟨(some 5), none, (.mv (.t 47))⟩] [46, 47]))))))
  (.seq
  (.reg [⟨(some 2), none, (.mv (.c (.bool true)))⟩] [])
  .ret)))))
theorem rcq43 : resC Go.Proofs.Try.prog Go.Proofs.Try.f43.ntmps ((Go.Proofs.Try.f43.body).getD .skip) = some (strip rc43) := by kernel_rfl
def rv43 : List RV := [(.tmp 2)]
theorem rvq43 : Go.Proofs.Try.f43.results.toList.mapM (resRV Go.Proofs.Try.prog) = some rv43 := by kernel_rfl

set_option maxRecDepth 20000 in
set_option maxHeartbeats 1000000 in
theorem ok43 (l : Ls) (hl : SmallL l) : FnC Try.prog 43 [] [.agg l.c] (.bool (chkL l)) [] := by
  have h1 := hl.a; have h2 := hl.i; have h3 := hl.r
  have hall : (l.A ++ l.I).length ≤ 20000 := by rw [List.length_append]; omega
  refine fn_okC (ob0 := []) (rc := rc43) (rvs := rv43) Try.func43 rfl rcq43 rvq43 (show 1 ≤ _ by decide) ?_
  generalize hk : chkL l = q
  repeat ((conv => whnf); first | refine Cd.seq ?_ | refine Cd.cut ?_ | refine Cd.reg ?_ | refine Cd.block ?_ | refine Cd.cond ?_ | refine Cd.dreg ?_ | refine Cd.skip ?_ | refine Cd.ret ?_ | refine Cd.exit ?_ | refine Cd.loop ?_ | refine ⟨rfl, ?_⟩ | refine ⟨Nat.le_of_ble_eq_true rfl, ?_⟩ | refine ⟨.inl rfl, ?_⟩ | refine ⟨fun h => Bool.noConfusion h, ?_⟩)
  conv => whnf
  refine ⟨by rw [rowsI_len]; omega, by rw [rowsI_len]; omega, ?_⟩
  repeat ((conv => whnf); first | refine Cd.seq ?_ | refine Cd.cut ?_ | refine Cd.reg ?_ | refine Cd.block ?_ | refine Cd.cond ?_ | refine Cd.dreg ?_ | refine Cd.skip ?_ | refine Cd.ret ?_ | refine Cd.exit ?_ | refine Cd.loop ?_ | refine ⟨rfl, ?_⟩ | refine ⟨Nat.le_of_ble_eq_true rfl, ?_⟩ | refine ⟨.inl rfl, ?_⟩ | refine ⟨fun h => Bool.noConfusion h, ?_⟩)
  conv => whnf
  refine ⟨by rw [rowsI_len, rowsI_len]; omega, by rw [rowsI_len, rowsI_len]; omega, ?_⟩
  repeat ((conv => whnf); first | refine Cd.seq ?_ | refine Cd.cut ?_ | refine Cd.reg ?_ | refine Cd.block ?_ | refine Cd.cond ?_ | refine Cd.dreg ?_ | refine Cd.skip ?_ | refine Cd.ret ?_ | refine Cd.exit ?_ | refine Cd.loop ?_ | refine ⟨rfl, ?_⟩ | refine ⟨Nat.le_of_ble_eq_true rfl, ?_⟩ | refine ⟨.inl rfl, ?_⟩ | refine ⟨fun h => Bool.noConfusion h, ?_⟩)
  conv => whnf
  have hn : ((rowsI l.A).length + (rowsI l.I).length : Nat) = (l.A ++ l.I).length := by rw [rowsI_len, rowsI_len, List.length_append]
  rw [hn, rowsI_append]
  rw [chkL] at hk
  generalize l.A ++ l.I = all at hk hall ⊢
  refine ⟨Nat, fun i => i ≤ all.length ∧ noneBad (badA all) i = true, fun i => ⟨[(1, ⟨[], true, .ptr 0 0 0⟩), (3, ⟨[], true, .lst 1 false (rowsI all)⟩), (4, ⟨[], true, .int .i64 (i : Int)⟩)],
    [(0, .box l.c)], 1⟩, fun i => all.length - i, ⟨0, ⟨by omega, rfl⟩, ?_⟩, fun i hi => ?_⟩
  · refine viewI [some 0] rfl rfl ?_ rfl ?_ rfl ?_
    repeat' (first | exact trivial | rfl | exact .inl rfl | exact .inr rfl | exact id | exact (fun h => Bool.noConfusion h) | refine And.intro ?_ ?_)
    · show 0 + all.length ≤ _
      rw [rowsI_len]; omega
    · exact take0 (rowsI_len _)
  obtain ⟨hp1, hp2⟩ := hi
  repeat ((conv => whnf); first | refine Cd.seq ?_ | refine Cd.cut ?_ | refine Cd.reg ?_ | refine Cd.block ?_ | refine Cd.cond ?_ | refine Cd.dreg ?_ | refine Cd.skip ?_ | refine Cd.ret ?_ | refine Cd.exit ?_ | refine Cd.loop ?_ | refine ⟨rfl, ?_⟩ | refine ⟨Nat.le_of_ble_eq_true rfl, ?_⟩ | refine ⟨.inl rfl, ?_⟩ | refine ⟨fun h => Bool.noConfusion h, ?_⟩)
  conv => whnf
  rw [rowsI_len]
  refine ⟨fun b1 => ?_, fun b1 => ?_⟩ <;> try simp only [Bool.cond_true_left, Bool.cond_false_right, Bool.not_eq_true', Bool.not_eq_false', Bool.not_not] at b1
  · have b1 : i < all.length := by simp at b1; omega
    have hi1 : IntKind.i64.wrap ((i : Int) + 1) = ((i + 1 : Nat) : Int) := by rw [wrapI (by omega) (by omega)]; omega
    repeat ((conv => whnf); first | refine Cd.seq ?_ | refine Cd.cut ?_ | refine Cd.reg ?_ | refine Cd.block ?_ | refine Cd.cond ?_ | refine Cd.dreg ?_ | refine Cd.skip ?_ | refine Cd.ret ?_ | refine Cd.exit ?_ | refine Cd.loop ?_ | refine ⟨rfl, ?_⟩ | refine ⟨Nat.le_of_ble_eq_true rfl, ?_⟩ | refine ⟨.inl rfl, ?_⟩ | refine ⟨fun h => Bool.noConfusion h, ?_⟩)
    conv => whnf
    refine ⟨fun _ => ⟨rfl, by omega, by rw [rowsI_len]; omega⟩, ?_⟩
    rw [rowsI_getK all i b1]
    repeat ((conv => whnf); first | refine Cd.seq ?_ | refine Cd.cut ?_ | refine Cd.reg ?_ | refine Cd.block ?_ | refine Cd.cond ?_ | refine Cd.dreg ?_ | refine Cd.skip ?_ | refine Cd.ret ?_ | refine Cd.exit ?_ | refine Cd.loop ?_ | refine ⟨rfl, ?_⟩ | refine ⟨Nat.le_of_ble_eq_true rfl, ?_⟩ | refine ⟨.inl rfl, ?_⟩ | refine ⟨fun h => Bool.noConfusion h, ?_⟩)
    conv => whnf
    refine ⟨fun _ => ⟨rfl, by omega, by rw [rowsI_len]; omega⟩, ?_⟩
    rw [rowsI_getK all i b1]
    repeat ((conv => whnf); first | refine Cd.seq ?_ | refine Cd.cut ?_ | refine Cd.reg ?_ | refine Cd.block ?_ | refine Cd.cond ?_ | refine Cd.dreg ?_ | refine Cd.skip ?_ | refine Cd.ret ?_ | refine Cd.exit ?_ | refine Cd.loop ?_ | refine ⟨rfl, ?_⟩ | refine ⟨Nat.le_of_ble_eq_true rfl, ?_⟩ | refine ⟨.inl rfl, ?_⟩ | refine ⟨fun h => Bool.noConfusion h, ?_⟩)
    conv => whnf
    refine ⟨fun _ => ⟨.inl rfl, Int.le_refl _, by omega, by rw [rowsI_len]; omega⟩, ?_⟩
    rw [show List.drop (Int.toNat 0) (List.take ((i : Int)).toNat (rowsI all)) = rowsI (all.take i) by rw [Int.toNat_natCast, rowsI, rowsI, List.map_take]; rfl]
    repeat ((conv => whnf); first | refine Cd.seq ?_ | refine Cd.cut ?_ | refine Cd.reg ?_ | refine Cd.block ?_ | refine Cd.cond ?_ | refine Cd.dreg ?_ | refine Cd.skip ?_ | refine Cd.ret ?_ | refine Cd.exit ?_ | refine Cd.loop ?_ | refine ⟨rfl, ?_⟩ | refine ⟨Nat.le_of_ble_eq_true rfl, ?_⟩ | refine ⟨.inl rfl, ?_⟩ | refine ⟨fun h => Bool.noConfusion h, ?_⟩)
    conv => whnf
    refine ⟨fun _ => ⟨rfl, by omega, by rw [rowsI_len]; omega⟩, ?_⟩
    rw [rowsI_getK all i b1]
    have hbd : badA all i = (!knownB (all.getD i 0) || decide (all.getD i 0 ∈ all.take i)) := rfl
    generalize all.getD i 0 = f at hbd ⊢
    have hlt : ((all.take i).length : Int) < 2 ^ 62 := by rw [List.length_take]; omega
    repeat ((conv => whnf); first | refine Cd.seq ?_ | refine Cd.cut ?_ | refine Cd.reg ?_ | refine Cd.block ?_ | refine Cd.cond ?_ | refine Cd.dreg ?_ | refine Cd.skip ?_ | refine Cd.ret ?_ | refine Cd.exit ?_ | refine Cd.loop ?_ | refine ⟨rfl, ?_⟩ | refine ⟨Nat.le_of_ble_eq_true rfl, ?_⟩ | refine ⟨.inl rfl, ?_⟩ | refine ⟨fun h => Bool.noConfusion h, ?_⟩ | refine .inl ⟨_, fun _ => ⟨purA rfl, (by first | exact ok54 (all.take i) false f hlt)⟩, .inl rfl, ?_⟩)
    conv => whnf
    rw [atM]
    have e : (bif bif decide (f < 1) then true else decide (64 < f) then true else decide (f ∈ all.take i)) = badA all i := by
      rw [hbd, ← known_or]; rfl
    rw [e]
    refine ⟨fun b2 => ?_, fun b2 => ?_⟩ <;> try simp only [Bool.cond_true_left, Bool.cond_false_right, Bool.not_eq_true', Bool.not_eq_false', Bool.not_not] at b2
    · rw [noneBad_bad b1 b2] at hk
      have hk : q = false := by rw [← hk]; rfl
      subst hk
      repeat ((conv => whnf); first | refine Cd.seq ?_ | refine Cd.cut ?_ | refine Cd.reg ?_ | refine Cd.block ?_ | refine Cd.cond ?_ | refine Cd.dreg ?_ | refine Cd.skip ?_ | refine Cd.ret ?_ | refine Cd.exit ?_ | refine Cd.loop ?_ | refine ⟨rfl, ?_⟩ | refine ⟨Nat.le_of_ble_eq_true rfl, ?_⟩ | refine ⟨.inl rfl, ?_⟩ | refine ⟨fun h => Bool.noConfusion h, ?_⟩)
      conv => whnf
      refine ⟨[], ?_, rfl, trivial, rfl, ?_⟩
      · exact trivial
      try subst hk
      repeat' (first | exact trivial | rfl | exact .inl rfl | exact .inr rfl | exact id | exact (fun h => Bool.noConfusion h) | refine And.intro ?_ ?_)
    repeat ((conv => whnf); first | refine Cd.seq ?_ | refine Cd.cut ?_ | refine Cd.reg ?_ | refine Cd.block ?_ | refine Cd.cond ?_ | refine Cd.dreg ?_ | refine Cd.skip ?_ | refine Cd.ret ?_ | refine Cd.exit ?_ | refine Cd.loop ?_ | refine ⟨rfl, ?_⟩ | refine ⟨Nat.le_of_ble_eq_true rfl, ?_⟩ | refine ⟨.inl rfl, ?_⟩ | refine ⟨fun h => Bool.noConfusion h, ?_⟩)
    conv => whnf
    rw [hi1]
    refine ⟨i + 1, ⟨by show i + 1 ≤ _; omega, by simp only [noneBad, hp2, b2]; rfl⟩, ?_, by show all.length - (i + 1) < all.length - i; omega⟩
    refine viewI [some 0] rfl rfl ?_ rfl ?_ rfl ?_
    repeat' (first | exact trivial | rfl | exact .inl rfl | exact .inr rfl | exact id | exact (fun h => Bool.noConfusion h) | refine And.intro ?_ ?_)
  have b1 : i = all.length := by simp at b1; omega
  subst b1
  rw [hp2, Bool.true_and] at hk
  repeat ((conv => whnf); first | refine Cd.seq ?_ | refine Cd.cut ?_ | refine Cd.reg ?_ | refine Cd.block ?_ | refine Cd.cond ?_ | refine Cd.dreg ?_ | refine Cd.skip ?_ | refine Cd.ret ?_ | refine Cd.exit ?_ | refine Cd.loop ?_ | refine ⟨rfl, ?_⟩ | refine ⟨Nat.le_of_ble_eq_true rfl, ?_⟩ | refine ⟨.inl rfl, ?_⟩ | refine ⟨fun h => Bool.noConfusion h, ?_⟩)
  conv => whnf
  refine ⟨Nat, fun j => j ≤ l.R.length ∧ noneBad (badQ all l.R) j = true, fun j => ⟨[(1, ⟨[], true, .ptr 0 0 0⟩), (3, ⟨[], true, .lst 1 false (rowsI all)⟩), (5, ⟨[], true, .int .i64 (j : Int)⟩)],
    [(0, .box l.c)], 1⟩, fun j => l.R.length - j, ⟨0, ⟨by omega, rfl⟩, ?_⟩, fun j hj => ?_⟩
  · refine viewI [some 0] rfl rfl ?_ rfl ?_ rfl ?_
    repeat' (first | exact trivial | rfl | exact .inl rfl | exact .inr rfl | exact id | exact (fun h => Bool.noConfusion h) | refine And.intro ?_ ?_)
  obtain ⟨hj1, hj2⟩ := hj
  repeat ((conv => whnf); first | refine Cd.seq ?_ | refine Cd.cut ?_ | refine Cd.reg ?_ | refine Cd.block ?_ | refine Cd.cond ?_ | refine Cd.dreg ?_ | refine Cd.skip ?_ | refine Cd.ret ?_ | refine Cd.exit ?_ | refine Cd.loop ?_ | refine ⟨rfl, ?_⟩ | refine ⟨Nat.le_of_ble_eq_true rfl, ?_⟩ | refine ⟨.inl rfl, ?_⟩ | refine ⟨fun h => Bool.noConfusion h, ?_⟩)
  conv => whnf
  rw [rowsI_len]
  refine ⟨fun c1 => ?_, fun c1 => ?_⟩ <;> try simp only [Bool.cond_true_left, Bool.cond_false_right, Bool.not_eq_true', Bool.not_eq_false', Bool.not_not] at c1
  · have c1 : j < l.R.length := by simp at c1; omega
    have hj3 : IntKind.i64.wrap ((j : Int) + 1) = ((j + 1 : Nat) : Int) := by rw [wrapI (by omega) (by omega)]; omega
    repeat ((conv => whnf); first | refine Cd.seq ?_ | refine Cd.cut ?_ | refine Cd.reg ?_ | refine Cd.block ?_ | refine Cd.cond ?_ | refine Cd.dreg ?_ | refine Cd.skip ?_ | refine Cd.ret ?_ | refine Cd.exit ?_ | refine Cd.loop ?_ | refine ⟨rfl, ?_⟩ | refine ⟨Nat.le_of_ble_eq_true rfl, ?_⟩ | refine ⟨.inl rfl, ?_⟩ | refine ⟨fun h => Bool.noConfusion h, ?_⟩)
    conv => whnf
    refine ⟨fun _ => ⟨rfl, by omega, by rw [rowsI_len]; omega⟩, ?_⟩
    rw [rowsI_getK l.R j c1]
    repeat ((conv => whnf); first | refine Cd.seq ?_ | refine Cd.cut ?_ | refine Cd.reg ?_ | refine Cd.block ?_ | refine Cd.cond ?_ | refine Cd.dreg ?_ | refine Cd.skip ?_ | refine Cd.ret ?_ | refine Cd.exit ?_ | refine Cd.loop ?_ | refine ⟨rfl, ?_⟩ | refine ⟨Nat.le_of_ble_eq_true rfl, ?_⟩ | refine ⟨.inl rfl, ?_⟩ | refine ⟨fun h => Bool.noConfusion h, ?_⟩ | refine .inl ⟨_, fun _ => ⟨purA rfl, (by first | exact ok54 all false (l.R.getD j 0) (by omega))⟩, .inl rfl, ?_⟩)
    conv => whnf
    refine ⟨fun _ => ⟨rfl, by omega, by rw [rowsI_len]; omega⟩, ?_⟩
    rw [rowsI_getK l.R j c1]
    repeat ((conv => whnf); first | refine Cd.seq ?_ | refine Cd.cut ?_ | refine Cd.reg ?_ | refine Cd.block ?_ | refine Cd.cond ?_ | refine Cd.dreg ?_ | refine Cd.skip ?_ | refine Cd.ret ?_ | refine Cd.exit ?_ | refine Cd.loop ?_ | refine ⟨rfl, ?_⟩ | refine ⟨Nat.le_of_ble_eq_true rfl, ?_⟩ | refine ⟨.inl rfl, ?_⟩ | refine ⟨fun h => Bool.noConfusion h, ?_⟩)
    conv => whnf
    rw [prev_nat j (by omega), prev_int j (by omega)]
    refine ⟨fun hg => ⟨rfl, ?_, by rw [rowsI_len]; omega⟩, ?_⟩
    · simp only [Bool.and_eq_true, decide_eq_true_eq] at hg; omega
    rw [rowsI_get l.R (j - 1) (by omega), getI l.R (j - 1) (by omega)]
    repeat ((conv => whnf); first | refine Cd.seq ?_ | refine Cd.cut ?_ | refine Cd.reg ?_ | refine Cd.block ?_ | refine Cd.cond ?_ | refine Cd.dreg ?_ | refine Cd.skip ?_ | refine Cd.ret ?_ | refine Cd.exit ?_ | refine Cd.loop ?_ | refine ⟨rfl, ?_⟩ | refine ⟨Nat.le_of_ble_eq_true rfl, ?_⟩ | refine ⟨.inl rfl, ?_⟩ | refine ⟨fun h => Bool.noConfusion h, ?_⟩)
    conv => whnf
    rw [atN]
    have e : (bif decide (l.R.getD j 0 ∉ all) then true else bif decide (0 < (j : Int)) then decide (l.R.getD j 0 ≤ l.R.getD (j - 1) 0) else false) = badQ all l.R j := by
      rw [badQ, decide_not]; cases decide (l.R.getD j 0 ∈ all) <;> cases decide (0 < (j : Int)) <;> rfl
    rw [e]
    refine ⟨fun c2 => ?_, fun c2 => ?_⟩ <;> try simp only [Bool.cond_true_left, Bool.cond_false_right, Bool.not_eq_true', Bool.not_eq_false', Bool.not_not] at c2
    · rw [noneBad_bad c1 c2] at hk
      subst hk
      repeat ((conv => whnf); first | refine Cd.seq ?_ | refine Cd.cut ?_ | refine Cd.reg ?_ | refine Cd.block ?_ | refine Cd.cond ?_ | refine Cd.dreg ?_ | refine Cd.skip ?_ | refine Cd.ret ?_ | refine Cd.exit ?_ | refine Cd.loop ?_ | refine ⟨rfl, ?_⟩ | refine ⟨Nat.le_of_ble_eq_true rfl, ?_⟩ | refine ⟨.inl rfl, ?_⟩ | refine ⟨fun h => Bool.noConfusion h, ?_⟩)
      conv => whnf
      refine ⟨[], ?_, rfl, trivial, rfl, ?_⟩
      · exact trivial
      try subst hk
      repeat' (first | exact trivial | rfl | exact .inl rfl | exact .inr rfl | exact id | exact (fun h => Bool.noConfusion h) | refine And.intro ?_ ?_)
    repeat ((conv => whnf); first | refine Cd.seq ?_ | refine Cd.cut ?_ | refine Cd.reg ?_ | refine Cd.block ?_ | refine Cd.cond ?_ | refine Cd.dreg ?_ | refine Cd.skip ?_ | refine Cd.ret ?_ | refine Cd.exit ?_ | refine Cd.loop ?_ | refine ⟨rfl, ?_⟩ | refine ⟨Nat.le_of_ble_eq_true rfl, ?_⟩ | refine ⟨.inl rfl, ?_⟩ | refine ⟨fun h => Bool.noConfusion h, ?_⟩)
    conv => whnf
    rw [hj3]
    refine ⟨j + 1, ⟨by show j + 1 ≤ _; omega, by simp only [noneBad, hj2, c2]; rfl⟩, ?_, by show l.R.length - (j + 1) < l.R.length - j; omega⟩
    refine viewI [some 0] rfl rfl ?_ rfl ?_ rfl ?_
    repeat' (first | exact trivial | rfl | exact .inl rfl | exact .inr rfl | exact id | exact (fun h => Bool.noConfusion h) | refine And.intro ?_ ?_)
  have c1 : j = l.R.length := by simp at c1; omega
  rw [← c1, hj2] at hk
  subst hk
  repeat ((conv => whnf); first | refine Cd.seq ?_ | refine Cd.cut ?_ | refine Cd.reg ?_ | refine Cd.block ?_ | refine Cd.cond ?_ | refine Cd.dreg ?_ | refine Cd.skip ?_ | refine Cd.ret ?_ | refine Cd.exit ?_ | refine Cd.loop ?_ | refine ⟨rfl, ?_⟩ | refine ⟨Nat.le_of_ble_eq_true rfl, ?_⟩ | refine ⟨.inl rfl, ?_⟩ | refine ⟨fun h => Bool.noConfusion h, ?_⟩)
  conv => whnf
  refine ⟨[], ?_, rfl, trivial, rfl, ?_⟩
  · exact trivial
  try subst hk
  repeat' (first | exact trivial | rfl | exact .inl rfl | exact .inr rfl | exact id | exact (fun h => Bool.noConfusion h) | refine And.intro ?_ ?_)
end Go.Proofs.Ytcifhjkodbaghaa

