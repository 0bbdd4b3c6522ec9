/- Lru: Add, Remove. -/
import Derived.Test.YtcifhjkodbaghaaL2
set_option linter.unusedSimpArgs false
set_option linter.unusedVariables false
namespace Go.Proofs.Ytcifhjkodbaghaa
open Go Go.Sk Go.RowKit

/- pagecache/lru.has -/
def rc67 : RC :=
  (.seq
  (.reg [⟨(some 2), none, (.box (.t 0))⟩,
    ⟨(some 4), none, (.mv (.c (.bool false)))⟩] [])
  (.seq
  (.reg [⟨(some 5), none, (.faddr 0 (.t 2))⟩,
    ⟨(some 6), none, (.ld false 1 (.t 5))⟩,
    ⟨(some 7), none, (.mv (.t 1))⟩,
    ⟨(some 8), none, (.call 73 [(.t 6), (.t 7)])⟩,
    ⟨(some 9), none, (.mv (.t 8))⟩,
    ⟨(some 10), (some (9, false)), (.faddr 1 (.t 2))⟩,
    ⟨(some 11), (some (9, false)), (.ld false 1 (.t 10))⟩,
    ⟨(some 12), (some (9, false)), (.mv (.t 1))⟩,
    ⟨(some 13), (some (9, false)), (.call 73 [(.t 11), (.t 12)])⟩,
    ⟨(some 14), none, (.pick (.t 9) (.c (.bool true)) (.t 13))⟩,
    ⟨(some 4), none, (.mv (.t 14))⟩] [5, 6, 7, 8, 9, 10, 11, 12, 13, 14])
  .ret))
theorem rcq67 : resC Go.Proofs.Try.prog Go.Proofs.Try.f67.ntmps ((Go.Proofs.Try.f67.body).getD .skip) = some (strip rc67) := by kernel_rfl
def rv67 : List RV := [(.tmp 4)]
theorem rvq67 : Go.Proofs.Try.f67.results.toList.mapM (resRV Go.Proofs.Try.prog) = some rv67 := by kernel_rfl

/- pagecache/pagecacheref08.has -/
def rc69 : RC :=
  (.seq
  (.reg [⟨(some 2), none, (.box (.t 0))⟩,
    ⟨(some 4), none, (.mv (.c (.bool false)))⟩] [])
  (.seq
  (.reg [⟨(some 5), none, (.faddr 0 (.t 2))⟩,
    ⟨(some 6), none, (.ld false 1 (.t 5))⟩,
    ⟨(some 7), none, (.mv (.t 1))⟩,
    ⟨(some 8), none, (.call 54 [(.t 6), (.t 7)])⟩,
    ⟨(some 9), none, (.bin .geq (.t 8) (.c (.int .i64 0)))⟩,
    ⟨(some 10), none, (.mv (.t 9))⟩,
    ⟨(some 11), (some (10, false)), (.faddr 1 (.t 2))⟩,
    ⟨(some 12), (some (10, false)), (.ld false 1 (.t 11))⟩,
    ⟨(some 13), (some (10, false)), (.mv (.t 1))⟩,
    ⟨(some 14), (some (10, false)), (.call 54 [(.t 12), (.t 13)])⟩,
    ⟨(some 15), (some (10, false)), (.bin .geq (.t 14) (.c (.int .i64 0)))⟩,
    ⟨(some 16), none, (.pick (.t 10) (.c (.bool true)) (.t 15))⟩,
    ⟨(some 4), none, (.mv (.t 16))⟩] [5, 6, 7, 8, 9, 10, 11, 12, 13, 14, 15, 16])
  .ret))
theorem rcq69 : resC Go.Proofs.Try.prog Go.Proofs.Try.f69.ntmps ((Go.Proofs.Try.f69.body).getD .skip) = some (strip rc69) := by kernel_rfl
def rv69 : List RV := [(.tmp 4)]
theorem rvq69 : Go.Proofs.Try.f69.results.toList.mapM (resRV Go.Proofs.Try.prog) = some rv69 := by kernel_rfl

/- pagecache/lru.wrong -/
def rc66 : RC :=
  (.seq
  (.reg [⟨(some 2), none, (.box (.t 0))⟩,
    ⟨(some 4), none, (.mv (.c (.int .i64 0)))⟩] [])
  (.seq
  (.seq
  (.reg [⟨(some 5), none, (.ld true 3 (.t 2))⟩,
    ⟨(some 6), none, (.call 42 [(.t 5)])⟩,
    ⟨(some 7), none, (.un .not (.t 6))⟩] [5, 6])
  (.cond (.t 7)
   (.seq
   (.reg [⟨(some 4), none, (.mv (.c (.int .i64 1)))⟩] [])
   .ret)
   .skip))
  (.seq
  (.seq
  (.reg [⟨(some 8), none, (.mv (.t 1))⟩,
    ⟨(some 9), none, (.call 76 [(.t 8)])⟩,
    ⟨(some 10), none, (.un .not (.t 9))⟩] [8, 9])
  (.cond (.t 10)
   (.seq
   (.reg [⟨(some 4), none, (.mv (.c (.int .i64 2)))⟩] [])
   .ret)
   .skip))
  (.seq
  (.reg [⟨(some 4), none, (.mv (.c (.int .i64 0)))⟩] [])
  .ret))))
theorem rcq66 : resC Go.Proofs.Try.prog Go.Proofs.Try.f66.ntmps ((Go.Proofs.Try.f66.body).getD .skip) = some (strip rc66) := by kernel_rfl
def rv66 : List RV := [(.tmp 4)]
theorem rvq66 : Go.Proofs.Try.f66.results.toList.mapM (resRV Go.Proofs.Try.prog) = some rv66 := by kernel_rfl

/- pagecache/pagecacheref08.Same -/
def rc44 : RC :=
  (.seq
  (.reg [⟨(some 2), none, (.box (.t 0))⟩,
    ⟨(some 3), none, (.box (.t 1))⟩,
    ⟨(some 4), none, (.mv (.c (.bool false)))⟩] [])
  (.seq
  (.reg [⟨(some 5), none, (.faddr 0 (.t 2))⟩,
    ⟨(some 6), none, (.ld false 1 (.t 5))⟩,
    ⟨(some 7), none, (.faddr 0 (.t 3))⟩,
    ⟨(some 8), none, (.ld false 1 (.t 7))⟩,
    ⟨(some 9), none, (.call 52 [(.t 6), (.t 8)])⟩,
    ⟨(some 10), none, (.mv (.t 9))⟩,
    ⟨(some 11), (some (10, true)), (.faddr 1 (.t 2))⟩,
    ⟨(some 12), (some (10, true)), (.ld false 1 (.t 11))⟩,
    ⟨(some 13), (some (10, true)), (.faddr 1 (.t 3))⟩,
    ⟨(some 14), (some (10, true)), (.ld false 1 (.t 13))⟩,
    ⟨(some 15), (some (10, true)), (.call 52 [(.t 12), (.t 14)])⟩,
    ⟨(some 16), none, (.pick (.t 10) (.t 15) (.c (.bool false)))⟩,
    ⟨(some 17), none, (.mv (.t 16))⟩,
    ⟨(some 18), (some (17, true)), (.faddr 2 (.t 2))⟩,
    ⟨(some 19), (some (17, true)), (.ld false 1 (.t 18))⟩,
    ⟨(some 20), (some (17, true)), (.faddr 2 (.t 3))⟩,
    ⟨(some 21), (some (17, true)), (.ld false 1 (.t 20))⟩,
    ⟨(some 22), (some (17, true)), (.call 52 [(.t 19), (.t 21)])⟩,
    ⟨(some 23), none, (.pick (.t 17) (.t 22) (.c (.bool false)))⟩,
    ⟨(some 4), none, (.mv (.t 23))⟩] [5, 6, 7, 8, 9, 10, 11, 12, 13, 14, 15, 16, 17, 18, 19, 20, 21, 22, 23])
  .ret))
theorem rcq44 : resC Go.Proofs.Try.prog Go.Proofs.Try.f44.ntmps ((Go.Proofs.Try.f44.body).getD .skip) = some (strip rc44) := by kernel_rfl
def rv44 : List RV := [(.tmp 4)]
theorem rvq44 : Go.Proofs.Try.f44.results.toList.mapM (resRV Go.Proofs.Try.prog) = some rv44 := by kernel_rfl

/- pagecache/lru.Add -/
def rc36 : RC :=
  (.seq
  (.reg [⟨(some 3), none, (.box (.t 0))⟩,
    ⟨(some 6), none, (.alloc [(.lst 0 true []), (.lst 0 true []), (.lst 0 true [])])⟩,
    ⟨(some 7), none, (.mv (.c (.int .i64 0)))⟩] [])
  (.seq
  (.reg [⟨(some 10), none, (.ld true 3 (.t 3))⟩,
    ⟨(some 11), none, (.call 65 [(.t 10)])⟩,
    ⟨(some 8), none, (.alloc [(.lst 0 true []), (.lst 0 true []), (.lst 0 true [])])⟩,
    ⟨none, none, (.st 3 (.t 8) (.t 11))⟩] [10, 11])
  (.seq
  (.seq
  (.reg [⟨(some 12), none, (.ld true 3 (.t 3))⟩,
    ⟨(some 13), none, (.mv (.t 1))⟩,
    ⟨(some 14), none, (.call 66 [(.t 12), (.t 13)])⟩,
    ⟨(some 9), none, (.mv (.t 14))⟩] [12, 13, 14])
  (.seq
  (.reg [⟨(some 15), none, (.mv (.t 9))⟩,
    ⟨(some 16), none, (.bin .neq (.t 15) (.c (.int .i64 0)))⟩] [15])
  (.cond (.t 16)
   (.seq
   (.reg [⟨(some 17), none, (.ld true 3 (.t 8))⟩,
     ⟨(some 18), none, (.mv (.t 9))⟩,
     ⟨none, none, (.st 3 (.t 6) (.t 17))⟩,
     ⟨(some 7), none, (.mv (.t 18))⟩] [17, 18])
   .ret)
   .skip)))
  (.seq
  (.seq
  (.reg [⟨(some 19), none, (.ld true 3 (.t 3))⟩,
    ⟨(some 20), none, (.mv (.t 1))⟩,
    ⟨(some 21), none, (.call 67 [(.t 19), (.t 20)])⟩] [19, 20])
  (.cond (.t 21)
   (.seq
   (.reg [⟨(some 22), none, (.ld true 3 (.t 8))⟩,
     ⟨none, none, (.st 3 (.t 6) (.t 22))⟩,
     ⟨(some 7), none, (.mv (.c (.int .i64 5)))⟩] [22])
   .ret)
   .skip))
  (.seq
  (.seq
  (.reg [⟨(some 23), none, (.mv (.t 2))⟩] [])
  (.cond (.t 23)
   (.reg [⟨(some 24), none, (.faddr 0 (.t 3))⟩,
     ⟨(some 25), none, (.ld false 1 (.t 24))⟩,
     ⟨(some 26), none, (.mv (.t 1))⟩,
     ⟨(some 27), none, (.call 68 [(.t 25), (.t 26)])⟩,
     ⟨(some 28), none, (.faddr 0 (.t 8))⟩,
     ⟨none, none, (.st 1 (.t 28) (.t 27))⟩] [24, 25, 26, 27, 28])
   (.reg [⟨(some 29), none, (.faddr 1 (.t 3))⟩,
     ⟨(some 30), none, (.ld false 1 (.t 29))⟩,
     ⟨(some 31), none, (.mv (.t 1))⟩,
     ⟨(some 32), none, (.call 68 [(.t 30), (.t 31)])⟩,
     ⟨(some 33), none, (.faddr 1 (.t 8))⟩,
     ⟨none, none, (.st 1 (.t 33) (.t 32))⟩] [29, 30, 31, 32, 33])))
  (.seq
  (.reg [⟨(some 34), none, (.ld true 3 (.t 8))⟩,
    ⟨none, none, (.st 3 (.t 6) (.t 34))⟩,
    ⟨(some 7), none, (.mv (.c (.int .i64 0)))⟩] [34])
  .ret))))))
theorem rcq36 : resC Go.Proofs.Try.prog Go.Proofs.Try.f36.ntmps ((Go.Proofs.Try.f36.body).getD .skip) = some (strip rc36) := by kernel_rfl
def rv36 : List RV := [(.cell 6 true 3), (.tmp 7)]
theorem rvq36 : Go.Proofs.Try.f36.results.toList.mapM (resRV Go.Proofs.Try.prog) = some rv36 := by kernel_rfl

def hasL (l : Ls) (f : Int) : Bool := decide (f ∈ l.A) || decide (f ∈ l.I)
theorem ok67 (l : Ls) (f : Int) (hl : SmallL l) : FnC Try.prog 67 [] [.agg l.c, .int .i64 f] (.bool (hasL l f)) [] := by
  have h1 := hl.a; have h2 := hl.i
  refine fn_okC (ob0 := []) (rc := rc67) (rvs := rv67) Try.func67 rfl rcq67 rvq67 (show 2 ≤ _ by decide) ?_
  repeat ((conv => whnf); first | refine Cd.seq ?_ | refine Cd.cut ?_ | refine Cd.reg ?_ | refine Cd.block ?_ | refine Cd.cond ?_ | refine Cd.dreg ?_ | refine Cd.skip ?_ | refine Cd.ret ?_ | refine Cd.exit ?_ | refine Cd.loop ?_ | refine ⟨rfl, ?_⟩ | refine ⟨Nat.le_of_ble_eq_true rfl, ?_⟩ | refine ⟨.inl rfl, ?_⟩ | refine ⟨fun h => Bool.noConfusion h, ?_⟩ | refine .inl ⟨_, fun _ => ⟨purA rfl, (by first | exact ok73 l.A false f (by omega) | exact ok73 l.I false f (by omega))⟩, .inl rfl, ?_⟩)
  conv => whnf
  refine ⟨[], ?_, rfl, trivial, rfl, ?_⟩
  · exact trivial
  try subst hk
  repeat' (first | exact trivial | rfl | exact .inl rfl | exact .inr rfl | exact id | exact (fun h => Bool.noConfusion h) | refine And.intro ?_ ?_)
theorem ok69 (l : Ls) (f : Int) (hl : SmallL l) : FnC Try.prog 69 [] [.agg l.c, .int .i64 f] (.bool (hasL l f)) [] := by
  have h1 := hl.a; have h2 := hl.i
  refine fn_okC (ob0 := []) (rc := rc69) (rvs := rv69) Try.func69 rfl rcq69 rvq69 (show 2 ≤ _ by decide) ?_
  repeat ((conv => whnf); first | refine Cd.seq ?_ | refine Cd.cut ?_ | refine Cd.reg ?_ | refine Cd.block ?_ | refine Cd.cond ?_ | refine Cd.dreg ?_ | refine Cd.skip ?_ | refine Cd.ret ?_ | refine Cd.exit ?_ | refine Cd.loop ?_ | refine ⟨rfl, ?_⟩ | refine ⟨Nat.le_of_ble_eq_true rfl, ?_⟩ | refine ⟨.inl rfl, ?_⟩ | refine ⟨fun h => Bool.noConfusion h, ?_⟩ | refine .inl ⟨_, fun _ => ⟨purA rfl, (by first | exact ok54 l.A false f (by omega) | exact ok54 l.I false f (by omega))⟩, .inl rfl, ?_⟩)
  conv => whnf
  rw [atM, atM]
  refine ⟨[], ?_, rfl, trivial, rfl, ?_⟩
  · exact trivial
  try subst hk
  repeat' (first | exact trivial | rfl | exact .inl rfl | exact .inr rfl | exact id | exact (fun h => Bool.noConfusion h) | refine And.intro ?_ ?_)
def wrongF (l : Ls) (f : Int) : Int := bif !chkL l then 1 else bif !knownB f then 2 else 0
theorem ok66 (l : Ls) (f : Int) (hl : SmallL l) : FnC Try.prog 66 [] [.agg l.c, .int .i64 f] (.int .i64 (wrongF l f)) [] := by
  refine fn_okC (ob0 := []) (rc := rc66) (rvs := rv66) Try.func66 rfl rcq66 rvq66 (show 2 ≤ _ by decide) ?_
  generalize hk : wrongF l f = q
  rw [wrongF] at hk
  repeat ((conv => whnf); first | refine Cd.seq ?_ | refine Cd.cut ?_ | refine Cd.reg ?_ | refine Cd.block ?_ | refine Cd.cond ?_ | refine Cd.dreg ?_ | refine Cd.skip ?_ | refine Cd.ret ?_ | refine Cd.exit ?_ | refine Cd.loop ?_ | refine ⟨rfl, ?_⟩ | refine ⟨Nat.le_of_ble_eq_true rfl, ?_⟩ | refine ⟨.inl rfl, ?_⟩ | refine ⟨fun h => Bool.noConfusion h, ?_⟩ | refine .inl ⟨_, fun _ => ⟨purA rfl, (by first | exact ok42 l hl)⟩, .inl rfl, ?_⟩)
  conv => whnf
  refine ⟨fun c1 => ?_, fun c1 => ?_⟩ <;> try simp only [Bool.cond_true_left, Bool.cond_false_right, Bool.not_eq_true', Bool.not_eq_false', Bool.not_not] at c1
  · rw [show (!chkL l) = true by rw [c1]; rfl] at hk
    have hk : 1 = q := hk
    subst hk
    repeat ((conv => whnf); first | refine Cd.seq ?_ | refine Cd.cut ?_ | refine Cd.reg ?_ | refine Cd.block ?_ | refine Cd.cond ?_ | refine Cd.dreg ?_ | refine Cd.skip ?_ | refine Cd.ret ?_ | refine Cd.exit ?_ | refine Cd.loop ?_ | refine ⟨rfl, ?_⟩ | refine ⟨Nat.le_of_ble_eq_true rfl, ?_⟩ | refine ⟨.inl rfl, ?_⟩ | refine ⟨fun h => Bool.noConfusion h, ?_⟩)
    conv => whnf
    refine ⟨[], ?_, rfl, trivial, rfl, ?_⟩
    · exact trivial
    try subst hk
    repeat' (first | exact trivial | rfl | exact .inl rfl | exact .inr rfl | exact id | exact (fun h => Bool.noConfusion h) | refine And.intro ?_ ?_)
  rw [show (!chkL l) = false by rw [c1]; rfl, cond_false] at hk
  repeat ((conv => whnf); first | refine Cd.seq ?_ | refine Cd.cut ?_ | refine Cd.reg ?_ | refine Cd.block ?_ | refine Cd.cond ?_ | refine Cd.dreg ?_ | refine Cd.skip ?_ | refine Cd.ret ?_ | refine Cd.exit ?_ | refine Cd.loop ?_ | refine ⟨rfl, ?_⟩ | refine ⟨Nat.le_of_ble_eq_true rfl, ?_⟩ | refine ⟨.inl rfl, ?_⟩ | refine ⟨fun h => Bool.noConfusion h, ?_⟩ | refine .inl ⟨_, fun _ => ⟨purA rfl, (by first | exact ok76 f)⟩, .inl rfl, ?_⟩)
  conv => whnf
  refine ⟨fun c2 => ?_, fun c2 => ?_⟩ <;> try simp only [Bool.cond_true_left, Bool.cond_false_right, Bool.not_eq_true', Bool.not_eq_false', Bool.not_not] at c2
  · rw [show (!knownB f) = true by rw [c2]; rfl] at hk
    have hk : 2 = q := hk
    subst hk
    repeat ((conv => whnf); first | refine Cd.seq ?_ | refine Cd.cut ?_ | refine Cd.reg ?_ | refine Cd.block ?_ | refine Cd.cond ?_ | refine Cd.dreg ?_ | refine Cd.skip ?_ | refine Cd.ret ?_ | refine Cd.exit ?_ | refine Cd.loop ?_ | refine ⟨rfl, ?_⟩ | refine ⟨Nat.le_of_ble_eq_true rfl, ?_⟩ | refine ⟨.inl rfl, ?_⟩ | refine ⟨fun h => Bool.noConfusion h, ?_⟩)
    conv => whnf
    refine ⟨[], ?_, rfl, trivial, rfl, ?_⟩
    · exact trivial
    try subst hk
    repeat' (first | exact trivial | rfl | exact .inl rfl | exact .inr rfl | exact id | exact (fun h => Bool.noConfusion h) | refine And.intro ?_ ?_)
  rw [show (!knownB f) = false by rw [c2]; rfl] at hk
  have hk : 0 = q := hk
  subst hk
  repeat ((conv => whnf); first | refine Cd.seq ?_ | refine Cd.cut ?_ | refine Cd.reg ?_ | refine Cd.block ?_ | refine Cd.cond ?_ | refine Cd.dreg ?_ | refine Cd.skip ?_ | refine Cd.ret ?_ | refine Cd.exit ?_ | refine Cd.loop ?_ | refine ⟨rfl, ?_⟩ | refine ⟨Nat.le_of_ble_eq_true rfl, ?_⟩ | refine ⟨.inl rfl, ?_⟩ | refine ⟨fun h => Bool.noConfusion h, ?_⟩)
  conv => whnf
  refine ⟨[], ?_, rfl, trivial, rfl, ?_⟩
  · exact trivial
  try subst hk
  repeat' (first | exact trivial | rfl | exact .inl rfl | exact .inr rfl | exact id | exact (fun h => Bool.noConfusion h) | refine And.intro ?_ ?_)
def sameL (a b : Ls) : Bool := (decide (a.A = b.A) && decide (a.I = b.I)) && decide (a.R = b.R)
theorem ok44 (a b : Ls) (ha : SmallL a) (hb : SmallL b) : FnC Try.prog 44 [] [.agg a.c, .agg b.c] (.bool (sameL a b)) [] := by
  have h1 := ha.a; have h2 := ha.i; have h3 := ha.r
  have g1 := hb.a; have g2 := hb.i; have g3 := hb.r
  refine fn_okC (ob0 := []) (rc := rc44) (rvs := rv44) Try.func44 rfl rcq44 rvq44 (show 2 ≤ _ by decide) ?_
  repeat ((conv => whnf); first | refine Cd.seq ?_ | refine Cd.cut ?_ | refine Cd.reg ?_ | refine Cd.block ?_ | refine Cd.cond ?_ | refine Cd.dreg ?_ | refine Cd.skip ?_ | refine Cd.ret ?_ | refine Cd.exit ?_ | refine Cd.loop ?_ | refine ⟨rfl, ?_⟩ | refine ⟨Nat.le_of_ble_eq_true rfl, ?_⟩ | refine ⟨.inl rfl, ?_⟩ | refine ⟨fun h => Bool.noConfusion h, ?_⟩ | refine .inl ⟨_, fun _ => ⟨purA rfl, (by first | exact ok52 a.A b.A false false (by omega) (by omega) | exact ok52 a.I b.I false false (by omega) (by omega) | exact ok52 a.R b.R false false (by omega) (by omega))⟩, .inl rfl, ?_⟩)
  conv => whnf
  refine ⟨[], ?_, rfl, trivial, rfl, ?_⟩
  · exact trivial
  try subst hk
  repeat' (first | exact trivial | rfl | exact .inl rfl | exact .inr rfl | exact id | exact (fun h => Bool.noConfusion h) | refine And.intro ?_ ?_)
  unfold sameL; cases decide (a.A = b.A) <;> cases decide (a.I = b.I) <;> rfl
/-! Add. -/
def addG (fr : List Int → List Int) (l : Ls) (f : Int) (act : Bool) : Ls × Int :=
  bif !chkL l then (l, 1) else bif !knownB f then (l, 2) else bif hasL l f then (l, 5) else
  bif act then (⟨fr l.A, l.I, l.R⟩, 0) else (⟨l.A, fr l.I, l.R⟩, 0)
def addP (l : Ls) (f : Int) (act : Bool) : Ls × Int := addG (fun x => f :: wo x f) l f act
def addF (l : Ls) (f : Int) (act : Bool) : Ls × Int := addG (fun x => f :: x) l f act
theorem Ls.eta (l : Ls) : Ls.mk l.A l.I l.R = l := rfl
set_option maxRecDepth 20000 in
set_option maxHeartbeats 1000000 in
theorem ok36 (l : Ls) (f : Int) (act : Bool) (hl : SmallL l) : FnC Try.prog 36 [] [.agg l.c, .int .i64 f, .bool act] (.tup [.agg (addP l f act).1.c, .int .i64 (addP l f act).2]) [] := by
  have h1 := hl.a; have h2 := hl.i; have h3 := hl.r
  refine fn_okC (ob0 := []) (rc := rc36) (rvs := rv36) Try.func36 rfl rcq36 rvq36 (show 3 ≤ _ by decide) ?_
  generalize hk : addP l f act = q
  rw [addP, addG] at hk
  repeat ((conv => whnf); first | refine Cd.seq ?_ | refine Cd.cut ?_ | refine Cd.reg ?_ | refine Cd.block ?_ | refine Cd.cond ?_ | refine Cd.dreg ?_ | refine Cd.skip ?_ | refine Cd.ret ?_ | refine Cd.exit ?_ | refine Cd.loop ?_ | refine ⟨rfl, ?_⟩ | refine ⟨Nat.le_of_ble_eq_true rfl, ?_⟩ | refine ⟨.inl rfl, ?_⟩ | refine ⟨fun h => Bool.noConfusion h, ?_⟩ | refine .inl ⟨_, fun _ => ⟨purA rfl, (by first | exact ok65 l hl | exact ok66 l f hl)⟩, .inl rfl, ?_⟩)
  conv => whnf
  refine ⟨fun c1 => ?_, fun c1 => ?_⟩ <;> try simp only [Bool.cond_true_left, Bool.cond_false_right, Bool.not_eq_true', Bool.not_eq_false', Bool.not_not] at c1
  · have hk : (l, wrongF l f) = q := by
      rw [← hk]
      unfold wrongF
      unfold wrongF at c1
      revert c1
      cases chkL l <;> cases knownB f <;> intro c1 <;> first | rfl | exact absurd c1 (by decide)
    subst hk
    repeat ((conv => whnf); first | refine Cd.seq ?_ | refine Cd.cut ?_ | refine Cd.reg ?_ | refine Cd.block ?_ | refine Cd.cond ?_ | refine Cd.dreg ?_ | refine Cd.skip ?_ | refine Cd.ret ?_ | refine Cd.exit ?_ | refine Cd.loop ?_ | refine ⟨rfl, ?_⟩ | refine ⟨Nat.le_of_ble_eq_true rfl, ?_⟩ | refine ⟨.inl rfl, ?_⟩ | refine ⟨fun h => Bool.noConfusion h, ?_⟩)
    conv => whnf
    refine ⟨[], ?_, rfl, trivial, rfl, ?_⟩
    · exact trivial
    try subst hk
    repeat' (first | exact trivial | rfl | exact .inl rfl | exact .inr rfl | exact id | exact (fun h => Bool.noConfusion h) | refine And.intro ?_ ?_)
  have e1 : chkL l = true := by unfold wrongF at c1; cases h : chkL l <;> simp [h] at c1 ⊢
  have e2 : knownB f = true := by unfold wrongF at c1; cases h : knownB f <;> simp [h, e1] at c1 ⊢
  rw [e1, e2] at hk
  simp only [Bool.not_true, cond_false] at hk
  repeat ((conv => whnf); first | refine Cd.seq ?_ | refine Cd.cut ?_ | refine Cd.reg ?_ | refine Cd.block ?_ | refine Cd.cond ?_ | refine Cd.dreg ?_ | refine Cd.skip ?_ | refine Cd.ret ?_ | refine Cd.exit ?_ | refine Cd.loop ?_ | refine ⟨rfl, ?_⟩ | refine ⟨Nat.le_of_ble_eq_true rfl, ?_⟩ | refine ⟨.inl rfl, ?_⟩ | refine ⟨fun h => Bool.noConfusion h, ?_⟩ | refine .inl ⟨_, fun _ => ⟨purA rfl, (by first | exact ok67 l f hl)⟩, .inl rfl, ?_⟩)
  conv => whnf
  refine ⟨fun c2 => ?_, fun c2 => ?_⟩ <;> try simp only [Bool.cond_true_left, Bool.cond_false_right, Bool.not_eq_true', Bool.not_eq_false', Bool.not_not] at c2
  · rw [c2, cond_true] at hk
    subst hk
    repeat ((conv => whnf); first | refine Cd.seq ?_ | refine Cd.cut ?_ | refine Cd.reg ?_ | refine Cd.block ?_ | refine Cd.cond ?_ | refine Cd.dreg ?_ | refine Cd.skip ?_ | refine Cd.ret ?_ | refine Cd.exit ?_ | refine Cd.loop ?_ | refine ⟨rfl, ?_⟩ | refine ⟨Nat.le_of_ble_eq_true rfl, ?_⟩ | refine ⟨.inl rfl, ?_⟩ | refine ⟨fun h => Bool.noConfusion h, ?_⟩)
    conv => whnf
    refine ⟨[], ?_, rfl, trivial, rfl, ?_⟩
    · exact trivial
    try subst hk
    repeat' (first | exact trivial | rfl | exact .inl rfl | exact .inr rfl | exact id | exact (fun h => Bool.noConfusion h) | refine And.intro ?_ ?_)
  rw [c2, cond_false] at hk
  repeat ((conv => whnf); first | refine Cd.seq ?_ | refine Cd.cut ?_ | refine Cd.reg ?_ | refine Cd.block ?_ | refine Cd.cond ?_ | refine Cd.dreg ?_ | refine Cd.skip ?_ | refine Cd.ret ?_ | refine Cd.exit ?_ | refine Cd.loop ?_ | refine ⟨rfl, ?_⟩ | refine ⟨Nat.le_of_ble_eq_true rfl, ?_⟩ | refine ⟨.inl rfl, ?_⟩ | refine ⟨fun h => Bool.noConfusion h, ?_⟩)
  conv => whnf
  refine ⟨fun c3 => ?_, fun c3 => ?_⟩ <;> try simp only [Bool.cond_true_left, Bool.cond_false_right, Bool.not_eq_true', Bool.not_eq_false', Bool.not_not] at c3
  · rw [c3, cond_true] at hk
    subst hk
    repeat ((conv => whnf); first | refine Cd.seq ?_ | refine Cd.cut ?_ | refine Cd.reg ?_ | refine Cd.block ?_ | refine Cd.cond ?_ | refine Cd.dreg ?_ | refine Cd.skip ?_ | refine Cd.ret ?_ | refine Cd.exit ?_ | refine Cd.loop ?_ | refine ⟨rfl, ?_⟩ | refine ⟨Nat.le_of_ble_eq_true rfl, ?_⟩ | refine ⟨.inl rfl, ?_⟩ | refine ⟨fun h => Bool.noConfusion h, ?_⟩ | refine .inl ⟨_, fun _ => ⟨purA rfl, (by first | exact ok68 l.A false f (by omega))⟩, .inl rfl, ?_⟩)
    conv => whnf
    refine ⟨[], ?_, rfl, trivial, rfl, ?_⟩
    · exact trivial
    try subst hk
    repeat' (first | exact trivial | rfl | exact .inl rfl | exact .inr rfl | exact id | exact (fun h => Bool.noConfusion h) | refine And.intro ?_ ?_)
  rw [c3, cond_false] at hk
  subst hk
  repeat ((conv => whnf); first | refine Cd.seq ?_ | refine Cd.cut ?_ | refine Cd.reg ?_ | refine Cd.block ?_ | refine Cd.cond ?_ | refine Cd.dreg ?_ | refine Cd.skip ?_ | refine Cd.ret ?_ | refine Cd.exit ?_ | refine Cd.loop ?_ | refine ⟨rfl, ?_⟩ | refine ⟨Nat.le_of_ble_eq_true rfl, ?_⟩ | refine ⟨.inl rfl, ?_⟩ | refine ⟨fun h => Bool.noConfusion h, ?_⟩ | refine .inl ⟨_, fun _ => ⟨purA rfl, (by first | exact ok68 l.I false f (by omega))⟩, .inl rfl, ?_⟩)
  conv => whnf
  refine ⟨[], ?_, rfl, trivial, rfl, ?_⟩
  · exact trivial
  try subst hk
  repeat' (first | exact trivial | rfl | exact .inl rfl | exact .inr rfl | exact id | exact (fun h => Bool.noConfusion h) | refine And.intro ?_ ?_)
end Go.Proofs.Ytcifhjkodbaghaa

namespace Go.Proofs.Ytcifhjkodbaghaa
open Go Go.Sk Go.RowKit

/- pagecache/pagecacheref08.Add -/
def rc37 : RC :=
  (.seq
  (.reg [⟨(some 3), none, (.box (.t 0))⟩,
    ⟨(some 6), none, (.alloc [(.lst 0 true []), (.lst 0 true []), (.lst 0 true [])])⟩,
    ⟨(some 7), none, (.mv (.c (.int .i64 0)))⟩] [])
  (.seq
  (.block 0
   (.seq
   (.reg [⟨(some 14), none, (.ld true 3 (.t 3))⟩,
     ⟨(some 15), none, (.call 43 [(.t 14)])⟩,
     ⟨(some 16), none, (.un .not (.t 15))⟩,
     ⟨(some 13), none, (.mv (.t 16))⟩] [14, 15, 16])
   (.cond (.t 13)
    (.seq
    (.reg [⟨(some 17), none, (.ld true 3 (.t 3))⟩,
      ⟨none, none, (.st 3 (.t 6) (.t 17))⟩,
      ⟨(some 7), none, (.mv (.c (.int .i64 1)))⟩] [17])
    .ret)
    (.seq
    (.reg [⟨(some 19), none, (.mv (.t 1))⟩,
      ⟨(some 20), none, (.bin .lss (.t 19) (.c (.int .i64 1)))⟩,
      ⟨(some 21), none, (.mv (.t 20))⟩,
      ⟨(some 22), (some (21, false)), (.mv (.t 1))⟩,
      ⟨(some 23), (some (21, false)), (.bin .gtr (.t 22) (.c (.int .i64 64)))⟩,
      ⟨(some 24), none, (.pick (.t 21) (.c (.bool true)) (.t 23))⟩,
      ⟨(some 18), none, (.mv (.t 24))⟩] [19, 20, 21, 22, 23, 24])
    (.cond (.t 18)
     (.seq
     (.reg [⟨(some 25), none, (.ld true 3 (.t 3))⟩,
       ⟨none, none, (.st 3 (.t 6) (.t 25))⟩,
       ⟨(some 7), none, (.mv (.c (.int .i64 2)))⟩] [25])
     .ret)
     (.seq
     (.reg [⟨(some 27), none, (.ld true 3 (.t 3))⟩,
       ⟨(some 28), none, (.mv (.t 1))⟩,
       ⟨(some 29), none, (.call 69 [(.t 27), (.t 28)])⟩,
       ⟨(some 26), none, (.mv (.t 29))⟩] [27, 28, 29])
     (.cond (.t 26)
      (.seq
      (.reg [⟨(some 30), none, (.ld true 3 (.t 3))⟩,
        ⟨none, none, (.st 3 (.t 6) (.t 30))⟩,
        ⟨(some 7), none, (.mv (.c (.int .i64 5)))⟩] [30])
      .ret)
      (.seq
      (.reg [⟨(some 32), none, (.mv (.t 2))⟩,
        ⟨(some 31), none, (.mv (.t 32))⟩] [32])
      (.cond (.t 31)
       (.reg [⟨(some 33), none, (.faddr 0 (.t 3))⟩,
         ⟨(some 34), none, (.ld false 1 (.t 33))⟩,
         ⟨(some 35), none, (.mv (.t 1))⟩,
         ⟨(some 36), none, (.call 70 [(.t 34), (.t 35)])⟩,
         ⟨(some 37), none, (.faddr 0 (.t 3))⟩,
         ⟨none, none, (.st 1 (.t 37) (.t 36))⟩] [33, 34, 35, 36, 37])
       (.reg [⟨(some 8), none, (.faddr 1 (.t 3))⟩,
         ⟨(some 9), none, (.ld false 1 (.t 8))⟩,
         ⟨(some 10), none, (.mv (.t 1))⟩,
         ⟨(some 11), none, (.call 70 [(.t 9), (.t 10)])⟩,
         ⟨(some 12), none, (.faddr 1 (.t 3))⟩,
         ⟨none, none, (.st 1 (.t 12) (.t 11))⟩] [8, 9, 10, 11, 12]))))))))))
  (.seq
  (.reg [⟨(some 38), none, (.ld true 3 (.t 3))⟩,
    ⟨none, none, (.st 3 (.t 6) (.t 38))⟩,
    ⟨(some 7), none, (.mv (.c (.int .i64 0)))⟩] [38])
  .ret)))
theorem rcq37 : resC Go.Proofs.Try.prog Go.Proofs.Try.f37.ntmps ((Go.Proofs.Try.f37.body).getD .skip) = some (strip rc37) := by kernel_rfl
def rv37 : List RV := [(.cell 6 true 3), (.tmp 7)]
theorem rvq37 : Go.Proofs.Try.f37.results.toList.mapM (resRV Go.Proofs.Try.prog) = some rv37 := by kernel_rfl

/- pagecache/lru.Remove -/
def rc38 : RC :=
  (.seq
  (.reg [⟨(some 2), none, (.box (.t 0))⟩,
    ⟨(some 4), none, (.alloc [(.lst 0 true []), (.lst 0 true []), (.lst 0 true [])])⟩,
    ⟨(some 5), none, (.mv (.c (.int .i64 0)))⟩] [])
  (.seq
  (.seq
  (.reg [⟨(some 7), none, (.ld true 3 (.t 2))⟩,
    ⟨(some 8), none, (.mv (.t 1))⟩,
    ⟨(some 9), none, (.call 66 [(.t 7), (.t 8)])⟩,
    ⟨(some 6), none, (.mv (.t 9))⟩] [7, 8, 9])
  (.seq
  (.reg [⟨(some 10), none, (.mv (.t 6))⟩,
    ⟨(some 11), none, (.bin .neq (.t 10) (.c (.int .i64 0)))⟩] [10])
  (.cond (.t 11)
   (.seq
   (.reg [⟨(some 12), none, (.ld true 3 (.t 2))⟩,
     ⟨(some 13), none, (.call 65 [(.t 12)])⟩,
     ⟨(some 14), none, (.mv (.t 6))⟩,
     ⟨none, none, (.st 3 (.t 4) (.t 13))⟩,
     ⟨(some 5), none, (.mv (.t 14))⟩] [12, 13, 14])
   .ret)
   .skip)))
  (.seq
  (.seq
  (.reg [⟨(some 15), none, (.ld true 3 (.t 2))⟩,
    ⟨(some 16), none, (.mv (.t 1))⟩,
    ⟨(some 17), none, (.call 67 [(.t 15), (.t 16)])⟩,
    ⟨(some 18), none, (.un .not (.t 17))⟩] [15, 16, 17])
  (.cond (.t 18)
   (.seq
   (.reg [⟨(some 19), none, (.ld true 3 (.t 2))⟩,
     ⟨(some 20), none, (.call 65 [(.t 19)])⟩,
     ⟨none, none, (.st 3 (.t 4) (.t 20))⟩,
     ⟨(some 5), none, (.mv (.c (.int .i64 4)))⟩] [19, 20])
   .ret)
   .skip))
  (.seq
  (.dreg 7168 7408 [⟨(some 21), none, (.faddr 0 (.t 2))⟩,
    ⟨(some 22), none, (.ld false 1 (.t 21))⟩,
    ⟨(some 23), none, (.mv (.t 1))⟩,
    ⟨(some 24), none, (.call 71 [(.t 22), (.t 23)])⟩,
    ⟨(some 25), none, (.faddr 1 (.t 2))⟩,
    ⟨(some 26), none, (.ld false 1 (.t 25))⟩,
    ⟨(some 27), none, (.mv (.t 1))⟩,
    ⟨(some 28), none, (.call 71 [(.t 26), (.t 27)])⟩,
    ⟨(some 29), none, (.faddr 2 (.t 2))⟩,
    ⟨(some 30), none, (.ld false 1 (.t 29))⟩,
    ⟨(some 31), none, (.mv (.t 1))⟩,
    ⟨(some 32), none, (.call 71 [(.t 30), (.t 31)])⟩,
    ⟨(some 33), none, (.build [(.lst 0 true []), (.lst 0 true []), (.lst 0 true [])] [(0, (1, (.t 24))), (1, (1, (.t 28))), (2, (1, (.t 32)))])⟩,
    ⟨none, none, (.st 3 (.t 4) (.t 33))⟩,
    ⟨(some 5), none, (.mv (.c (.int .i64 0)))⟩] [21, 22, 23, 24, 25, 26, 27, 28, 29, 30, 31, 32, 33] [[], [0], [], [1, 0, 2], [], [4], [], [5, 4, 6, 3, 2, 0, 1], [], [8], [], [9, 8, 10, 7, 1, 0, 2, 3, 6, 4, 5], [11, 5, 4, 6, 3, 2, 0, 1, 7, 10, 8, 9], [12, 9, 8, 10, 7, 1, 0, 2, 3, 6, 4, 5, 11], [13, 11, 5, 4, 6, 3, 2, 0, 1, 7, 10, 8, 9, 12]] [7168, 7184, 7200, 7216, 7232, 7248, 7264, 7280, 7296, 7312, 7328, 7344, 7360, 7376, 7392])
  .ret))))
theorem rcq38 : resC Go.Proofs.Try.prog Go.Proofs.Try.f38.ntmps ((Go.Proofs.Try.f38.body).getD .skip) = some (strip rc38) := by kernel_rfl
def rv38 : List RV := [(.cell 4 true 3), (.tmp 5)]
theorem rvq38 : Go.Proofs.Try.f38.results.toList.mapM (resRV Go.Proofs.Try.prog) = some rv38 := by kernel_rfl

/- pagecache/pagecacheref08.Remove -/
def rc39 : RC :=
  (.seq
  (.reg [⟨(some 2), none, (.box (.t 0))⟩,
    ⟨(some 4), none, (.alloc [(.lst 0 true []), (.lst 0 true []), (.lst 0 true [])])⟩,
    ⟨(some 5), none, (.mv (.c (.int .i64 0)))⟩] [])
  (.seq
  (.block 0
   (.seq
   (.reg [⟨(some 7), none, (.ld true 3 (.t 2))⟩,
     ⟨(some 8), none, (.call 43 [(.t 7)])⟩,
     ⟨(some 9), none, (.un .not (.t 8))⟩,
     ⟨(some 6), none, (.mv (.t 9))⟩] [7, 8, 9])
   (.cond (.t 6)
    (.seq
    (.reg [⟨(some 10), none, (.ld true 3 (.t 2))⟩,
      ⟨none, none, (.st 3 (.t 4) (.t 10))⟩,
      ⟨(some 5), none, (.mv (.c (.int .i64 1)))⟩] [10])
    .ret)
    (.seq
    (.reg [⟨(some 12), none, (.mv (.t 1))⟩,
      ⟨(some 13), none, (.bin .lss (.t 12) (.c (.int .i64 1)))⟩,
      ⟨(some 14), none, (.mv (.t 13))⟩,
      ⟨(some 15), (some (14, false)), (.mv (.t 1))⟩,
      ⟨(some 16), (some (14, false)), (.bin .gtr (.t 15) (.c (.int .i64 64)))⟩,
      ⟨(some 17), none, (.pick (.t 14) (.c (.bool true)) (.t 16))⟩,
      ⟨(some 11), none, (.mv (.t 17))⟩] [12, 13, 14, 15, 16, 17])
    (.cond (.t 11)
     (.seq
     (.reg [⟨(some 18), none, (.ld true 3 (.t 2))⟩,
       ⟨none, none, (.st 3 (.t 4) (.t 18))⟩,
       ⟨(some 5), none, (.mv (.c (.int .i64 2)))⟩] [18])
     .ret)
     (.seq
     (.reg [⟨(some 20), none, (.ld true 3 (.t 2))⟩,
       ⟨(some 21), none, (.mv (.t 1))⟩,
       ⟨(some 22), none, (.call 69 [(.t 20), (.t 21)])⟩,
       ⟨(some 23), none, (.un .not (.t 22))⟩,
       ⟨(some 19), none, (.mv (.t 23))⟩] [20, 21, 22, 23])
     (.cond (.t 19)
      (.seq
      (.reg [⟨(some 24), none, (.ld true 3 (.t 2))⟩,
        ⟨none, none, (.st 3 (.t 4) (.t 24))⟩,
        ⟨(some 5), none, (.mv (.c (.int .i64 4)))⟩] [24])
      .ret)
      .skip)))))))
  (.seq
  (.dreg 8192 8432 [⟨(some 25), none, (.faddr 0 (.t 2))⟩,
    ⟨(some 26), none, (.ld false 1 (.t 25))⟩,
    ⟨(some 27), none, (.mv (.t 1))⟩,
    ⟨(some 28), none, (.call 72 [(.t 26), (.t 27)])⟩,
    ⟨(some 29), none, (.faddr 1 (.t 2))⟩,
    ⟨(some 30), none, (.ld false 1 (.t 29))⟩,
    ⟨(some 31), none, (.mv (.t 1))⟩,
    ⟨(some 32), none, (.call 72 [(.t 30), (.t 31)])⟩,
    ⟨(some 33), none, (.faddr 2 (.t 2))⟩,
    ⟨(some 34), none, (.ld false 1 (.t 33))⟩,
    ⟨(some 35), none, (.mv (.t 1))⟩,
    ⟨(some 36), none, (.call 72 [(.t 34), (.t 35)])⟩,
    ⟨(some 37), none, (.build [(.lst 0 true []), (.lst 0 true []), (.lst 0 true [])] [(0, (1, (.t 28))), (1, (1, (.t 32))), (2, (1, (.t 36)))])⟩,
    ⟨none, none, (.st 3 (.t 4) (.t 37))⟩,
    ⟨(some 5), none, (.mv (.c (.int .i64 0)))⟩] [25, 26, 27, 28, 29, 30, 31, 32, 33, 34, 35, 36, 37] [[], [0], [], [1, 0, 2], [], [4], [], [5, 4, 6, 3, 2, 0, 1], [], [8], [], [9, 8, 10, 7, 1, 0, 2, 3, 6, 4, 5], [11, 5, 4, 6, 3, 2, 0, 1, 7, 10, 8, 9], [12, 9, 8, 10, 7, 1, 0, 2, 3, 6, 4, 5, 11], [13, 11, 5, 4, 6, 3, 2, 0, 1, 7, 10, 8, 9, 12]] [8192, 8208, 8224, 8240, 8256, 8272, 8288, 8304, 8320, 8336, 8352, 8368, 8384, 8400, 8416])
  .ret)))
theorem rcq39 : resC Go.Proofs.Try.prog Go.Proofs.Try.f39.ntmps ((Go.Proofs.Try.f39.body).getD .skip) = some (strip rc39) := by kernel_rfl
def rv39 : List RV := [(.cell 4 true 3), (.tmp 5)]
theorem rvq39 : Go.Proofs.Try.f39.results.toList.mapM (resRV Go.Proofs.Try.prog) = some rv39 := by kernel_rfl

theorem known_bif (f : Int) : (bif decide (f < 1) then true else decide (64 < f)) = !knownB f := by rw [← known_or]; rfl
set_option maxRecDepth 20000 in
set_option maxHeartbeats 1000000 in
theorem ok37 (l : Ls) (f : Int) (act : Bool) (hl : SmallL l) : FnC Try.prog 37 [] [.agg l.c, .int .i64 f, .bool act] (.tup [.agg (addF l f act).1.c, .int .i64 (addF l f act).2]) [] := by
  have h1 := hl.a; have h2 := hl.i; have h3 := hl.r
  refine fn_okC (ob0 := []) (rc := rc37) (rvs := rv37) Try.func37 rfl rcq37 rvq37 (show 3 ≤ _ by decide) ?_
  generalize hk : addF l f act = q
  rw [addF, addG] at hk
  repeat ((conv => whnf); first | refine Cd.seq ?_ | refine Cd.cut ?_ | refine Cd.reg ?_ | refine Cd.block ?_ | refine Cd.cond ?_ | refine Cd.dreg ?_ | refine Cd.skip ?_ | refine Cd.ret ?_ | refine Cd.exit ?_ | refine Cd.loop ?_ | refine ⟨rfl, ?_⟩ | refine ⟨Nat.le_of_ble_eq_true rfl, ?_⟩ | refine ⟨.inl rfl, ?_⟩ | refine ⟨fun h => Bool.noConfusion h, ?_⟩ | refine .inl ⟨_, fun _ => ⟨purA rfl, (by first | exact ok43 l hl)⟩, .inl rfl, ?_⟩)
  conv => whnf
  refine ⟨fun c1 => ?_, fun c1 => ?_⟩ <;> try simp only [Bool.cond_true_left, Bool.cond_false_right, Bool.not_eq_true', Bool.not_eq_false', Bool.not_not] at c1
  · rw [show (!chkL l) = true by rw [c1]; rfl, cond_true] at hk
    subst hk
    repeat ((conv => whnf); first | refine Cd.seq ?_ | refine Cd.cut ?_ | refine Cd.reg ?_ | refine Cd.block ?_ | refine Cd.cond ?_ | refine Cd.dreg ?_ | refine Cd.skip ?_ | refine Cd.ret ?_ | refine Cd.exit ?_ | refine Cd.loop ?_ | refine ⟨rfl, ?_⟩ | refine ⟨Nat.le_of_ble_eq_true rfl, ?_⟩ | refine ⟨.inl rfl, ?_⟩ | refine ⟨fun h => Bool.noConfusion h, ?_⟩)
    conv => whnf
    refine ⟨[], ?_, rfl, trivial, rfl, ?_⟩
    · exact trivial
    try subst hk
    repeat' (first | exact trivial | rfl | exact .inl rfl | exact .inr rfl | exact id | exact (fun h => Bool.noConfusion h) | refine And.intro ?_ ?_)
  rw [show (!chkL l) = false by rw [c1]; rfl, cond_false] at hk
  repeat ((conv => whnf); first | refine Cd.seq ?_ | refine Cd.cut ?_ | refine Cd.reg ?_ | refine Cd.block ?_ | refine Cd.cond ?_ | refine Cd.dreg ?_ | refine Cd.skip ?_ | refine Cd.ret ?_ | refine Cd.exit ?_ | refine Cd.loop ?_ | refine ⟨rfl, ?_⟩ | refine ⟨Nat.le_of_ble_eq_true rfl, ?_⟩ | refine ⟨.inl rfl, ?_⟩ | refine ⟨fun h => Bool.noConfusion h, ?_⟩)
  conv => whnf
  rw [known_bif]
  refine ⟨fun c2 => ?_, fun c2 => ?_⟩ <;> try simp only [Bool.cond_true_left, Bool.cond_false_right, Bool.not_eq_true', Bool.not_eq_false', Bool.not_not] at c2
  · rw [show (!knownB f) = true by rw [c2]; rfl, cond_true] at hk
    subst hk
    repeat ((conv => whnf); first | refine Cd.seq ?_ | refine Cd.cut ?_ | refine Cd.reg ?_ | refine Cd.block ?_ | refine Cd.cond ?_ | refine Cd.dreg ?_ | refine Cd.skip ?_ | refine Cd.ret ?_ | refine Cd.exit ?_ | refine Cd.loop ?_ | refine ⟨rfl, ?_⟩ | refine ⟨Nat.le_of_ble_eq_true rfl, ?_⟩ | refine ⟨.inl rfl, ?_⟩ | refine ⟨fun h => Bool.noConfusion h, ?_⟩)
    conv => whnf
    refine ⟨[], ?_, rfl, trivial, rfl, ?_⟩
    · exact trivial
    try subst hk
    repeat' (first | exact trivial | rfl | exact .inl rfl | exact .inr rfl | exact id | exact (fun h => Bool.noConfusion h) | refine And.intro ?_ ?_)
  rw [show (!knownB f) = false by rw [c2]; rfl, cond_false] at hk
  repeat ((conv => whnf); first | refine Cd.seq ?_ | refine Cd.cut ?_ | refine Cd.reg ?_ | refine Cd.block ?_ | refine Cd.cond ?_ | refine Cd.dreg ?_ | refine Cd.skip ?_ | refine Cd.ret ?_ | refine Cd.exit ?_ | refine Cd.loop ?_ | refine ⟨rfl, ?_⟩ | refine ⟨Nat.le_of_ble_eq_true rfl, ?_⟩ | refine ⟨.inl rfl, ?_⟩ | refine ⟨fun h => Bool.noConfusion h, ?_⟩ | refine .inl ⟨_, fun _ => ⟨purA rfl, (by first | exact ok69 l f hl)⟩, .inl rfl, ?_⟩)
  conv => whnf
  refine ⟨fun c3 => ?_, fun c3 => ?_⟩ <;> try simp only [Bool.cond_true_left, Bool.cond_false_right, Bool.not_eq_true', Bool.not_eq_false', Bool.not_not] at c3
  · rw [c3, cond_true] at hk
    subst hk
    repeat ((conv => whnf); first | refine Cd.seq ?_ | refine Cd.cut ?_ | refine Cd.reg ?_ | refine Cd.block ?_ | refine Cd.cond ?_ | refine Cd.dreg ?_ | refine Cd.skip ?_ | refine Cd.ret ?_ | refine Cd.exit ?_ | refine Cd.loop ?_ | refine ⟨rfl, ?_⟩ | refine ⟨Nat.le_of_ble_eq_true rfl, ?_⟩ | refine ⟨.inl rfl, ?_⟩ | refine ⟨fun h => Bool.noConfusion h, ?_⟩)
    conv => whnf
    refine ⟨[], ?_, rfl, trivial, rfl, ?_⟩
    · exact trivial
    try subst hk
    repeat' (first | exact trivial | rfl | exact .inl rfl | exact .inr rfl | exact id | exact (fun h => Bool.noConfusion h) | refine And.intro ?_ ?_)
  rw [c3, cond_false] at hk
  repeat ((conv => whnf); first | refine Cd.seq ?_ | refine Cd.cut ?_ | refine Cd.reg ?_ | refine Cd.block ?_ | refine Cd.cond ?_ | refine Cd.dreg ?_ | refine Cd.skip ?_ | refine Cd.ret ?_ | refine Cd.exit ?_ | refine Cd.loop ?_ | refine ⟨rfl, ?_⟩ | refine ⟨Nat.le_of_ble_eq_true rfl, ?_⟩ | refine ⟨.inl rfl, ?_⟩ | refine ⟨fun h => Bool.noConfusion h, ?_⟩)
  conv => whnf
  refine ⟨fun c4 => ?_, fun c4 => ?_⟩ <;> try simp only [Bool.cond_true_left, Bool.cond_false_right, Bool.not_eq_true', Bool.not_eq_false', Bool.not_not] at c4
  · rw [c4, cond_true] at hk
    subst hk
    repeat ((conv => whnf); first | refine Cd.seq ?_ | refine Cd.cut ?_ | refine Cd.reg ?_ | refine Cd.block ?_ | refine Cd.cond ?_ | refine Cd.dreg ?_ | refine Cd.skip ?_ | refine Cd.ret ?_ | refine Cd.exit ?_ | refine Cd.loop ?_ | refine ⟨rfl, ?_⟩ | refine ⟨Nat.le_of_ble_eq_true rfl, ?_⟩ | refine ⟨.inl rfl, ?_⟩ | refine ⟨fun h => Bool.noConfusion h, ?_⟩ | refine .inl ⟨_, fun _ => ⟨purA rfl, (by first | exact ok70 l.A false f (by omega))⟩, .inl rfl, ?_⟩)
    conv => whnf
    refine ⟨[], ?_, rfl, trivial, rfl, ?_⟩
    · exact trivial
    try subst hk
    repeat' (first | exact trivial | rfl | exact .inl rfl | exact .inr rfl | exact id | exact (fun h => Bool.noConfusion h) | refine And.intro ?_ ?_)
  rw [c4, cond_false] at hk
  subst hk
  repeat ((conv => whnf); first | refine Cd.seq ?_ | refine Cd.cut ?_ | refine Cd.reg ?_ | refine Cd.block ?_ | refine Cd.cond ?_ | refine Cd.dreg ?_ | refine Cd.skip ?_ | refine Cd.ret ?_ | refine Cd.exit ?_ | refine Cd.loop ?_ | refine ⟨rfl, ?_⟩ | refine ⟨Nat.le_of_ble_eq_true rfl, ?_⟩ | refine ⟨.inl rfl, ?_⟩ | refine ⟨fun h => Bool.noConfusion h, ?_⟩ | refine .inl ⟨_, fun _ => ⟨purA rfl, (by first | exact ok70 l.I false f (by omega))⟩, .inl rfl, ?_⟩)
  conv => whnf
  refine ⟨[], ?_, rfl, trivial, rfl, ?_⟩
  · exact trivial
  try subst hk
  repeat' (first | exact trivial | rfl | exact .inl rfl | exact .inr rfl | exact id | exact (fun h => Bool.noConfusion h) | refine And.intro ?_ ?_)
def remF (l : Ls) (f : Int) : Ls × Int :=
  bif !chkL l then (l, 1) else bif !knownB f then (l, 2) else bif !hasL l f then (l, 4) else (⟨wo l.A f, wo l.I f, wo l.R f⟩, 0)
theorem wrong_split {l : Ls} {f : Int} {α : Type} (a : Int → α) (b : α) (c1 : (wrongF l f != 0) = true) : a (wrongF l f) = bif !chkL l then a 1 else bif !knownB f then a 2 else b := by
  unfold wrongF at c1 ⊢
  revert c1
  cases chkL l <;> cases knownB f <;> intro c1 <;> first | rfl | exact absurd c1 (by decide)
theorem wrong_ok {l : Ls} {f : Int} (c1 : (wrongF l f != 0) = false) : chkL l = true ∧ knownB f = true := by
  unfold wrongF at c1
  revert c1
  cases chkL l <;> cases knownB f <;> intro c1 <;> first | exact ⟨rfl, rfl⟩ | exact absurd c1 (by decide)
set_option maxRecDepth 20000 in
set_option maxHeartbeats 1000000 in
theorem ok38 (l : Ls) (f : Int) (hl : SmallL l) : FnC Try.prog 38 [] [.agg l.c, .int .i64 f] (.tup [.agg (remF l f).1.c, .int .i64 (remF l f).2]) [] := by
  have h1 := hl.a; have h2 := hl.i; have h3 := hl.r
  refine fn_okC (ob0 := []) (rc := rc38) (rvs := rv38) Try.func38 rfl rcq38 rvq38 (show 2 ≤ _ by decide) ?_
  generalize hk : remF l f = q
  rw [remF] at hk
  repeat ((conv => whnf); first | refine Cd.seq ?_ | refine Cd.cut ?_ | refine Cd.reg ?_ | refine Cd.block ?_ | refine Cd.cond ?_ | refine Cd.dreg ?_ | refine Cd.skip ?_ | refine Cd.ret ?_ | refine Cd.exit ?_ | refine Cd.loop ?_ | refine ⟨rfl, ?_⟩ | refine ⟨Nat.le_of_ble_eq_true rfl, ?_⟩ | refine ⟨.inl rfl, ?_⟩ | refine ⟨fun h => Bool.noConfusion h, ?_⟩ | refine .inl ⟨_, fun _ => ⟨purA rfl, (by first | exact ok66 l f hl)⟩, .inl rfl, ?_⟩)
  conv => whnf
  refine ⟨fun c1 => ?_, fun c1 => ?_⟩ <;> try simp only [Bool.cond_true_left, Bool.cond_false_right, Bool.not_eq_true', Bool.not_eq_false', Bool.not_not] at c1
  · rw [← wrong_split (fun e => (l, e)) _ c1] at hk
    subst hk
    repeat ((conv => whnf); first | refine Cd.seq ?_ | refine Cd.cut ?_ | refine Cd.reg ?_ | refine Cd.block ?_ | refine Cd.cond ?_ | refine Cd.dreg ?_ | refine Cd.skip ?_ | refine Cd.ret ?_ | refine Cd.exit ?_ | refine Cd.loop ?_ | refine ⟨rfl, ?_⟩ | refine ⟨Nat.le_of_ble_eq_true rfl, ?_⟩ | refine ⟨.inl rfl, ?_⟩ | refine ⟨fun h => Bool.noConfusion h, ?_⟩ | refine .inl ⟨_, fun _ => ⟨purA rfl, (by first | exact ok65 l hl)⟩, .inl rfl, ?_⟩)
    conv => whnf
    refine ⟨[], ?_, rfl, trivial, rfl, ?_⟩
    · exact trivial
    try subst hk
    repeat' (first | exact trivial | rfl | exact .inl rfl | exact .inr rfl | exact id | exact (fun h => Bool.noConfusion h) | refine And.intro ?_ ?_)
  obtain ⟨e1, e2⟩ := wrong_ok c1
  rw [e1, e2] at hk
  simp only [Bool.not_true, cond_false] at hk
  repeat ((conv => whnf); first | refine Cd.seq ?_ | refine Cd.cut ?_ | refine Cd.reg ?_ | refine Cd.block ?_ | refine Cd.cond ?_ | refine Cd.dreg ?_ | refine Cd.skip ?_ | refine Cd.ret ?_ | refine Cd.exit ?_ | refine Cd.loop ?_ | refine ⟨rfl, ?_⟩ | refine ⟨Nat.le_of_ble_eq_true rfl, ?_⟩ | refine ⟨.inl rfl, ?_⟩ | refine ⟨fun h => Bool.noConfusion h, ?_⟩ | refine .inl ⟨_, fun _ => ⟨purA rfl, (by first | exact ok67 l f hl)⟩, .inl rfl, ?_⟩)
  conv => whnf
  refine ⟨fun c2 => ?_, fun c2 => ?_⟩ <;> try simp only [Bool.cond_true_left, Bool.cond_false_right, Bool.not_eq_true', Bool.not_eq_false', Bool.not_not] at c2
  · rw [show (!hasL l f) = true by rw [c2]; rfl, cond_true] at hk
    subst hk
    repeat ((conv => whnf); first | refine Cd.seq ?_ | refine Cd.cut ?_ | refine Cd.reg ?_ | refine Cd.block ?_ | refine Cd.cond ?_ | refine Cd.dreg ?_ | refine Cd.skip ?_ | refine Cd.ret ?_ | refine Cd.exit ?_ | refine Cd.loop ?_ | refine ⟨rfl, ?_⟩ | refine ⟨Nat.le_of_ble_eq_true rfl, ?_⟩ | refine ⟨.inl rfl, ?_⟩ | refine ⟨fun h => Bool.noConfusion h, ?_⟩ | refine .inl ⟨_, fun _ => ⟨purA rfl, (by first | exact ok65 l hl)⟩, .inl rfl, ?_⟩)
    conv => whnf
    refine ⟨[], ?_, rfl, trivial, rfl, ?_⟩
    · exact trivial
    try subst hk
    repeat' (first | exact trivial | rfl | exact .inl rfl | exact .inr rfl | exact id | exact (fun h => Bool.noConfusion h) | refine And.intro ?_ ?_)
  rw [show (!hasL l f) = false by rw [c2]; rfl, cond_false] at hk
  subst hk
  repeat ((conv => whnf); first | refine Cd.seq ?_ | refine Cd.cut ?_ | refine Cd.reg ?_ | refine Cd.block ?_ | refine Cd.cond ?_ | refine Cd.dreg ?_ | refine Cd.skip ?_ | refine Cd.ret ?_ | refine Cd.exit ?_ | refine Cd.loop ?_ | refine ⟨rfl, ?_⟩ | refine ⟨Nat.le_of_ble_eq_true rfl, ?_⟩ | refine ⟨.inl rfl, ?_⟩ | refine ⟨fun h => Bool.noConfusion h, ?_⟩ | refine .inl ⟨_, fun _ => ⟨purA rfl, (by first | exact ok71 l.A false f (by omega) | exact ok71 l.I false f (by omega) | exact ok71 l.R false f (by omega))⟩, .inl rfl, ?_⟩)
  conv => whnf
  refine ⟨[], ?_, rfl, trivial, rfl, ?_⟩
  · exact trivial
  try subst hk
  repeat' (first | exact trivial | rfl | exact .inl rfl | exact .inr rfl | exact id | exact (fun h => Bool.noConfusion h) | refine And.intro ?_ ?_)
set_option maxRecDepth 20000 in
set_option maxHeartbeats 1000000 in
theorem ok39 (l : Ls) (f : Int) (hl : SmallL l) : FnC Try.prog 39 [] [.agg l.c, .int .i64 f] (.tup [.agg (remF l f).1.c, .int .i64 (remF l f).2]) [] := by
  have h1 := hl.a; have h2 := hl.i; have h3 := hl.r
  refine fn_okC (ob0 := []) (rc := rc39) (rvs := rv39) Try.func39 rfl rcq39 rvq39 (show 2 ≤ _ by decide) ?_
  generalize hk : remF l f = q
  rw [remF] at hk
  repeat ((conv => whnf); first | refine Cd.seq ?_ | refine Cd.cut ?_ | refine Cd.reg ?_ | refine Cd.block ?_ | refine Cd.cond ?_ | refine Cd.dreg ?_ | refine Cd.skip ?_ | refine Cd.ret ?_ | refine Cd.exit ?_ | refine Cd.loop ?_ | refine ⟨rfl, ?_⟩ | refine ⟨Nat.le_of_ble_eq_true rfl, ?_⟩ | refine ⟨.inl rfl, ?_⟩ | refine ⟨fun h => Bool.noConfusion h, ?_⟩ | refine .inl ⟨_, fun _ => ⟨purA rfl, (by first | exact ok43 l hl)⟩, .inl rfl, ?_⟩)
  conv => whnf
  refine ⟨fun c1 => ?_, fun c1 => ?_⟩ <;> try simp only [Bool.cond_true_left, Bool.cond_false_right, Bool.not_eq_true', Bool.not_eq_false', Bool.not_not] at c1
  · rw [show (!chkL l) = true by rw [c1]; rfl, cond_true] at hk
    subst hk
    repeat ((conv => whnf); first | refine Cd.seq ?_ | refine Cd.cut ?_ | refine Cd.reg ?_ | refine Cd.block ?_ | refine Cd.cond ?_ | refine Cd.dreg ?_ | refine Cd.skip ?_ | refine Cd.ret ?_ | refine Cd.exit ?_ | refine Cd.loop ?_ | refine ⟨rfl, ?_⟩ | refine ⟨Nat.le_of_ble_eq_true rfl, ?_⟩ | refine ⟨.inl rfl, ?_⟩ | refine ⟨fun h => Bool.noConfusion h, ?_⟩)
    conv => whnf
    refine ⟨[], ?_, rfl, trivial, rfl, ?_⟩
    · exact trivial
    try subst hk
    repeat' (first | exact trivial | rfl | exact .inl rfl | exact .inr rfl | exact id | exact (fun h => Bool.noConfusion h) | refine And.intro ?_ ?_)
  rw [show (!chkL l) = false by rw [c1]; rfl, cond_false] at hk
  repeat ((conv => whnf); first | refine Cd.seq ?_ | refine Cd.cut ?_ | refine Cd.reg ?_ | refine Cd.block ?_ | refine Cd.cond ?_ | refine Cd.dreg ?_ | refine Cd.skip ?_ | refine Cd.ret ?_ | refine Cd.exit ?_ | refine Cd.loop ?_ | refine ⟨rfl, ?_⟩ | refine ⟨Nat.le_of_ble_eq_true rfl, ?_⟩ | refine ⟨.inl rfl, ?_⟩ | refine ⟨fun h => Bool.noConfusion h, ?_⟩)
  conv => whnf
  rw [known_bif]
  refine ⟨fun c2 => ?_, fun c2 => ?_⟩ <;> try simp only [Bool.cond_true_left, Bool.cond_false_right, Bool.not_eq_true', Bool.not_eq_false', Bool.not_not] at c2
  · rw [show (!knownB f) = true by rw [c2]; rfl, cond_true] at hk
    subst hk
    repeat ((conv => whnf); first | refine Cd.seq ?_ | refine Cd.cut ?_ | refine Cd.reg ?_ | refine Cd.block ?_ | refine Cd.cond ?_ | refine Cd.dreg ?_ | refine Cd.skip ?_ | refine Cd.ret ?_ | refine Cd.exit ?_ | refine Cd.loop ?_ | refine ⟨rfl, ?_⟩ | refine ⟨Nat.le_of_ble_eq_true rfl, ?_⟩ | refine ⟨.inl rfl, ?_⟩ | refine ⟨fun h => Bool.noConfusion h, ?_⟩)
    conv => whnf
    refine ⟨[], ?_, rfl, trivial, rfl, ?_⟩
    · exact trivial
    try subst hk
    repeat' (first | exact trivial | rfl | exact .inl rfl | exact .inr rfl | exact id | exact (fun h => Bool.noConfusion h) | refine And.intro ?_ ?_)
  rw [show (!knownB f) = false by rw [c2]; rfl, cond_false] at hk
  repeat ((conv => whnf); first | refine Cd.seq ?_ | refine Cd.cut ?_ | refine Cd.reg ?_ | refine Cd.block ?_ | refine Cd.cond ?_ | refine Cd.dreg ?_ | refine Cd.skip ?_ | refine Cd.ret ?_ | refine Cd.exit ?_ | refine Cd.loop ?_ | refine ⟨rfl, ?_⟩ | refine ⟨Nat.le_of_ble_eq_true rfl, ?_⟩ | refine ⟨.inl rfl, ?_⟩ | refine ⟨fun h => Bool.noConfusion h, ?_⟩ | refine .inl ⟨_, fun _ => ⟨purA rfl, (by first | exact ok69 l f hl)⟩, .inl rfl, ?_⟩)
  conv => whnf
  refine ⟨fun c3 => ?_, fun c3 => ?_⟩ <;> try simp only [Bool.cond_true_left, Bool.cond_false_right, Bool.not_eq_true', Bool.not_eq_false', Bool.not_not] at c3
  · rw [show (!hasL l f) = true by rw [c3]; rfl, cond_true] at hk
    subst hk
    repeat ((conv => whnf); first | refine Cd.seq ?_ | refine Cd.cut ?_ | refine Cd.reg ?_ | refine Cd.block ?_ | refine Cd.cond ?_ | refine Cd.dreg ?_ | refine Cd.skip ?_ | refine Cd.ret ?_ | refine Cd.exit ?_ | refine Cd.loop ?_ | refine ⟨rfl, ?_⟩ | refine ⟨Nat.le_of_ble_eq_true rfl, ?_⟩ | refine ⟨.inl rfl, ?_⟩ | refine ⟨fun h => Bool.noConfusion h, ?_⟩)
    conv => whnf
    refine ⟨[], ?_, rfl, trivial, rfl, ?_⟩
    · exact trivial
    try subst hk
    repeat' (first | exact trivial | rfl | exact .inl rfl | exact .inr rfl | exact id | exact (fun h => Bool.noConfusion h) | refine And.intro ?_ ?_)
  rw [show (!hasL l f) = false by rw [c3]; rfl, cond_false] at hk
  subst hk
  repeat ((conv => whnf); first | refine Cd.seq ?_ | refine Cd.cut ?_ | refine Cd.reg ?_ | refine Cd.block ?_ | refine Cd.cond ?_ | refine Cd.dreg ?_ | refine Cd.skip ?_ | refine Cd.ret ?_ | refine Cd.exit ?_ | refine Cd.loop ?_ | refine ⟨rfl, ?_⟩ | refine ⟨Nat.le_of_ble_eq_true rfl, ?_⟩ | refine ⟨.inl rfl, ?_⟩ | refine ⟨fun h => Bool.noConfusion h, ?_⟩ | refine .inl ⟨_, fun _ => ⟨purA rfl, (by first | exact ok72 l.A false f (by omega) | exact ok72 l.I false f (by omega) | exact ok72 l.R false f (by omega))⟩, .inl rfl, ?_⟩)
  conv => whnf
  refine ⟨[], ?_, rfl, trivial, rfl, ?_⟩
  · exact trivial
  try subst hk
  repeat' (first | exact trivial | rfl | exact .inl rfl | exact .inr rfl | exact id | exact (fun h => Bool.noConfusion h) | refine And.intro ?_ ?_)
end Go.Proofs.Ytcifhjkodbaghaa

