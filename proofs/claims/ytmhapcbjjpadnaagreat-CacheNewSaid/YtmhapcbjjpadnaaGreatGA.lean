/- Caches. -/
import Derived.Test.YtmhapcbjjpadnaaGreatG7
import Derived.Test.YtmhapcbjjpadnaaGreatG9
import Derived.KernelRfl
set_option linter.unusedSimpArgs false
set_option linter.unusedVariables false
set_option maxRecDepth 40000
namespace Go.Proofs.YtmhapcbjjpadnaaGreat
open Go Go.Sk Go.RowKit

theorem resX_of {P : Program} {N : Nat} {live : List Nat} {ks : List Ct} {c : Code} {rc r2 : RC} (h : resC P N c = some rc) (h2 : (match optC rc live with | some r => cutsC ks r | none => none) = some r2) : resX P N live ks c = some r2 := by
  unfold resX
  rw [h]
  exact h2
theorem ok342 : FnC Tryz.prog 342 [] [.int .i64 128] (.int .i64 7) [] := by
  refine fn_okX (ob0 := []) [] Tryz.func342 rfl rfl rfl rfl ?_
  repeat ((conv => whnf); first | refine Cd.go ?_ | refine ⟨rfl, ?_⟩ | refine rq_dec ⟨.inl rfl, rfl⟩ ?_ | refine rq_dec rfl ?_ | refine ⟨Nat.le_of_ble_eq_true rfl, ?_⟩ | refine ⟨.inl rfl, ?_⟩ | refine ⟨fun _ => ⟨rfl, Nat.le_of_ble_eq_true rfl⟩, ?_⟩ | refine ⟨fun _ => Nat.le_of_ble_eq_true rfl, ?_⟩ | refine ⟨fun h => Bool.noConfusion h, ?_⟩)
  conv => whnf
  refine ⟨[], trivial, rfl, trivial, rfl, ?_⟩
  try subst hk
  repeat' (first | exact trivial | rfl | exact .inl rfl | exact .inr rfl | exact id | exact (fun h => Bool.noConfusion h) | refine And.intro ?_ ?_)
def slotB (s : Int) : Bool := decide (0 ≤ s) && decide (s < 7)
theorem ok297 (s : Int) : FnC Tryz.prog 297 [] [.int .i64 s] (.bool (slotB s)) [] := by
  refine fn_okX (ob0 := []) [] Tryz.func297 rfl rfl rfl rfl ?_
  rw [show slotB s = bif decide (0 ≤ s) then decide (s < 7) else false by unfold slotB; cases decide (0 ≤ s) <;> rfl]
  repeat ((conv => whnf); first | refine Cd.go ?_ | refine ⟨rfl, ?_⟩ | refine rq_dec ⟨.inl rfl, rfl⟩ ?_ | refine rq_dec rfl ?_ | refine ⟨Nat.le_of_ble_eq_true rfl, ?_⟩ | refine ⟨.inl rfl, ?_⟩ | refine ⟨fun _ => ⟨rfl, Nat.le_of_ble_eq_true rfl⟩, ?_⟩ | refine ⟨fun _ => Nat.le_of_ble_eq_true rfl, ?_⟩ | refine ⟨fun h => Bool.noConfusion h, ?_⟩ | refine .inl ⟨_, fun _ => ⟨purA rfl, (by first | exact ok342)⟩, .inl rfl, ?_⟩)
  conv => whnf
  refine ⟨[], trivial, rfl, trivial, rfl, ?_⟩
  try subst hk
  repeat' (first | exact trivial | rfl | exact .inl rfl | exact .inr rfl | exact id | exact (fun h => Bool.noConfusion h) | refine And.intro ?_ ?_)
def secF (s i : Int) : Int := bif (!slotB s || decide (i < 0)) || decide (2 ≤ i) then -1 else IntKind.i64.wrap (IntKind.i64.wrap (s * 18) + i)
theorem ok221 (s i : Int) : FnC Tryz.prog 221 [] [.int .i64 s, .int .i64 i] (.int .i64 (secF s i)) [] := by
  refine fn_okX (ob0 := []) [] Tryz.func221 rfl rfl rfl rfl ?_
  generalize hk : secF s i = q
  repeat ((conv => whnf); first | refine Cd.go ?_ | refine ⟨rfl, ?_⟩ | refine rq_dec ⟨.inl rfl, rfl⟩ ?_ | refine rq_dec rfl ?_ | refine ⟨Nat.le_of_ble_eq_true rfl, ?_⟩ | refine ⟨.inl rfl, ?_⟩ | refine ⟨fun _ => ⟨rfl, Nat.le_of_ble_eq_true rfl⟩, ?_⟩ | refine ⟨fun _ => Nat.le_of_ble_eq_true rfl, ?_⟩ | refine ⟨fun h => Bool.noConfusion h, ?_⟩ | refine .inl ⟨_, fun _ => ⟨purA rfl, (by first | exact ok297 s)⟩, .inl rfl, ?_⟩)
  conv => whnf
  refine cq_intro (fun h1 => ?_) (fun h1 => ?_) <;> try simp only [Bool.cond_true_left, Bool.cond_false_right, Bool.not_eq_true', Bool.not_eq_false', Bool.not_not] at h1
  · rw [secF, h1, cond_true] at hk
    subst hk
    repeat ((conv => whnf); first | refine Cd.go ?_ | refine ⟨rfl, ?_⟩ | refine rq_dec ⟨.inl rfl, rfl⟩ ?_ | refine rq_dec rfl ?_ | refine ⟨Nat.le_of_ble_eq_true rfl, ?_⟩ | refine ⟨.inl rfl, ?_⟩ | refine ⟨fun _ => ⟨rfl, Nat.le_of_ble_eq_true rfl⟩, ?_⟩ | refine ⟨fun _ => Nat.le_of_ble_eq_true rfl, ?_⟩ | refine ⟨fun h => Bool.noConfusion h, ?_⟩)
    conv => whnf
    refine ⟨[], trivial, rfl, trivial, rfl, ?_⟩
    try subst hk
    repeat' (first | exact trivial | rfl | exact .inl rfl | exact .inr rfl | exact id | exact (fun h => Bool.noConfusion h) | refine And.intro ?_ ?_)
  rw [secF, h1, cond_false] at hk
  subst hk
  repeat ((conv => whnf); first | refine Cd.go ?_ | refine ⟨rfl, ?_⟩ | refine rq_dec ⟨.inl rfl, rfl⟩ ?_ | refine rq_dec rfl ?_ | refine ⟨Nat.le_of_ble_eq_true rfl, ?_⟩ | refine ⟨.inl rfl, ?_⟩ | refine ⟨fun _ => ⟨rfl, Nat.le_of_ble_eq_true rfl⟩, ?_⟩ | refine ⟨fun _ => Nat.le_of_ble_eq_true rfl, ?_⟩ | refine ⟨fun h => Bool.noConfusion h, ?_⟩)
  conv => whnf
  refine ⟨[], trivial, rfl, trivial, rfl, ?_⟩
  try subst hk
  repeat' (first | exact trivial | rfl | exact .inl rfl | exact .inr rfl | exact id | exact (fun h => Bool.noConfusion h) | refine And.intro ?_ ?_)
theorem secF_neg (s : Int) : decide (secF s 0 < 0) = !slotB s := by
  unfold secF slotB
  by_cases h1 : 0 ≤ s <;> by_cases h2 : s < 7
  · have : IntKind.i64.wrap (s * 18) = s * 18 := wrapI (by omega) (by omega)
    simp [h1, h2, this, wrapI (n := s * 18) (by omega) (by omega)]; omega
  all_goals simp [h1, h2]

def rowsP (L : List (Int × Int)) : List (List V) := L.map fun p => [.int .i64 p.1, .int .i64 p.2]
theorem rowsP_len (L : List (Int × Int)) : (rowsP L).length = L.length := by simp [rowsP]
theorem rowsP_getK (L : List (Int × Int)) (k : Nat) (h : k < L.length) : (rowsP L).getD ((k : Int)).toNat [] = [.int .i64 (L.getD k (0, 0)).1, .int .i64 (L.getD k (0, 0)).2] := by
  rw [Int.toNat_natCast]
  simp [rowsP, List.getD_eq_getElem?_getD, h]
def badP (p : Int × Int) : Bool := (decide (p.1 < 0) || decide (4 ≤ p.1)) || !slotB p.2
def badL (l : List (Int × Int)) (j : Nat) : Bool := badP (l.getD j (0, 0)) || decide (l.getD j (0, 0) ∈ l.take j)
def locF (l : List (Int × Int)) : Bool := noneBad (badL l) l.length && (decide (1 ≤ (l.length : Int)) && decide ((l.length : Int) ≤ 8))
def rc128 : RC :=
  (.seq
  (.reg [⟨(some 2), none, (.mv (.c (.bool false)))⟩] [])
  (.seq
  (.reg [⟨(some 6), none, (.mkmap 2)⟩,
    ⟨(some 3), none, (.mv (.t 6))⟩] [6])
  (.seq
  (.seq
  (.reg [⟨(some 7), none, (.mv (.t 0))⟩,
    ⟨(some 8), none, (.len (.t 7))⟩,
    ⟨(some 9), none, (.mv (.c (.int .i64 0)))⟩] [])
  (.block 0
   (.loop
    (.seq
    (.reg [⟨(some 10), none, (.bin .lss (.t 9) (.t 8))⟩] [])
    (.seq
    (.cond (.t 10)
     .skip
     (.exit 0))
    (.seq
    (.block 1
     (.seq
     (.reg [⟨(some 11), none, (.iaddr 2 (.t 7) (.t 9))⟩,
       ⟨(some 12), none, (.ld true 2 (.t 11))⟩,
       ⟨(some 5), none, (.alloc [(.int .i64 0), (.int .i64 0)])⟩,
       ⟨none, none, (.st 2 (.t 5) (.t 12))⟩] [11, 12])
     (.seq
     (.seq
     (.reg [⟨(some 13), none, (.faddr 0 (.t 5))⟩,
       ⟨(some 14), none, (.ld false 1 (.t 13))⟩,
       ⟨(some 15), none, (.bin .lss (.t 14) (.c (.int .i64 0)))⟩,
       ⟨(some 16), none, (.mv (.t 15))⟩,
       ⟨(some 17), (some (16, false)), (.faddr 0 (.t 5))⟩,
       ⟨(some 18), (some (16, false)), (.ld false 1 (.t 17))⟩,
       ⟨(some 19), (some (16, false)), (.bin .geq (.t 18) (.c (.int .i64 4)))⟩,
       ⟨(some 20), none, (.pick (.t 16) (.c (.bool true)) (.t 19))⟩,
       ⟨(some 21), none, (.mv (.t 20))⟩,
       ⟨(some 22), (some (21, false)), (.faddr 1 (.t 5))⟩,
       ⟨(some 23), (some (21, false)), (.ld false 1 (.t 22))⟩,
       ⟨(some 24), (some (21, false)), (.call 221 [(.t 23), (.c (.int .i64 0))])⟩,
       ⟨(some 25), (some (21, false)), (.bin .lss (.t 24) (.c (.int .i64 0)))⟩,
       ⟨(some 26), none, (.pick (.t 21) (.c (.bool true)) (.t 25))⟩,
       ⟨(some 27), none, (.mv (.t 26))⟩,
       ⟨(some 28), (some (27, false)), (.mv (.t 3))⟩,
       ⟨(some 29), (some (27, false)), (.ld true 2 (.t 5))⟩,
       ⟨(some 30), (some (27, false)), (.mgetp (.bool false) false (.t 28) (.t 29))⟩,
       ⟨(some 31), none, (.pick (.t 27) (.c (.bool true)) (.t 30))⟩] [13, 14, 15, 16, 17, 18, 19, 20, 21, 22, 23, 24, 25, 26, 27, 28, 29, 30])
     (.cond (.t 31)
      (.seq
      (.reg [⟨(some 2), none, (.mv (.c (.bool false)))⟩] [])
      .ret)
      .skip))
     (.reg [⟨(some 32), none, (.mv (.t 3))⟩,
       ⟨(some 33), none, (.ld true 2 (.t 5))⟩,
       ⟨none, none, (.mputp (.t 32) (.t 33) (.c (.bool true)))⟩] [32, 33]))))
    (.reg [⟨(some 34), none, (.bin .add (.t 9) (.c (.int .i64 1)))⟩,
      ⟨(some 9), none, (.mv (.t 34))⟩] [34])))))))
  (.seq
  (.reg [⟨(some 35), none, (.mv (.t 0))⟩,
    ⟨(some 36), none, (.len (.t 35))⟩,
    ⟨(some 37), none, (.bin .geq (.t 36) (.c (.int .i64 1)))⟩,
    ⟨(some 38), none, (.mv (.t 37))⟩,
    ⟨(some 39), (some (38, true)), (.mv (.t 0))⟩,
    ⟨(some 40), (some (38, true)), (.len (.t 39))⟩,
    ⟨(some 41), (some (38, true)), (.bin .leq (.t 40) (.c (.int .i64 8)))⟩,
    ⟨(some 42), none, (.pick (.t 38) (.t 41) (.c (.bool false)))⟩,
    ⟨(some 2), none, (.mv (.t 42))⟩] [35, 36, 37, 38, 39, 40, 41, 42])
  .ret))))
theorem rcq128 : resC Go.Proofs.Tryz.prog Go.Proofs.Tryz.f128.ntmps ((Go.Proofs.Tryz.f128.body).getD .skip) = some (strip rc128) := by kernel_rfl
set_option maxRecDepth 20000 in
set_option maxHeartbeats 1000000 in
theorem ok128 (l : List (Int × Int)) (t : Bool) (hl : l.length ≤ 100000) : FnC Tryz.prog 128 [] [.lst 2 t (rowsP l)] (.bool (locF l)) [] := by
  refine fn_okX [] Tryz.func128 rfl rfl (resX_of rcq128 rfl) rfl ?_
  generalize hk : locF l = q
  rw [locF] at hk
  repeat ((conv => whnf); first | refine Cd.go ?_ | refine ⟨rfl, ?_⟩ | refine rq_dec ⟨.inl rfl, rfl⟩ ?_ | refine rq_dec rfl ?_ | refine ⟨Nat.le_of_ble_eq_true rfl, ?_⟩ | refine ⟨.inl rfl, ?_⟩ | refine ⟨fun _ => ⟨rfl, Nat.le_of_ble_eq_true rfl⟩, ?_⟩ | refine ⟨fun _ => Nat.le_of_ble_eq_true rfl, ?_⟩ | refine ⟨fun h => Bool.noConfusion h, ?_⟩)
  conv => whnf
  rw [rowsP_len]
  refine ⟨Nat × List (List Int × V), fun p => (p.1 ≤ l.length ∧ noneBad (badL l) p.1 = true) ∧ ∀ x, mgetV p.2 [x.1, x.2] (.bool false) = .bool (decide (x ∈ l.take p.1)), fun p => ⟨[(0, ⟨[], true, .lst 2 t (rowsP l)⟩), (3, ⟨[], true, .mp 0⟩), (7, ⟨[], true, .lst 2 t (rowsP l)⟩), (8, ⟨[], true, .int .i64 (l.length : Int)⟩), (9, ⟨[], true, .int .i64 (p.1 : Int)⟩)],
    [(0, .mp (2, p.2))], 1⟩, fun p => l.length - p.1, ⟨(0, []), ⟨⟨by simp, rfl⟩, fun f => by simp [mgetV]⟩, ?_⟩, fun p hp => ?_⟩
  · refine viewI [some 0] rfl rfl ?_ rfl ?_ rfl ?_
    repeat' (first | exact trivial | rfl | exact .inl rfl | exact .inr rfl | exact id | exact (fun h => Bool.noConfusion h) | refine And.intro ?_ ?_)
  obtain ⟨i, M⟩ := p
  obtain ⟨⟨hp1, hp2⟩, hM⟩ := hp
  dsimp only at hp1 hp2 hM ⊢
  repeat ((conv => whnf); first | refine Cd.go ?_ | refine ⟨rfl, ?_⟩ | refine rq_dec ⟨.inl rfl, rfl⟩ ?_ | refine rq_dec rfl ?_ | refine ⟨Nat.le_of_ble_eq_true rfl, ?_⟩ | refine ⟨.inl rfl, ?_⟩ | refine ⟨fun _ => ⟨rfl, Nat.le_of_ble_eq_true rfl⟩, ?_⟩ | refine ⟨fun _ => Nat.le_of_ble_eq_true rfl, ?_⟩ | refine ⟨fun h => Bool.noConfusion h, ?_⟩)
  conv => whnf
  refine cq_intro (fun b1 => ?_) (fun b1 => ?_) <;> try simp only [Bool.cond_true_left, Bool.cond_false_right, Bool.not_eq_true', Bool.not_eq_false', Bool.not_not] at b1
  · have b1 : i < l.length := by simp at b1; omega
    have hi1 : IntKind.i64.wrap ((i : Int) + 1) = ((i + 1 : Nat) : Int) := by rw [wrapI (by omega) (by omega)]; omega
    repeat ((conv => whnf); first | refine Cd.go ?_ | refine ⟨rfl, ?_⟩ | refine rq_dec ⟨.inl rfl, rfl⟩ ?_ | refine rq_dec rfl ?_ | refine ⟨Nat.le_of_ble_eq_true rfl, ?_⟩ | refine ⟨.inl rfl, ?_⟩ | refine ⟨fun _ => ⟨rfl, Nat.le_of_ble_eq_true rfl⟩, ?_⟩ | refine ⟨fun _ => Nat.le_of_ble_eq_true rfl, ?_⟩ | refine ⟨fun h => Bool.noConfusion h, ?_⟩)
    conv => whnf
    first | refine rq_dec (⟨rfl, by omega, by rw [rowsP_len]; omega⟩) ?_ | refine gq_dec (fun _ => ⟨rfl, by omega, by rw [rowsP_len]; omega⟩) ?_ | refine ⟨fun _ => ⟨rfl, by omega, by rw [rowsP_len]; omega⟩, ?_⟩
    rw [rowsP_getK l i b1]
    have hbd : badL l i = (badP (l.getD i (0, 0)) || decide (l.getD i (0, 0) ∈ l.take i)) := rfl
    have hmem : ∀ y, y ∈ l.take (i + 1) ↔ y ∈ l.take i ∨ y = l.getD i (0, 0) := fun y => by
      rw [List.take_succ_eq_append_getElem b1, List.mem_append, List.mem_singleton]
      simp [List.getD_eq_getElem?_getD, b1]
    generalize l.getD i (0, 0) = f at hbd hmem ⊢
    obtain ⟨d, s⟩ := f
    repeat ((conv => whnf); first | refine Cd.go ?_ | refine ⟨rfl, ?_⟩ | refine rq_dec ⟨.inl rfl, rfl⟩ ?_ | refine rq_dec rfl ?_ | refine ⟨Nat.le_of_ble_eq_true rfl, ?_⟩ | refine ⟨.inl rfl, ?_⟩ | refine ⟨fun _ => ⟨rfl, Nat.le_of_ble_eq_true rfl⟩, ?_⟩ | refine ⟨fun _ => Nat.le_of_ble_eq_true rfl, ?_⟩ | refine ⟨fun h => Bool.noConfusion h, ?_⟩ | refine .inl ⟨_, fun _ => ⟨purA rfl, (by first | exact ok221 s 0)⟩, .inl rfl, ?_⟩)
    conv => whnf
    rw [hM (d, s)]
    repeat ((conv => whnf); first | refine Cd.go ?_ | refine ⟨rfl, ?_⟩ | refine rq_dec ⟨.inl rfl, rfl⟩ ?_ | refine rq_dec rfl ?_ | refine ⟨Nat.le_of_ble_eq_true rfl, ?_⟩ | refine ⟨.inl rfl, ?_⟩ | refine ⟨fun _ => ⟨rfl, Nat.le_of_ble_eq_true rfl⟩, ?_⟩ | refine ⟨fun _ => Nat.le_of_ble_eq_true rfl, ?_⟩ | refine ⟨fun h => Bool.noConfusion h, ?_⟩)
    conv => whnf
    refine cq_intro (fun b2 => ?_) (fun b2 => ?_) <;> try simp only [Bool.cond_true_left, Bool.cond_false_right, Bool.not_eq_true', Bool.not_eq_false', Bool.not_not] at b2
    · have b2 : badL l i = true := by rw [hbd, ← b2, badP, secF_neg]
      rw [noneBad_bad b1 b2] at hk
      have hk : q = false := by rw [← hk]; rfl
      subst hk
      repeat ((conv => whnf); first | refine Cd.go ?_ | refine ⟨rfl, ?_⟩ | refine rq_dec ⟨.inl rfl, rfl⟩ ?_ | refine rq_dec rfl ?_ | refine ⟨Nat.le_of_ble_eq_true rfl, ?_⟩ | refine ⟨.inl rfl, ?_⟩ | refine ⟨fun _ => ⟨rfl, Nat.le_of_ble_eq_true rfl⟩, ?_⟩ | refine ⟨fun _ => Nat.le_of_ble_eq_true rfl, ?_⟩ | refine ⟨fun h => Bool.noConfusion h, ?_⟩)
      conv => whnf
      refine ⟨[], trivial, rfl, trivial, rfl, ?_⟩
      try subst hk
      repeat' (first | exact trivial | rfl | exact .inl rfl | exact .inr rfl | exact id | exact (fun h => Bool.noConfusion h) | refine And.intro ?_ ?_)
    have b2 : badL l i = false := by rw [hbd, ← b2, badP, secF_neg]
    repeat ((conv => whnf); first | refine Cd.go ?_ | refine ⟨rfl, ?_⟩ | refine rq_dec ⟨.inl rfl, rfl⟩ ?_ | refine rq_dec rfl ?_ | refine ⟨Nat.le_of_ble_eq_true rfl, ?_⟩ | refine ⟨.inl rfl, ?_⟩ | refine ⟨fun _ => ⟨rfl, Nat.le_of_ble_eq_true rfl⟩, ?_⟩ | refine ⟨fun _ => Nat.le_of_ble_eq_true rfl, ?_⟩ | refine ⟨fun h => Bool.noConfusion h, ?_⟩)
    conv => whnf
    rw [hi1]
    refine ⟨(i + 1, msetV M [d, s] (.bool true)), ⟨⟨by show i + 1 ≤ _; omega, by show noneBad (badL l) (i + 1) = true; simp only [noneBad, hp2, b2]; rfl⟩, fun y => ?_⟩, ?_, by show l.length - (i + 1) < l.length - i; omega⟩
    · show mgetV (msetV M [d, s] (.bool true)) [y.1, y.2] (.bool false) = .bool (decide (y ∈ l.take (i + 1)))
      rw [mgetV_set, hM y]
      by_cases e : y = (d, s)
      · rw [if_pos (by rw [e]), show decide (y ∈ l.take (i + 1)) = true by rw [decide_eq_true_eq, hmem]; exact .inr e]
      · rw [if_neg (fun h => e (by simp only [List.cons.injEq, and_true] at h; exact Prod.ext h.1 h.2))]
        congr 1
        exact decide_eq_decide.2 (by rw [hmem]; exact ⟨.inl, fun h => h.resolve_right e⟩)
    refine viewI [some 0] rfl rfl ?_ rfl ?_ rfl ?_
    repeat' (first | exact trivial | rfl | exact .inl rfl | exact .inr rfl | exact id | exact (fun h => Bool.noConfusion h) | refine And.intro ?_ ?_)
  have b1 : i = l.length := by simp at b1; omega
  subst b1
  rw [hp2, Bool.true_and] at hk
  have hk : (bif decide (1 ≤ (l.length : Int)) then decide ((l.length : Int) ≤ 8) else false) = q := by rw [← hk]; cases decide (1 ≤ (l.length : Int)) <;> rfl
  rw [← rowsP_len] at hk
  subst hk
  repeat ((conv => whnf); first | refine Cd.go ?_ | refine ⟨rfl, ?_⟩ | refine rq_dec ⟨.inl rfl, rfl⟩ ?_ | refine rq_dec rfl ?_ | refine ⟨Nat.le_of_ble_eq_true rfl, ?_⟩ | refine ⟨.inl rfl, ?_⟩ | refine ⟨fun _ => ⟨rfl, Nat.le_of_ble_eq_true rfl⟩, ?_⟩ | refine ⟨fun _ => Nat.le_of_ble_eq_true rfl, ?_⟩ | refine ⟨fun h => Bool.noConfusion h, ?_⟩)
  conv => whnf
  refine ⟨[], trivial, rfl, trivial, rfl, ?_⟩
  try subst hk
  repeat' (first | exact trivial | rfl | exact .inl rfl | exact .inr rfl | exact id | exact (fun h => Bool.noConfusion h) | refine And.intro ?_ ?_)
end Go.Proofs.YtmhapcbjjpadnaaGreat

set_option maxRecDepth 40000
namespace Go.Proofs.YtmhapcbjjpadnaaGreat
open Go Go.Sk Go.RowKit

structure Gr where
  lim : Int
  pro : Int
  chg : Int
deriving DecidableEq
def Gr.c (g : Gr) : List V := [.int .i64 g.lim, .int .i64 g.pro, .int .i64 g.chg]
def g0 : Gr := ⟨0, 0, 0⟩
def rowsG (L : List Gr) : List (List V) := L.map Gr.c
theorem rowsG_len (L : List Gr) : (rowsG L).length = L.length := by simp [rowsG]
theorem rowsG_getK (L : List Gr) (k : Nat) (h : k < L.length) : (rowsG L).getD ((k : Int)).toNat [] = (L.getD k g0).c := by
  rw [Int.toNat_natCast]
  simp [rowsG, List.getD_eq_getElem?_getD, h]
def badG (g : Gr) : Bool := ((((decide (g.lim < 1) || decide (64 < g.lim)) || decide (g.pro < 0)) || decide (g.lim < g.pro)) || decide (g.chg < 0)) || decide (64 < g.chg)
def badGl (l : List Gr) (j : Nat) : Bool := badG (l.getD j g0)
def grF (l : List Gr) : Bool := noneBad (badGl l) l.length && (decide (1 ≤ (l.length : Int)) && decide ((l.length : Int) ≤ 4))
set_option maxHeartbeats 1000000 in
theorem ok129 (l : List Gr) (t : Bool) (hl : l.length ≤ 100000) : FnC Tryz.prog 129 [] [.lst 3 t (rowsG l)] (.bool (grF l)) [] := by
  refine fn_okX (ob0 := []) [] Tryz.func129 rfl rfl rfl rfl ?_
  generalize hk : grF l = q
  rw [grF] at hk
  repeat ((conv => whnf); first | refine Cd.go ?_ | refine ⟨rfl, ?_⟩ | refine rq_dec ⟨.inl rfl, rfl⟩ ?_ | refine rq_dec rfl ?_ | refine ⟨Nat.le_of_ble_eq_true rfl, ?_⟩ | refine ⟨.inl rfl, ?_⟩ | refine ⟨fun _ => ⟨rfl, Nat.le_of_ble_eq_true rfl⟩, ?_⟩ | refine ⟨fun _ => Nat.le_of_ble_eq_true rfl, ?_⟩ | refine ⟨fun h => Bool.noConfusion h, ?_⟩)
  conv => whnf
  rw [rowsG_len]
  refine ⟨Nat, fun i => i ≤ l.length ∧ noneBad (badGl l) i = true, fun i => ⟨[(0, ⟨[], true, .lst 3 t (rowsG l)⟩), (5, ⟨[], true, .lst 3 t (rowsG l)⟩), (6, ⟨[], true, .int .i64 (l.length : Int)⟩), (7, ⟨[], true, .int .i64 (i : Int)⟩)], [], 0⟩, fun i => l.length - i, ⟨0, ⟨by simp, rfl⟩, ?_⟩, fun i hp => ?_⟩
  · refine viewI [] rfl rfl ?_ rfl ?_ rfl ?_
    repeat' (first | exact trivial | rfl | exact .inl rfl | exact .inr rfl | exact id | exact (fun h => Bool.noConfusion h) | refine And.intro ?_ ?_)
  obtain ⟨hp1, hp2⟩ := hp
  dsimp only at hp1 hp2 ⊢
  repeat ((conv => whnf); first | refine Cd.go ?_ | refine ⟨rfl, ?_⟩ | refine rq_dec ⟨.inl rfl, rfl⟩ ?_ | refine rq_dec rfl ?_ | refine ⟨Nat.le_of_ble_eq_true rfl, ?_⟩ | refine ⟨.inl rfl, ?_⟩ | refine ⟨fun _ => ⟨rfl, Nat.le_of_ble_eq_true rfl⟩, ?_⟩ | refine ⟨fun _ => Nat.le_of_ble_eq_true rfl, ?_⟩ | refine ⟨fun h => Bool.noConfusion h, ?_⟩)
  conv => whnf
  refine cq_intro (fun b1 => ?_) (fun b1 => ?_) <;> try simp only [Bool.cond_true_left, Bool.cond_false_right, Bool.not_eq_true', Bool.not_eq_false', Bool.not_not] at b1
  · have b1 : i < l.length := by simp [rowsG_len] at b1; omega
    have hi1 : IntKind.i64.wrap ((i : Int) + 1) = ((i + 1 : Nat) : Int) := by rw [wrapI (by omega) (by omega)]; omega
    repeat ((conv => whnf); first | refine Cd.go ?_ | refine ⟨rfl, ?_⟩ | refine rq_dec ⟨.inl rfl, rfl⟩ ?_ | refine rq_dec rfl ?_ | refine ⟨Nat.le_of_ble_eq_true rfl, ?_⟩ | refine ⟨.inl rfl, ?_⟩ | refine ⟨fun _ => ⟨rfl, Nat.le_of_ble_eq_true rfl⟩, ?_⟩ | refine ⟨fun _ => Nat.le_of_ble_eq_true rfl, ?_⟩ | refine ⟨fun h => Bool.noConfusion h, ?_⟩)
    conv => whnf
    first | refine rq_dec (⟨rfl, by omega, by rw [rowsG_len]; omega⟩) ?_ | refine gq_dec (fun _ => ⟨rfl, by omega, by rw [rowsG_len]; omega⟩) ?_ | refine ⟨fun _ => ⟨rfl, by omega, by rw [rowsG_len]; omega⟩, ?_⟩
    rw [rowsG_getK l i b1]
    have hbd : badGl l i = badG (l.getD i g0) := rfl
    generalize l.getD i g0 = g at hbd
    repeat ((conv => whnf); first | refine Cd.go ?_ | refine ⟨rfl, ?_⟩ | refine rq_dec ⟨.inl rfl, rfl⟩ ?_ | refine rq_dec rfl ?_ | refine ⟨Nat.le_of_ble_eq_true rfl, ?_⟩ | refine ⟨.inl rfl, ?_⟩ | refine ⟨fun _ => ⟨rfl, Nat.le_of_ble_eq_true rfl⟩, ?_⟩ | refine ⟨fun _ => Nat.le_of_ble_eq_true rfl, ?_⟩ | refine ⟨fun h => Bool.noConfusion h, ?_⟩)
    conv => whnf
    refine cq_intro (fun b2 => ?_) (fun b2 => ?_) <;> try simp only [Bool.cond_true_left, Bool.cond_false_right, Bool.not_eq_true', Bool.not_eq_false', Bool.not_not] at b2
    · have b2 : badGl l i = true := by rw [hbd, ← b2]; rfl
      rw [noneBad_bad b1 b2] at hk
      have hk : q = false := by rw [← hk]; rfl
      subst hk
      repeat ((conv => whnf); first | refine Cd.go ?_ | refine ⟨rfl, ?_⟩ | refine rq_dec ⟨.inl rfl, rfl⟩ ?_ | refine rq_dec rfl ?_ | refine ⟨Nat.le_of_ble_eq_true rfl, ?_⟩ | refine ⟨.inl rfl, ?_⟩ | refine ⟨fun _ => ⟨rfl, Nat.le_of_ble_eq_true rfl⟩, ?_⟩ | refine ⟨fun _ => Nat.le_of_ble_eq_true rfl, ?_⟩ | refine ⟨fun h => Bool.noConfusion h, ?_⟩)
      conv => whnf
      refine ⟨[], trivial, rfl, trivial, rfl, ?_⟩
      try subst hk
      repeat' (first | exact trivial | rfl | exact .inl rfl | exact .inr rfl | exact id | exact (fun h => Bool.noConfusion h) | refine And.intro ?_ ?_)
    have b2 : badGl l i = false := by rw [hbd, ← b2]; rfl
    repeat ((conv => whnf); first | refine Cd.go ?_ | refine ⟨rfl, ?_⟩ | refine rq_dec ⟨.inl rfl, rfl⟩ ?_ | refine rq_dec rfl ?_ | refine ⟨Nat.le_of_ble_eq_true rfl, ?_⟩ | refine ⟨.inl rfl, ?_⟩ | refine ⟨fun _ => ⟨rfl, Nat.le_of_ble_eq_true rfl⟩, ?_⟩ | refine ⟨fun _ => Nat.le_of_ble_eq_true rfl, ?_⟩ | refine ⟨fun h => Bool.noConfusion h, ?_⟩)
    conv => whnf
    rw [hi1]
    refine ⟨i + 1, ⟨by show i + 1 ≤ _; omega, by show noneBad (badGl l) (i + 1) = true; simp only [noneBad, hp2, b2]; rfl⟩, ?_, by show l.length - (i + 1) < l.length - i; omega⟩
    refine viewI [] rfl rfl ?_ rfl ?_ rfl ?_
    repeat' (first | exact trivial | rfl | exact .inl rfl | exact .inr rfl | exact id | exact (fun h => Bool.noConfusion h) | refine And.intro ?_ ?_)
  have b1 : i = l.length := by simp [rowsG_len] at b1; omega
  subst b1
  rw [hp2, Bool.true_and] at hk
  have hk : (bif decide (1 ≤ (l.length : Int)) then decide ((l.length : Int) ≤ 4) else false) = q := by rw [← hk]; cases decide (1 ≤ (l.length : Int)) <;> rfl
  rw [← rowsG_len] at hk
  subst hk
  repeat ((conv => whnf); first | refine Cd.go ?_ | refine ⟨rfl, ?_⟩ | refine rq_dec ⟨.inl rfl, rfl⟩ ?_ | refine rq_dec rfl ?_ | refine ⟨Nat.le_of_ble_eq_true rfl, ?_⟩ | refine ⟨.inl rfl, ?_⟩ | refine ⟨fun _ => ⟨rfl, Nat.le_of_ble_eq_true rfl⟩, ?_⟩ | refine ⟨fun _ => Nat.le_of_ble_eq_true rfl, ?_⟩ | refine ⟨fun h => Bool.noConfusion h, ?_⟩)
  conv => whnf
  refine ⟨[], trivial, rfl, trivial, rfl, ?_⟩
  try subst hk
  repeat' (first | exact trivial | rfl | exact .inl rfl | exact .inr rfl | exact id | exact (fun h => Bool.noConfusion h) | refine And.intro ?_ ?_)
set_option maxHeartbeats 1000000 in
theorem ok112 (l : List Gr) (t : Bool) (hl : l.length ≤ 100000) : FnC Tryz.prog 112 [] [.lst 3 t (rowsG l)] (.bool (grF l)) [] := by
  refine fn_okX (ob0 := []) [] Tryz.func112 rfl rfl rfl rfl ?_
  generalize hk : grF l = q
  rw [grF] at hk
  repeat ((conv => whnf); first | refine Cd.go ?_ | refine ⟨rfl, ?_⟩ | refine rq_dec ⟨.inl rfl, rfl⟩ ?_ | refine rq_dec rfl ?_ | refine ⟨Nat.le_of_ble_eq_true rfl, ?_⟩ | refine ⟨.inl rfl, ?_⟩ | refine ⟨fun _ => ⟨rfl, Nat.le_of_ble_eq_true rfl⟩, ?_⟩ | refine ⟨fun _ => Nat.le_of_ble_eq_true rfl, ?_⟩ | refine ⟨fun h => Bool.noConfusion h, ?_⟩)
  conv => whnf
  refine ⟨Nat, fun i => i ≤ l.length ∧ noneBad (badGl l) i = true, fun i => ⟨[(0, ⟨[], true, .lst 3 t (rowsG l)⟩), (3, ⟨[], true, .int .i64 (i : Int)⟩)], [], 0⟩, fun i => l.length - i, ⟨0, ⟨by simp, rfl⟩, ?_⟩, fun i hp => ?_⟩
  · refine viewI [] rfl rfl ?_ rfl ?_ rfl ?_
    repeat' (first | exact trivial | rfl | exact .inl rfl | exact .inr rfl | exact id | exact (fun h => Bool.noConfusion h) | refine And.intro ?_ ?_)
  obtain ⟨hp1, hp2⟩ := hp
  dsimp only at hp1 hp2 ⊢
  repeat ((conv => whnf); first | refine Cd.go ?_ | refine ⟨rfl, ?_⟩ | refine rq_dec ⟨.inl rfl, rfl⟩ ?_ | refine rq_dec rfl ?_ | refine ⟨Nat.le_of_ble_eq_true rfl, ?_⟩ | refine ⟨.inl rfl, ?_⟩ | refine ⟨fun _ => ⟨rfl, Nat.le_of_ble_eq_true rfl⟩, ?_⟩ | refine ⟨fun _ => Nat.le_of_ble_eq_true rfl, ?_⟩ | refine ⟨fun h => Bool.noConfusion h, ?_⟩)
  conv => whnf
  refine cq_intro (fun b1 => ?_) (fun b1 => ?_) <;> try simp only [Bool.cond_true_left, Bool.cond_false_right, Bool.not_eq_true', Bool.not_eq_false', Bool.not_not] at b1
  · have b1 : i < l.length := by simp [rowsG_len] at b1; omega
    have hi1 : IntKind.i64.wrap ((i : Int) + 1) = ((i + 1 : Nat) : Int) := by rw [wrapI (by omega) (by omega)]; omega
    repeat ((conv => whnf); first | refine Cd.go ?_ | refine ⟨rfl, ?_⟩ | refine rq_dec ⟨.inl rfl, rfl⟩ ?_ | refine rq_dec rfl ?_ | refine ⟨Nat.le_of_ble_eq_true rfl, ?_⟩ | refine ⟨.inl rfl, ?_⟩ | refine ⟨fun _ => ⟨rfl, Nat.le_of_ble_eq_true rfl⟩, ?_⟩ | refine ⟨fun _ => Nat.le_of_ble_eq_true rfl, ?_⟩ | refine ⟨fun h => Bool.noConfusion h, ?_⟩)
    conv => whnf
    first | refine rq_dec (⟨rfl, by omega, by rw [rowsG_len]; omega⟩) ?_ | refine gq_dec (fun _ => ⟨rfl, by omega, by rw [rowsG_len]; omega⟩) ?_ | refine ⟨fun _ => ⟨rfl, by omega, by rw [rowsG_len]; omega⟩, ?_⟩
    rw [rowsG_getK l i b1]
    have hbd : badGl l i = badG (l.getD i g0) := rfl
    generalize l.getD i g0 = g at hbd
    repeat ((conv => whnf); first | refine Cd.go ?_ | refine ⟨rfl, ?_⟩ | refine rq_dec ⟨.inl rfl, rfl⟩ ?_ | refine rq_dec rfl ?_ | refine ⟨Nat.le_of_ble_eq_true rfl, ?_⟩ | refine ⟨.inl rfl, ?_⟩ | refine ⟨fun _ => ⟨rfl, Nat.le_of_ble_eq_true rfl⟩, ?_⟩ | refine ⟨fun _ => Nat.le_of_ble_eq_true rfl, ?_⟩ | refine ⟨fun h => Bool.noConfusion h, ?_⟩)
    conv => whnf
    refine cq_intro (fun b2 => ?_) (fun b2 => ?_) <;> try simp only [Bool.cond_true_left, Bool.cond_false_right, Bool.not_eq_true', Bool.not_eq_false', Bool.not_not] at b2
    · have b2 : badGl l i = true := by rw [hbd, ← b2]; rfl
      rw [noneBad_bad b1 b2] at hk
      have hk : q = false := by rw [← hk]; rfl
      subst hk
      repeat ((conv => whnf); first | refine Cd.go ?_ | refine ⟨rfl, ?_⟩ | refine rq_dec ⟨.inl rfl, rfl⟩ ?_ | refine rq_dec rfl ?_ | refine ⟨Nat.le_of_ble_eq_true rfl, ?_⟩ | refine ⟨.inl rfl, ?_⟩ | refine ⟨fun _ => ⟨rfl, Nat.le_of_ble_eq_true rfl⟩, ?_⟩ | refine ⟨fun _ => Nat.le_of_ble_eq_true rfl, ?_⟩ | refine ⟨fun h => Bool.noConfusion h, ?_⟩)
      conv => whnf
      refine ⟨[], trivial, rfl, trivial, rfl, ?_⟩
      try subst hk
      repeat' (first | exact trivial | rfl | exact .inl rfl | exact .inr rfl | exact id | exact (fun h => Bool.noConfusion h) | refine And.intro ?_ ?_)
    have b2 : badGl l i = false := by rw [hbd, ← b2]; rfl
    repeat ((conv => whnf); first | refine Cd.go ?_ | refine ⟨rfl, ?_⟩ | refine rq_dec ⟨.inl rfl, rfl⟩ ?_ | refine rq_dec rfl ?_ | refine ⟨Nat.le_of_ble_eq_true rfl, ?_⟩ | refine ⟨.inl rfl, ?_⟩ | refine ⟨fun _ => ⟨rfl, Nat.le_of_ble_eq_true rfl⟩, ?_⟩ | refine ⟨fun _ => Nat.le_of_ble_eq_true rfl, ?_⟩ | refine ⟨fun h => Bool.noConfusion h, ?_⟩)
    conv => whnf
    rw [hi1]
    refine ⟨i + 1, ⟨by show i + 1 ≤ _; omega, by show noneBad (badGl l) (i + 1) = true; simp only [noneBad, hp2, b2]; rfl⟩, ?_, by show l.length - (i + 1) < l.length - i; omega⟩
    refine viewI [] rfl rfl ?_ rfl ?_ rfl ?_
    repeat' (first | exact trivial | rfl | exact .inl rfl | exact .inr rfl | exact id | exact (fun h => Bool.noConfusion h) | refine And.intro ?_ ?_)
  have b1 : i = l.length := by simp [rowsG_len] at b1; omega
  subst b1
  rw [hp2, Bool.true_and] at hk
  have hk : (bif decide (1 ≤ (l.length : Int)) then decide ((l.length : Int) ≤ 4) else false) = q := by rw [← hk]; cases decide (1 ≤ (l.length : Int)) <;> rfl
  rw [← rowsG_len] at hk
  subst hk
  repeat ((conv => whnf); first | refine Cd.go ?_ | refine ⟨rfl, ?_⟩ | refine rq_dec ⟨.inl rfl, rfl⟩ ?_ | refine rq_dec rfl ?_ | refine ⟨Nat.le_of_ble_eq_true rfl, ?_⟩ | refine ⟨.inl rfl, ?_⟩ | refine ⟨fun _ => ⟨rfl, Nat.le_of_ble_eq_true rfl⟩, ?_⟩ | refine ⟨fun _ => Nat.le_of_ble_eq_true rfl, ?_⟩ | refine ⟨fun h => Bool.noConfusion h, ?_⟩)
  conv => whnf
  refine ⟨[], trivial, rfl, trivial, rfl, ?_⟩
  try subst hk
  repeat' (first | exact trivial | rfl | exact .inl rfl | exact .inr rfl | exact id | exact (fun h => Bool.noConfusion h) | refine And.intro ?_ ?_)
end Go.Proofs.YtmhapcbjjpadnaaGreat

set_option maxRecDepth 40000
namespace Go.Proofs.YtmhapcbjjpadnaaGreat
open Go Go.Sk Go.RowKit

def lentF (f : Nat) : Bool := hasN f [82, 313, 147, 156, 153, 97, 267, 326, 167, 168, 172, 170, 316, 349]
def mdA (caller slot callee : Nat) : Nat :=
  bif lentF callee || (Nat.beq callee 314 && !Nat.beq caller 314) then 1 else
  bif Nat.beq callee 272 then 3 else
  bif Nat.beq caller 82 then (bif Nat.ble slot 28 then 1 else 0) else
  match clnT callee with
  | 0 => 0
  | _ => 1
noncomputable def E1 : En Tryz.prog where
  ext := extC
  hext := hextC
  qg := some 140
  hq := fun g e => by obtain rfl := Option.some.inj e; exact quiet140
  md := mdA
  lf := 200
  fz := fun f => bif Nat.beq f 82 then [3, 4, 7] else []
def i0 (n : Int) : V := .int .i64 n
def z9 : List V := [i0 (-1), i0 0, .str ⟨#[]⟩, i0 0, i0 0, i0 0, i0 0, i0 0, i0 0]
def k0 : V := .agg [.lst 15 false [[i0 0, i0 0, i0 0, .lst 0 true [], i0 0, i0 0, i0 0, i0 0, i0 0, i0 0, i0 0, i0 0, i0 0, i0 0, i0 0]], .lst 9 false [z9, z9, z9, z9, z9, z9, z9, z9], .lst 6 false [[i0 1, i0 8, i0 1, i0 2, i0 4, .lst 1 false [[i0 1], [i0 2], [i0 3], [i0 4], [i0 5], [i0 6], [i0 7], [i0 8]]]], .lst 3 false [[i0 8, i0 0, i0 0]], .lst 3 false [[.lst 0 true [], .lst 0 true [], .lst 0 true []]], .lst 1 false [[i0 0]], .lst 0 true []]
def k1 : V := .agg [.lst 15 false [[i0 0, i0 0, i0 0, .lst 0 true [], i0 1, i0 0, i0 0, i0 0, i0 0, i0 0, i0 0, i0 0, i0 0, i0 0, i0 0]], .lst 9 false [[i0 0, i0 0, .str (⟨#[0, 0, 0, 0, 0, 0, 0, 0, 0, 0, 0, 0, 0, 0, 0, 0]⟩), i0 3, i0 0, i0 0, i0 0, i0 0, i0 0], z9, z9, z9, z9, z9, z9, z9], .lst 6 false [[i0 1, i0 8, i0 1, i0 2, i0 4, .lst 1 false [[i0 2], [i0 3], [i0 4], [i0 5], [i0 6], [i0 7], [i0 8]]]], .lst 3 false [[i0 8, i0 0, i0 1]], .lst 3 false [[.lst 1 false [], .lst 1 false [[i0 1]], .lst 1 false []]], .lst 1 false [[i0 0]], .lst 5 false []]
def k2 : V := .agg [.lst 15 false [[i0 0, i0 0, i0 0, .lst 0 true [], i0 1, i0 1, i0 3, i0 0, i0 0, i0 0, i0 0, i0 0, i0 0, i0 0, i0 0]], .lst 9 false [[i0 0, i0 0, .str (⟨#[97, 98, 99, 0, 0, 0, 0, 0, 0, 0, 0, 0, 0, 0, 0, 0]⟩), i0 3, i0 1, i0 0, i0 0, i0 0, i0 0], z9, z9, z9, z9, z9, z9, z9], .lst 6 false [[i0 1, i0 8, i0 1, i0 2, i0 4, .lst 1 false [[i0 2], [i0 3], [i0 4], [i0 5], [i0 6], [i0 7], [i0 8]]]], .lst 3 false [[i0 8, i0 0, i0 1]], .lst 3 false [[.lst 1 false [], .lst 1 false [[i0 1]], .lst 1 false [[i0 1]]]], .lst 1 false [[i0 0]], .lst 5 false []]
def k3 : V := .agg [.lst 15 false [[i0 0, i0 0, i0 0, .lst 0 true [], i0 1, i0 1, i0 3, i0 0, i0 0, i0 0, i0 0, i0 0, i0 0, i0 0, i0 0]], .lst 9 false [[i0 0, i0 0, .str (⟨#[97, 98, 99, 0, 0, 0, 0, 0, 0, 0, 0, 0, 0, 0, 0, 0]⟩), i0 3, i0 1, i0 0, i0 0, i0 0, i0 0], z9, z9, z9, z9, z9, z9, z9], .lst 6 false [[i0 1, i0 8, i0 1, i0 2, i0 4, .lst 1 false [[i0 2], [i0 3], [i0 4], [i0 5], [i0 6], [i0 7], [i0 8]]]], .lst 3 false [[i0 8, i0 0, i0 1]], .lst 3 false [[.lst 1 false [[i0 1]], .lst 1 false [], .lst 1 false []]], .lst 1 false [[i0 0]], .lst 5 false []]
def k4 : V := .agg [.lst 15 false [[i0 0, i0 0, i0 0, .lst 0 true [], i0 1, i0 1, i0 3, i0 0, i0 0, i0 0, i0 0, i0 0, i0 0, i0 0, i0 0]], .lst 9 false [[i0 0, i0 0, .str (⟨#[97, 98, 99, 0, 0, 0, 0, 0, 0, 0, 0, 0, 0, 0, 0, 0]⟩), i0 3, i0 1, i0 0, i0 1, i0 0, i0 0], z9, z9, z9, z9, z9, z9, z9], .lst 6 false [[i0 1, i0 8, i0 1, i0 2, i0 4, .lst 1 false [[i0 2], [i0 3], [i0 4], [i0 5], [i0 6], [i0 7], [i0 8]]]], .lst 3 false [[i0 8, i0 0, i0 1]], .lst 3 false [[.lst 1 false [], .lst 1 false [[i0 1]], .lst 1 false [[i0 1]]]], .lst 1 false [[i0 0]], .lst 5 false []]
/-- Calls whose answers are known. -/
abbrev Tb := List (Nat × List V × V)
def lookT : Tb → Nat → List V → Option V
  | [], _, _ => none
  | (g, a, v) :: r, f, args => match Nat.beq g f && eqL (eqV 12) a args with
    | true => some v
    | false => lookT r f args
def TbOK : Tb → Prop
  | [] => True
  | (g, a, v) :: r => FnC Tryz.prog g [] a v [] ∧ TbOK r
theorem lookT_ok : ∀ {t : Tb} {f : Nat} {args : List V} {v : V}, TbOK t → lookT t f args = some v → FnC Tryz.prog f [] args v []
  | [], _, _, _, _, h => by cases h
  | (g, a, u) :: r, f, args, v, ht, h => by
    unfold lookT at h
    split at h
    · rename_i hb
      rw [Bool.and_eq_true] at hb
      obtain rfl := Nat.eq_of_beq_eq_true hb.1
      rw [← eqL_ok (eqV_ok 12) hb.2]
      cases h
      exact ht.1
    · exact lookT_ok ht.2 h
def extT (t : Tb) (own : Bool) (f : FuncId) (ob0 : List Sk.Obj) (args : List V) : Option (V × List Sk.Obj) :=
  match ob0 with
  | [] => match lookT t f args with
    | some v => some (v, [])
    | none => none
  | _ :: _ => none
noncomputable def E2 (t : Tb) (ht : TbOK t) : En Tryz.prog where
  ext := extT t
  hext := fun own f ob0 args v ob1 h => by
    unfold extT at h
    split at h
    · split at h
      · rename_i hl
        cases h
        exact lookT_ok ht hl
      · cases h
    · cases h
  qg := some 140
  hq := fun g e => by obtain rfl := Option.some.inj e; exact quiet140
  md := fun _ _ f => bif Nat.beq f 36 then 2 else 0
  lf := 200
  fz := fun _ => []
end Go.Proofs.YtmhapcbjjpadnaaGreat

