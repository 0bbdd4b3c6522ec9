/- Stream: Check, and the reference's. -/
import Derived.Test.YteelckbeekgfiaaDoorW7
import Derived.Test.YteelckbeekgfiaaDoorW3
set_option linter.unusedSimpArgs false
set_option linter.unusedVariables false
namespace Go.Proofs.YteelckbeekgfiaaDoor
open Go Go.Sk Go.RowKit

/- pagecache/stream.Check -/
def rc26 : RC :=
  (.seq
  (.reg [⟨(some 2), none, (.mv (.c (.bool false)))⟩] [])
  (.seq
  (.reg [⟨(some 6), none, .mkmap⟩,
    ⟨(some 3), none, (.mv (.t 6))⟩] [6])
  (.seq
  (.seq
  (.reg [⟨(some 7), none, (.mv (.t 0))⟩,
    ⟨(some 8), none, (.len (.t 7))⟩,
    ⟨(some 9), none, (.mv (.c (.int .i64 0)))⟩] [])
  (.block 0
   (.loop
    (.seq
    (.reg [⟨(some 10), none, (.bin .lss (.t 9) (.t 8))⟩] [])
    (.seq
    (.cond (.t 10)
     .skip
     (.exit 0))
    (.seq
    (.block 1
     (.seq
     (.reg [⟨(some 11), none, (.iaddr 6 (.t 7) (.t 9))⟩,
       ⟨(some 12), none, (.ld true 6 (.t 11))⟩,
       ⟨(some 5), none, (.alloc [(.int .i64 0), (.int .i64 0), (.int .i64 0), (.int .i64 0), (.int .i64 0), (.int .i64 0)])⟩,
       ⟨none, none, (.st 6 (.t 5) (.t 12))⟩] [11, 12])
     (.seq
     (.seq
     (.reg [⟨(some 13), none, (.ld true 6 (.t 5))⟩,
       ⟨(some 14), none, (.call 34 [(.t 13)])⟩,
       ⟨(some 15), none, (.un .not (.t 14))⟩,
       ⟨(some 16), none, (.mv (.t 15))⟩,
       ⟨(some 17), (some (16, false)), (.mv (.t 3))⟩,
       ⟨(some 18), (some (16, false)), (.faddr 5 (.t 5))⟩,
       ⟨(some 19), (some (16, false)), (.ld false 1 (.t 18))⟩,
       ⟨(some 20), (some (16, false)), (.mget (.bool false) false (.t 17) (.t 19))⟩,
       ⟨(some 21), none, (.pick (.t 16) (.c (.bool true)) (.t 20))⟩] [13, 14, 15, 16, 17, 18, 19, 20])
     (.cond (.t 21)
      (.seq
      (.reg [⟨(some 2), none, (.mv (.c (.bool false)))⟩] [])
      .ret)
      .skip))
     (.reg [⟨(some 22), none, (.mv (.t 3))⟩,
       ⟨(some 23), none, (.faddr 5 (.t 5))⟩,
       ⟨(some 24), none, (.ld false 1 (.t 23))⟩,
       ⟨none, none, (.mput (.t 22) (.t 24) (.c (.bool true)))⟩] [22, 23, 24]))))
    (.reg [⟨(some 25), none, (.bin .add (.t 9) (.c (.int .i64 1)))⟩,
      ⟨(some 9), none, (.mv (.t 25))⟩] [25])))))))
  (.seq
  (.reg [⟨(some 26), none, (.mv (.t 0))⟩,
    ⟨(some 27), none, (.len (.t 26))⟩,
    ⟨(some 28), none, (.bin .leq (.t 27) (.c (.int .i64 4)))⟩,
    ⟨(some 2), none, (.mv (.t 28))⟩] [26, 27, 28])
  .ret))))
theorem rcq26 : resC Go.Proofs.Tryd.prog Go.Proofs.Tryd.f26.ntmps ((Go.Proofs.Tryd.f26.body).getD .skip) = some (strip rc26) := by kernel_rfl
def rv26 : List RV := [(.tmp 2)]
theorem rvq26 : Go.Proofs.Tryd.f26.results.toList.mapM (resRV Go.Proofs.Tryd.prog) = some rv26 := by kernel_rfl

/- pagecache/pagecacheref06.Check -/
def rc38 : RC :=
  (.seq
  (.reg [⟨(some 2), none, (.mv (.c (.bool false)))⟩] [])
  (.seq
  (.seq
  (.reg [⟨(some 5), none, (.mv (.t 0))⟩,
    ⟨(some 6), none, (.len (.t 5))⟩,
    ⟨(some 7), none, (.bin .gtr (.t 6) (.c (.int .i64 4)))⟩] [5, 6])
  (.cond (.t 7)
   (.seq
   (.reg [⟨(some 2), none, (.mv (.c (.bool false)))⟩] [])
   .ret)
   .skip))
  (.seq
  (.seq
  (.reg [⟨(some 3), none, (.mv (.c (.int .i64 0)))⟩] [])
  (.block 0
   (.loop
    (.seq
    (.seq
    (.reg [⟨(some 8), none, (.mv (.t 3))⟩,
      ⟨(some 9), none, (.mv (.t 0))⟩,
      ⟨(some 10), none, (.len (.t 9))⟩,
      ⟨(some 11), none, (.bin .lss (.t 8) (.t 10))⟩] [8, 9, 10])
    (.cond (.t 11)
     .skip
     (.exit 0)))
    (.seq
    (.block 1
     (.seq
     (.seq
     (.reg [⟨(some 14), none, (.mv (.t 0))⟩,
       ⟨(some 15), none, (.mv (.t 3))⟩,
       ⟨(some 16), none, (.iaddr 6 (.t 14) (.t 15))⟩,
       ⟨(some 17), none, (.ld true 6 (.t 16))⟩,
       ⟨(some 18), none, (.call 29 [(.t 17)])⟩,
       ⟨(some 19), none, (.un .not (.t 18))⟩] [14, 15, 16, 17, 18])
     (.cond (.t 19)
      (.seq
      (.reg [⟨(some 2), none, (.mv (.c (.bool false)))⟩] [])
      .ret)
      .skip))
     (.seq
     (.reg [⟨(some 4), none, (.mv (.c (.int .i64 0)))⟩] [])
     (.block 2
      (.loop
       (.seq
       (.seq
       (.reg [⟨(some 20), none, (.mv (.t 4))⟩,
         ⟨(some 21), none, (.mv (.t 3))⟩,
         ⟨(some 22), none, (.bin .lss (.t 20) (.t 21))⟩] [20, 21])
       (.cond (.t 22)
        .skip
        (.exit 2)))
       (.seq
       (.block 3
        (.seq
        (.dreg 12288 12464 [⟨(some 25), none, (.mv (.t 0))⟩,
          ⟨(some 26), none, (.mv (.t 4))⟩,
          ⟨(some 27), none, (.iaddr 6 (.t 25) (.t 26))⟩,
          ⟨(some 28), none, (.faddr 5 (.t 27))⟩,
          ⟨(some 29), none, (.ld false 1 (.t 28))⟩,
          ⟨(some 30), none, (.mv (.t 0))⟩,
          ⟨(some 31), none, (.mv (.t 3))⟩,
          ⟨(some 32), none, (.iaddr 6 (.t 30) (.t 31))⟩,
          ⟨(some 33), none, (.faddr 5 (.t 32))⟩,
          ⟨(some 34), none, (.ld false 1 (.t 33))⟩,
          ⟨(some 35), none, (.bin .eql (.t 29) (.t 34))⟩] [25, 26, 27, 28, 29, 30, 31, 32, 33, 34] [[], [], [0, 1], [2, 1, 0], [3, 0, 1, 2], [], [], [5, 6], [7, 6, 5], [8, 5, 6, 7], [4, 2, 1, 0, 3, 9, 7, 6, 5, 8]] [12288, 12304, 12320, 12336, 12352, 12368, 12384, 12400, 12416, 12432, 12448])
        (.cond (.t 35)
         (.seq
         (.reg [⟨(some 2), none, (.mv (.c (.bool false)))⟩] [])
         .ret)
         .skip)))
       (.reg [⟨(some 23), none, (.mv (.t 4))⟩,
         ⟨(some 24), none, (.bin .add (.t 23) (.c (.int .i64 1)))⟩,
         ⟨(some 4), none, (.mv (.t 24))⟩] [23, 24]))))))))
    (.reg [⟨(some 12), none, (.mv (.t 3))⟩,
      ⟨(some 13), none, (.bin .add (.t 12) (.c (.int .i64 1)))⟩,
      ⟨(some 3), none, (.mv (.t 13))⟩] [12, 13]))))))
  (.seq
  (.reg [⟨(some 2), none, (.mv (.c (.bool true)))⟩] [])
  .ret))))
theorem rcq38 : resC Go.Proofs.Tryd.prog Go.Proofs.Tryd.f38.ntmps ((Go.Proofs.Tryd.f38.body).getD .skip) = some (strip rc38) := by kernel_rfl
def rv38 : List RV := [(.tmp 2)]
theorem rvq38 : Go.Proofs.Tryd.f38.results.toList.mapM (resRV Go.Proofs.Tryd.prog) = some rv38 := by kernel_rfl

theorem beqT {a b : Int} (h : a = b) : (a == b) = true := by simp [h]
theorem beqF {a b : Int} (h : ¬ a = b) : (a == b) = false := by simpa using h
theorem bneT {a b : Int} (h : ¬ a = b) : (a != b) = true := by simpa using h
theorem bneF {a b : Int} (h : a = b) : (a != b) = false := by simp [h]
theorem mgetV_set : ∀ (M : List (Int × V)) (j : Int) (v : V) (x : Int) (z : V), mgetV (msetV M j v) x z = if x = j then v else mgetV M x z
  | [], j, v, x, z => by
    simp only [msetV, mgetV]
    by_cases h : x = j
    · simp [h]
    · rw [if_neg h, if_neg (fun e => h e.symm)]
  | (k, u) :: r, j, v, x, z => by
    simp only [msetV]
    by_cases hk : k = j
    · subst hk
      simp only [if_true, mgetV]
      by_cases hx : k = x
      · subst hx; simp
      · simp [hx, Ne.symm hx]
    · simp only [if_neg hk, mgetV, mgetV_set r j v x z]
      by_cases hx : k = x
      · subst hx; simp [hk]
      · simp [hx]
def stamps (l : List Stm) : List Int := l.map Stm.stamp
def checkF (l : List Stm) : Bool := decide (l.length ≤ 4) && (l.all rightF && decide (stamps l).Nodup)
theorem checkF_iff (l : List Stm) : checkF l = true ↔ l.length ≤ 4 ∧ (∀ (i : Nat) (h : i < l.length), rightF l[i] = true) ∧ (stamps l).Nodup := by
  simp only [checkF, Bool.and_eq_true, decide_eq_true_eq, List.all_eq_true]
  refine and_congr_right fun _ => and_congr_left fun _ => ⟨fun h i hi => h _ (List.getElem_mem hi), fun h s hs => ?_⟩
  obtain ⟨i, hi, rfl⟩ := List.getElem_of_mem hs
  exact h i hi
theorem stamps_len (l : List Stm) : (stamps l).length = l.length := by simp [stamps]
theorem stamps_get (l : List Stm) (i : Nat) (h : i < l.length) : (stamps l)[i]'(by rw [stamps_len]; exact h) = l[i].stamp := by simp [stamps]
theorem stamps_take (l : List Stm) (i : Nat) (h : i < l.length) : (stamps l).take (i + 1) = (stamps l).take i ++ [l[i].stamp] := by
  rw [List.take_succ_eq_append_getElem (by rw [stamps_len]; exact h), stamps_get l i h]
theorem take_all {l : List Int} {n : Nat} (h : l.length = n) : l.take n = l := by subst h; simp
set_option maxRecDepth 20000 in
theorem ok26 (l : List Stm) (t : Bool) (hl : (l.length : Int) < 2 ^ 62) : FnC Tryd.prog 26 [] [.lst 6 t (rowsS l)] (.bool (checkF l)) [] := by
  refine fn_okC (ob0 := []) (rc := rc26) (rvs := rv26) Tryd.func26 rfl rcq26 rvq26 (show 1 ≤ _ by decide) ?_
  generalize hk : checkF l = q
  repeat ((conv => whnf); first | refine Cd.seq ?_ | refine Cd.cut ?_ | refine Cd.reg ?_ | refine Cd.block ?_ | refine Cd.cond ?_ | refine Cd.dreg ?_ | refine Cd.skip ?_ | refine Cd.ret ?_ | refine Cd.exit ?_ | refine Cd.loop ?_ | refine ⟨rfl, ?_⟩ | refine ⟨Nat.le_of_ble_eq_true rfl, ?_⟩ | refine ⟨.inl rfl, ?_⟩ | refine ⟨fun h => Bool.noConfusion h, ?_⟩)
  conv => whnf
  refine ⟨Nat × List (Int × V), fun p => p.1 ≤ l.length ∧ (∀ (j : Nat) (h : j < l.length), j < p.1 → rightF l[j] = true) ∧ ((stamps l).take p.1).Nodup ∧ ∀ x, mgetV p.2 x (.bool false) = .bool (decide (x ∈ (stamps l).take p.1)),
    fun p => ⟨[(0, ⟨[], true, .lst 6 t (rowsS l)⟩), (2, ⟨[], true, .bool false⟩), (3, ⟨[], true, .mp 0⟩), (7, ⟨[], true, .lst 6 t (rowsS l)⟩), (8, ⟨[], true, .int .i64 (rowsS l).length⟩), (9, ⟨[], true, .int .i64 p.1⟩)], [(0, .mp p.2)], 1⟩, fun p => l.length - p.1, ⟨(0, []), ⟨by simp, by simp, by simp, by simp [mgetV]⟩, ?_⟩, fun p hI => ?_⟩
  · refine viewI [some 0] rfl rfl ?_ rfl ?_ rfl ?_
    repeat' (first | exact trivial | rfl | exact .inl rfl | exact .inr rfl | exact id | exact (fun h => Bool.noConfusion h) | refine And.intro ?_ ?_)
  obtain ⟨i, M⟩ := p
  obtain ⟨hI1, hI2, hI3, hI4⟩ := hI
  simp only at hI1 hI2 hI3 hI4
  repeat ((conv => whnf); first | refine Cd.seq ?_ | refine Cd.cut ?_ | refine Cd.reg ?_ | refine Cd.block ?_ | refine Cd.cond ?_ | refine Cd.dreg ?_ | refine Cd.skip ?_ | refine Cd.ret ?_ | refine Cd.exit ?_ | refine Cd.loop ?_ | refine ⟨rfl, ?_⟩ | refine ⟨Nat.le_of_ble_eq_true rfl, ?_⟩ | refine ⟨.inl rfl, ?_⟩ | refine ⟨fun h => Bool.noConfusion h, ?_⟩)
  conv => whnf
  rw [rowsS_len]
  refine ⟨fun h1 => ?_, fun h1 => ?_⟩ <;> try simp only [Bool.cond_true_left, Bool.cond_false_right, Bool.not_eq_true', Bool.not_eq_false', Bool.not_not] at h1
  · have h1 : i < l.length := by simp at h1; omega
    repeat ((conv => whnf); first | refine Cd.seq ?_ | refine Cd.cut ?_ | refine Cd.reg ?_ | refine Cd.block ?_ | refine Cd.cond ?_ | refine Cd.dreg ?_ | refine Cd.skip ?_ | refine Cd.ret ?_ | refine Cd.exit ?_ | refine Cd.loop ?_ | refine ⟨rfl, ?_⟩ | refine ⟨Nat.le_of_ble_eq_true rfl, ?_⟩ | refine ⟨.inl rfl, ?_⟩ | refine ⟨fun h => Bool.noConfusion h, ?_⟩)
    conv => whnf
    refine ⟨fun _ => ⟨rfl, by simp, by rw [rowsS_len]; simp; omega⟩, ?_⟩
    rw [rowsS_get' l _ i rfl h1]
    repeat ((conv => whnf); first | refine Cd.seq ?_ | refine Cd.cut ?_ | refine Cd.reg ?_ | refine Cd.block ?_ | refine Cd.cond ?_ | refine Cd.dreg ?_ | refine Cd.skip ?_ | refine Cd.ret ?_ | refine Cd.exit ?_ | refine Cd.loop ?_ | refine ⟨rfl, ?_⟩ | refine ⟨Nat.le_of_ble_eq_true rfl, ?_⟩ | refine ⟨.inl rfl, ?_⟩ | refine ⟨fun h => Bool.noConfusion h, ?_⟩ | refine .inl ⟨_, fun _ => ⟨purA rfl, (by first | exact ok34 l[i])⟩, .inl rfl, ?_⟩)
    conv => whnf
    rw [hI4]
    repeat ((conv => whnf); first | refine Cd.seq ?_ | refine Cd.cut ?_ | refine Cd.reg ?_ | refine Cd.block ?_ | refine Cd.cond ?_ | refine Cd.dreg ?_ | refine Cd.skip ?_ | refine Cd.ret ?_ | refine Cd.exit ?_ | refine Cd.loop ?_ | refine ⟨rfl, ?_⟩ | refine ⟨Nat.le_of_ble_eq_true rfl, ?_⟩ | refine ⟨.inl rfl, ?_⟩ | refine ⟨fun h => Bool.noConfusion h, ?_⟩)
    conv => whnf
    refine ⟨fun h2 => ?_, fun h2 => ?_⟩ <;> try simp only [Bool.cond_true_left, Bool.cond_false_right, Bool.not_eq_true', Bool.not_eq_false', Bool.not_not] at h2
    · have h2 : (!rightF l[i] || decide (l[i].stamp ∈ (stamps l).take i)) = true := h2
      have : checkF l = false := by
        rw [Bool.eq_false_iff]
        intro hc
        obtain ⟨-, c2, c3⟩ := (checkF_iff l).1 hc
        rw [c2 i h1] at h2
        have h2 : l[i].stamp ∈ (stamps l).take i := by simpa using h2
        have c4 : ((stamps l).take (i + 1)).Nodup := (List.take_sublist _ _).nodup c3
        rw [stamps_take l i h1, List.nodup_append] at c4
        exact c4.2.2 _ h2 _ (by simp) rfl
      repeat ((conv => whnf); first | refine Cd.seq ?_ | refine Cd.cut ?_ | refine Cd.reg ?_ | refine Cd.block ?_ | refine Cd.cond ?_ | refine Cd.dreg ?_ | refine Cd.skip ?_ | refine Cd.ret ?_ | refine Cd.exit ?_ | refine Cd.loop ?_ | refine ⟨rfl, ?_⟩ | refine ⟨Nat.le_of_ble_eq_true rfl, ?_⟩ | refine ⟨.inl rfl, ?_⟩ | refine ⟨fun h => Bool.noConfusion h, ?_⟩)
      conv => whnf
      refine ⟨[], ?_, rfl, trivial, rfl, ?_⟩
      · exact trivial
      try subst hk
      simp only [this, cond_true, cond_false, Bool.not_true, Bool.not_false]
      repeat' (first | exact trivial | rfl | exact .inl rfl | exact .inr rfl | exact id | exact (fun h => Bool.noConfusion h) | refine And.intro ?_ ?_)
    have h2 : (!rightF l[i] || decide (l[i].stamp ∈ (stamps l).take i)) = false := h2
    have h3 : rightF l[i] = true := by
      cases hr : rightF l[i] with
      | true => rfl
      | false => rw [hr] at h2; simp at h2
    have h4 : ¬ l[i].stamp ∈ (stamps l).take i := by rw [h3] at h2; simpa using h2
    repeat ((conv => whnf); first | refine Cd.seq ?_ | refine Cd.cut ?_ | refine Cd.reg ?_ | refine Cd.block ?_ | refine Cd.cond ?_ | refine Cd.dreg ?_ | refine Cd.skip ?_ | refine Cd.ret ?_ | refine Cd.exit ?_ | refine Cd.loop ?_ | refine ⟨rfl, ?_⟩ | refine ⟨Nat.le_of_ble_eq_true rfl, ?_⟩ | refine ⟨.inl rfl, ?_⟩ | refine ⟨fun h => Bool.noConfusion h, ?_⟩)
    conv => whnf
    rw [wrapI (n := (i : Int) + 1) (by omega) (by omega), show ((i : Int) + 1) = ((i + 1 : Nat) : Int) by omega]
    refine ⟨(i + 1, msetV M l[i].stamp (.bool true)), ⟨by show i + 1 ≤ _; omega, fun j hj hlt => ?_, ?_, fun x => ?_⟩, ?_, by show l.length - (i + 1) < l.length - i; omega⟩
    · by_cases e : j = i
      · subst e; exact h3
      · exact hI2 j hj (by have : j < i + 1 := hlt; omega)
    · show ((stamps l).take (i + 1)).Nodup
      rw [stamps_take l i h1, List.nodup_append]
      exact ⟨hI3, by simp, fun a ha b hb => by simp at hb; subst hb; rintro rfl; exact h4 ha⟩
    · show mgetV (msetV M _ _) _ _ = V.bool (decide (x ∈ (stamps l).take (i + 1)))
      rw [mgetV_set, stamps_take l i h1, hI4]
      by_cases hx : x = l[i].stamp
      · simp [hx]
      · simp [hx]
    refine viewI [some 0] rfl rfl ?_ rfl ?_ rfl ?_
    repeat' (first | exact trivial | rfl | exact .inl rfl | exact .inr rfl | exact id | exact (fun h => Bool.noConfusion h) | refine And.intro ?_ ?_)
  have h1 : i = l.length := by simp at h1; omega
  subst h1
  repeat ((conv => whnf); first | refine Cd.seq ?_ | refine Cd.cut ?_ | refine Cd.reg ?_ | refine Cd.block ?_ | refine Cd.cond ?_ | refine Cd.dreg ?_ | refine Cd.skip ?_ | refine Cd.ret ?_ | refine Cd.exit ?_ | refine Cd.loop ?_ | refine ⟨rfl, ?_⟩ | refine ⟨Nat.le_of_ble_eq_true rfl, ?_⟩ | refine ⟨.inl rfl, ?_⟩ | refine ⟨fun h => Bool.noConfusion h, ?_⟩)
  conv => whnf
  have : decide (((rowsS l).length : Int) ≤ 4) = checkF l := by
    rw [rowsS_len, Bool.eq_iff_iff, checkF_iff, decide_eq_true_eq]
    rw [take_all (stamps_len l)] at hI3
    exact ⟨fun h => ⟨by omega, fun i hi => hI2 i hi hi, hI3⟩, fun h => by omega⟩
  refine ⟨[], ?_, rfl, trivial, rfl, ?_⟩
  · exact trivial
  try subst hk
  simp only [← this, cond_true, cond_false, Bool.not_true, Bool.not_false]
  repeat' (first | exact trivial | rfl | exact .inl rfl | exact .inr rfl | exact id | exact (fun h => Bool.noConfusion h) | refine And.intro ?_ ?_)
set_option maxRecDepth 20000 in
theorem ok38 (l : List Stm) (t : Bool) (hl : (l.length : Int) < 2 ^ 62) : FnC Tryd.prog 38 [] [.lst 6 t (rowsS l)] (.bool (checkF l)) [] := by
  refine fn_okC (ob0 := []) (rc := rc38) (rvs := rv38) Tryd.func38 rfl rcq38 rvq38 (show 1 ≤ _ by decide) ?_
  generalize hk : checkF l = q
  repeat ((conv => whnf); first | refine Cd.seq ?_ | refine Cd.cut ?_ | refine Cd.reg ?_ | refine Cd.block ?_ | refine Cd.cond ?_ | refine Cd.dreg ?_ | refine Cd.skip ?_ | refine Cd.ret ?_ | refine Cd.exit ?_ | refine Cd.loop ?_ | refine ⟨rfl, ?_⟩ | refine ⟨Nat.le_of_ble_eq_true rfl, ?_⟩ | refine ⟨.inl rfl, ?_⟩ | refine ⟨fun h => Bool.noConfusion h, ?_⟩)
  conv => whnf
  rw [rowsS_len]
  refine ⟨fun h0 => ?_, fun h0 => ?_⟩ <;> try simp only [Bool.cond_true_left, Bool.cond_false_right, Bool.not_eq_true', Bool.not_eq_false', Bool.not_not] at h0
  · have h0 : 4 < l.length := by simp at h0; omega
    have : checkF l = false := by rw [Bool.eq_false_iff]; intro hc; have := ((checkF_iff l).1 hc).1; omega
    repeat ((conv => whnf); first | refine Cd.seq ?_ | refine Cd.cut ?_ | refine Cd.reg ?_ | refine Cd.block ?_ | refine Cd.cond ?_ | refine Cd.dreg ?_ | refine Cd.skip ?_ | refine Cd.ret ?_ | refine Cd.exit ?_ | refine Cd.loop ?_ | refine ⟨rfl, ?_⟩ | refine ⟨Nat.le_of_ble_eq_true rfl, ?_⟩ | refine ⟨.inl rfl, ?_⟩ | refine ⟨fun h => Bool.noConfusion h, ?_⟩)
    conv => whnf
    refine ⟨[], ?_, rfl, trivial, rfl, ?_⟩
    · exact trivial
    try subst hk
    simp only [this, cond_true, cond_false, Bool.not_true, Bool.not_false]
    repeat' (first | exact trivial | rfl | exact .inl rfl | exact .inr rfl | exact id | exact (fun h => Bool.noConfusion h) | refine And.intro ?_ ?_)
  have h0 : l.length ≤ 4 := by simp at h0; omega
  repeat ((conv => whnf); first | refine Cd.seq ?_ | refine Cd.cut ?_ | refine Cd.reg ?_ | refine Cd.block ?_ | refine Cd.cond ?_ | refine Cd.dreg ?_ | refine Cd.skip ?_ | refine Cd.ret ?_ | refine Cd.exit ?_ | refine Cd.loop ?_ | refine ⟨rfl, ?_⟩ | refine ⟨Nat.le_of_ble_eq_true rfl, ?_⟩ | refine ⟨.inl rfl, ?_⟩ | refine ⟨fun h => Bool.noConfusion h, ?_⟩)
  conv => whnf
  refine ⟨Nat, fun i => i ≤ l.length ∧ (∀ (j : Nat) (h : j < l.length), j < i → rightF l[j] = true) ∧ ((stamps l).take i).Nodup,
    fun i => ⟨[(0, ⟨[], true, .lst 6 t (rowsS l)⟩), (2, ⟨[], true, .bool false⟩), (3, ⟨[], true, .int .i64 i⟩)], [], 0⟩, fun i => l.length - i, ⟨0, ⟨by simp, by simp, by simp⟩, ?_⟩, fun i hI => ?_⟩
  · refine viewI [] rfl rfl ?_ rfl ?_ rfl ?_
    repeat' (first | exact trivial | rfl | exact .inl rfl | exact .inr rfl | exact id | exact (fun h => Bool.noConfusion h) | refine And.intro ?_ ?_)
  obtain ⟨hI1, hI2, hI3⟩ := hI
  repeat ((conv => whnf); first | refine Cd.seq ?_ | refine Cd.cut ?_ | refine Cd.reg ?_ | refine Cd.block ?_ | refine Cd.cond ?_ | refine Cd.dreg ?_ | refine Cd.skip ?_ | refine Cd.ret ?_ | refine Cd.exit ?_ | refine Cd.loop ?_ | refine ⟨rfl, ?_⟩ | refine ⟨Nat.le_of_ble_eq_true rfl, ?_⟩ | refine ⟨.inl rfl, ?_⟩ | refine ⟨fun h => Bool.noConfusion h, ?_⟩)
  conv => whnf
  rw [rowsS_len]
  refine ⟨fun h1 => ?_, fun h1 => ?_⟩ <;> try simp only [Bool.cond_true_left, Bool.cond_false_right, Bool.not_eq_true', Bool.not_eq_false', Bool.not_not] at h1
  · have h1 : i < l.length := by simp at h1; omega
    repeat ((conv => whnf); first | refine Cd.seq ?_ | refine Cd.cut ?_ | refine Cd.reg ?_ | refine Cd.block ?_ | refine Cd.cond ?_ | refine Cd.dreg ?_ | refine Cd.skip ?_ | refine Cd.ret ?_ | refine Cd.exit ?_ | refine Cd.loop ?_ | refine ⟨rfl, ?_⟩ | refine ⟨Nat.le_of_ble_eq_true rfl, ?_⟩ | refine ⟨.inl rfl, ?_⟩ | refine ⟨fun h => Bool.noConfusion h, ?_⟩)
    conv => whnf
    refine ⟨fun _ => ⟨rfl, by simp, by rw [rowsS_len]; omega⟩, ?_⟩
    rw [rowsS_get' l _ i rfl h1]
    repeat ((conv => whnf); first | refine Cd.seq ?_ | refine Cd.cut ?_ | refine Cd.reg ?_ | refine Cd.block ?_ | refine Cd.cond ?_ | refine Cd.dreg ?_ | refine Cd.skip ?_ | refine Cd.ret ?_ | refine Cd.exit ?_ | refine Cd.loop ?_ | refine ⟨rfl, ?_⟩ | refine ⟨Nat.le_of_ble_eq_true rfl, ?_⟩ | refine ⟨.inl rfl, ?_⟩ | refine ⟨fun h => Bool.noConfusion h, ?_⟩ | refine .inl ⟨_, fun _ => ⟨purA rfl, (by first | exact ok29 l[i])⟩, .inl rfl, ?_⟩)
    conv => whnf
    refine ⟨fun h2 => ?_, fun h2 => ?_⟩ <;> try simp only [Bool.cond_true_left, Bool.cond_false_right, Bool.not_eq_true', Bool.not_eq_false', Bool.not_not] at h2
    · have : checkF l = false := by
        rw [Bool.eq_false_iff]
        intro hc
        rw [((checkF_iff l).1 hc).2.1 i h1] at h2
        cases h2
      repeat ((conv => whnf); first | refine Cd.seq ?_ | refine Cd.cut ?_ | refine Cd.reg ?_ | refine Cd.block ?_ | refine Cd.cond ?_ | refine Cd.dreg ?_ | refine Cd.skip ?_ | refine Cd.ret ?_ | refine Cd.exit ?_ | refine Cd.loop ?_ | refine ⟨rfl, ?_⟩ | refine ⟨Nat.le_of_ble_eq_true rfl, ?_⟩ | refine ⟨.inl rfl, ?_⟩ | refine ⟨fun h => Bool.noConfusion h, ?_⟩)
      conv => whnf
      refine ⟨[], ?_, rfl, trivial, rfl, ?_⟩
      · exact trivial
      try subst hk
      simp only [this, cond_true, cond_false, Bool.not_true, Bool.not_false]
      repeat' (first | exact trivial | rfl | exact .inl rfl | exact .inr rfl | exact id | exact (fun h => Bool.noConfusion h) | refine And.intro ?_ ?_)
    repeat ((conv => whnf); first | refine Cd.seq ?_ | refine Cd.cut ?_ | refine Cd.reg ?_ | refine Cd.block ?_ | refine Cd.cond ?_ | refine Cd.dreg ?_ | refine Cd.skip ?_ | refine Cd.ret ?_ | refine Cd.exit ?_ | refine Cd.loop ?_ | refine ⟨rfl, ?_⟩ | refine ⟨Nat.le_of_ble_eq_true rfl, ?_⟩ | refine ⟨.inl rfl, ?_⟩ | refine ⟨fun h => Bool.noConfusion h, ?_⟩)
    conv => whnf
    refine ⟨Nat, fun k => k ≤ i ∧ (∀ (j : Nat) (h : j < l.length), j < k → l[j].stamp ≠ l[i].stamp),
      fun k => ⟨[(0, ⟨[], true, .lst 6 t (rowsS l)⟩), (2, ⟨[], true, .bool false⟩), (3, ⟨[], true, .int .i64 i⟩), (4, ⟨[], true, .int .i64 k⟩)], [], 0⟩, fun k => i - k, ⟨0, ⟨by simp, by simp⟩, ?_⟩, fun k hJ => ?_⟩
    · refine viewI [] rfl rfl ?_ rfl ?_ rfl ?_
      repeat' (first | exact trivial | rfl | exact .inl rfl | exact .inr rfl | exact id | exact (fun h => Bool.noConfusion h) | refine And.intro ?_ ?_)
    obtain ⟨hJ1, hJ2⟩ := hJ
    repeat ((conv => whnf); first | refine Cd.seq ?_ | refine Cd.cut ?_ | refine Cd.reg ?_ | refine Cd.block ?_ | refine Cd.cond ?_ | refine Cd.dreg ?_ | refine Cd.skip ?_ | refine Cd.ret ?_ | refine Cd.exit ?_ | refine Cd.loop ?_ | refine ⟨rfl, ?_⟩ | refine ⟨Nat.le_of_ble_eq_true rfl, ?_⟩ | refine ⟨.inl rfl, ?_⟩ | refine ⟨fun h => Bool.noConfusion h, ?_⟩)
    conv => whnf
    refine ⟨fun h3 => ?_, fun h3 => ?_⟩ <;> try simp only [Bool.cond_true_left, Bool.cond_false_right, Bool.not_eq_true', Bool.not_eq_false', Bool.not_not] at h3
    · have h3 : k < i := by simp at h3; omega
      repeat ((conv => whnf); first | refine Cd.seq ?_ | refine Cd.cut ?_ | refine Cd.reg ?_ | refine Cd.block ?_ | refine Cd.cond ?_ | refine Cd.dreg ?_ | refine Cd.skip ?_ | refine Cd.ret ?_ | refine Cd.exit ?_ | refine Cd.loop ?_ | refine ⟨rfl, ?_⟩ | refine ⟨Nat.le_of_ble_eq_true rfl, ?_⟩ | refine ⟨.inl rfl, ?_⟩ | refine ⟨fun h => Bool.noConfusion h, ?_⟩)
      conv => whnf
      refine ⟨fun _ => ⟨rfl, by simp, by rw [rowsS_len]; omega⟩, ?_⟩
      rw [rowsS_get' l _ k rfl (by omega)]
      repeat ((conv => whnf); first | refine Cd.seq ?_ | refine Cd.cut ?_ | refine Cd.reg ?_ | refine Cd.block ?_ | refine Cd.cond ?_ | refine Cd.dreg ?_ | refine Cd.skip ?_ | refine Cd.ret ?_ | refine Cd.exit ?_ | refine Cd.loop ?_ | refine ⟨rfl, ?_⟩ | refine ⟨Nat.le_of_ble_eq_true rfl, ?_⟩ | refine ⟨.inl rfl, ?_⟩ | refine ⟨fun h => Bool.noConfusion h, ?_⟩)
      conv => whnf
      refine ⟨fun _ => ⟨rfl, by simp, by rw [rowsS_len]; omega⟩, ?_⟩
      rw [rowsS_get' l _ i rfl (by omega)]
      repeat ((conv => whnf); first | refine Cd.seq ?_ | refine Cd.cut ?_ | refine Cd.reg ?_ | refine Cd.block ?_ | refine Cd.cond ?_ | refine Cd.dreg ?_ | refine Cd.skip ?_ | refine Cd.ret ?_ | refine Cd.exit ?_ | refine Cd.loop ?_ | refine ⟨rfl, ?_⟩ | refine ⟨Nat.le_of_ble_eq_true rfl, ?_⟩ | refine ⟨.inl rfl, ?_⟩ | refine ⟨fun h => Bool.noConfusion h, ?_⟩)
      conv => whnf
      refine ⟨fun h4 => ?_, fun h4 => ?_⟩ <;> try simp only [Bool.cond_true_left, Bool.cond_false_right, Bool.not_eq_true', Bool.not_eq_false', Bool.not_not] at h4
      · have h4 : (l[k]'(by omega)).stamp = l[i].stamp := by simpa using h4
        have : checkF l = false := by
          rw [Bool.eq_false_iff]
          intro hc
          have hn := ((checkF_iff l).1 hc).2.2
          have := (List.getElem_inj (h₀ := by rw [stamps_len]; omega) (h₁ := by rw [stamps_len]; omega) hn (i := k) (j := i)).1 (by rw [stamps_get l k (by omega), stamps_get l i h1]; exact h4)
          omega
        repeat ((conv => whnf); first | refine Cd.seq ?_ | refine Cd.cut ?_ | refine Cd.reg ?_ | refine Cd.block ?_ | refine Cd.cond ?_ | refine Cd.dreg ?_ | refine Cd.skip ?_ | refine Cd.ret ?_ | refine Cd.exit ?_ | refine Cd.loop ?_ | refine ⟨rfl, ?_⟩ | refine ⟨Nat.le_of_ble_eq_true rfl, ?_⟩ | refine ⟨.inl rfl, ?_⟩ | refine ⟨fun h => Bool.noConfusion h, ?_⟩)
        conv => whnf
        refine ⟨[], ?_, rfl, trivial, rfl, ?_⟩
        · exact trivial
        try subst hk
        simp only [this, cond_true, cond_false, Bool.not_true, Bool.not_false]
        repeat' (first | exact trivial | rfl | exact .inl rfl | exact .inr rfl | exact id | exact (fun h => Bool.noConfusion h) | refine And.intro ?_ ?_)
      have h4 : (l[k]'(by omega)).stamp ≠ l[i].stamp := by simpa using h4
      repeat ((conv => whnf); first | refine Cd.seq ?_ | refine Cd.cut ?_ | refine Cd.reg ?_ | refine Cd.block ?_ | refine Cd.cond ?_ | refine Cd.dreg ?_ | refine Cd.skip ?_ | refine Cd.ret ?_ | refine Cd.exit ?_ | refine Cd.loop ?_ | refine ⟨rfl, ?_⟩ | refine ⟨Nat.le_of_ble_eq_true rfl, ?_⟩ | refine ⟨.inl rfl, ?_⟩ | refine ⟨fun h => Bool.noConfusion h, ?_⟩)
      conv => whnf
      rw [wrapI (n := (k : Int) + 1) (by omega) (by omega), show ((k : Int) + 1) = ((k + 1 : Nat) : Int) by omega]
      refine ⟨k + 1, ⟨by omega, fun j hj hlt => ?_⟩, ?_, by show i - (k + 1) < i - k; omega⟩
      · by_cases e : j = k
        · subst e; exact h4
        · exact hJ2 j hj (by omega)
      refine viewI [] rfl rfl ?_ rfl ?_ rfl ?_
      repeat' (first | exact trivial | rfl | exact .inl rfl | exact .inr rfl | exact id | exact (fun h => Bool.noConfusion h) | refine And.intro ?_ ?_)
    have h3 : k = i := by simp at h3; omega
    subst h3
    repeat ((conv => whnf); first | refine Cd.seq ?_ | refine Cd.cut ?_ | refine Cd.reg ?_ | refine Cd.block ?_ | refine Cd.cond ?_ | refine Cd.dreg ?_ | refine Cd.skip ?_ | refine Cd.ret ?_ | refine Cd.exit ?_ | refine Cd.loop ?_ | refine ⟨rfl, ?_⟩ | refine ⟨Nat.le_of_ble_eq_true rfl, ?_⟩ | refine ⟨.inl rfl, ?_⟩ | refine ⟨fun h => Bool.noConfusion h, ?_⟩)
    conv => whnf
    rw [wrapI (n := (k : Int) + 1) (by omega) (by omega), show ((k : Int) + 1) = ((k + 1 : Nat) : Int) by omega]
    refine ⟨k + 1, ⟨by omega, fun j hj hlt => ?_, ?_⟩, ?_, by show l.length - (k + 1) < l.length - k; omega⟩
    · by_cases e : j = k
      · subst e; exact h2
      · exact hI2 j hj (by omega)
    · rw [stamps_take l k h1, List.nodup_append]
      refine ⟨hI3, by simp, fun a ha b hb => ?_⟩
      simp at hb
      subst hb
      obtain ⟨j, hj, rfl⟩ := List.getElem_of_mem ha
      rw [List.length_take] at hj
      rw [List.getElem_take, stamps_get l j (by omega)]
      exact hJ2 j (by omega) (by omega)
    refine viewI [] rfl rfl ?_ rfl ?_ rfl ?_
    repeat' (first | exact trivial | rfl | exact .inl rfl | exact .inr rfl | exact id | exact (fun h => Bool.noConfusion h) | refine And.intro ?_ ?_)
  have h1 : i = l.length := by simp at h1; omega
  subst h1
  repeat ((conv => whnf); first | refine Cd.seq ?_ | refine Cd.cut ?_ | refine Cd.reg ?_ | refine Cd.block ?_ | refine Cd.cond ?_ | refine Cd.dreg ?_ | refine Cd.skip ?_ | refine Cd.ret ?_ | refine Cd.exit ?_ | refine Cd.loop ?_ | refine ⟨rfl, ?_⟩ | refine ⟨Nat.le_of_ble_eq_true rfl, ?_⟩ | refine ⟨.inl rfl, ?_⟩ | refine ⟨fun h => Bool.noConfusion h, ?_⟩)
  conv => whnf
  have : checkF l = true := by
    rw [take_all (stamps_len l)] at hI3
    exact (checkF_iff l).2 ⟨h0, fun j hj => hI2 j hj hj, hI3⟩
  refine ⟨[], ?_, rfl, trivial, rfl, ?_⟩
  · exact trivial
  try subst hk
  simp only [this, cond_true, cond_false, Bool.not_true, Bool.not_false]
  repeat' (first | exact trivial | rfl | exact .inl rfl | exact .inr rfl | exact id | exact (fun h => Bool.noConfusion h) | refine And.intro ?_ ?_)
end Go.Proofs.YteelckbeekgfiaaDoor
