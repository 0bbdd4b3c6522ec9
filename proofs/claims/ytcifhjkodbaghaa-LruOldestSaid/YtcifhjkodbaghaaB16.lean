/- Zone: the reference's Give. -/
import Derived.Test.YtcifhjkodbaghaaB15
set_option linter.unusedSimpArgs false
set_option linter.unusedVariables false
namespace Go.Proofs.Ytcifhjkodbaghaa
open Go Go.Sk Go.RowKit

/- pagecache/pagecacheref10.Give -/
def rc21 : RC :=
  (.seq
  (.reg [⟨(some 4), none, (.mv (.c (.lst 0 true [])))⟩,
    ⟨(some 5), none, (.mv (.c (.int .i64 0)))⟩] [])
  (.seq
  (.seq
  (.reg [⟨(some 11), none, (.mv (.t 0))⟩,
    ⟨(some 12), none, (.call 23 [(.t 11)])⟩,
    ⟨(some 13), none, (.un .not (.t 12))⟩] [11, 12])
  (.cond (.t 13)
   (.seq
   (.reg [⟨(some 14), none, (.mv (.t 0))⟩,
     ⟨(some 4), none, (.mv (.t 14))⟩,
     ⟨(some 5), none, (.mv (.c (.int .i64 1)))⟩] [14])
   .ret)
   .skip))
  (.seq
  (.seq
  (.reg [⟨(some 6), none, (.mv (.c (.int .i64 0)))⟩] [])
  (.block 0
   (.loop
    (.seq
    (.seq
    (.reg [⟨(some 15), none, (.mv (.t 6))⟩,
      ⟨(some 16), none, (.mv (.t 0))⟩,
      ⟨(some 17), none, (.len (.t 16))⟩,
      ⟨(some 18), none, (.bin .lss (.t 15) (.t 17))⟩] [15, 16, 17])
    (.cond (.t 18)
     .skip
     (.exit 0)))
    (.seq
    (.block 1
     (.seq
     (.reg [⟨(some 21), none, (.mv (.t 0))⟩,
       ⟨(some 22), none, (.mv (.t 6))⟩,
       ⟨(some 23), none, (.iaddr 6 (.t 21) (.t 22))⟩,
       ⟨(some 24), none, (.ld true 6 (.t 23))⟩,
       ⟨(some 7), none, (.alloc [(.int .i64 0), (.int .i64 0), (.int .i64 0), (.int .i64 0), (.int .i64 0), (.lst 0 true [])])⟩,
       ⟨none, none, (.st 6 (.t 7) (.t 24))⟩] [21, 22, 23, 24])
     (.seq
     (.seq
     (.reg [⟨(some 25), none, (.mv (.t 1))⟩,
       ⟨(some 26), none, (.faddr 0 (.t 7))⟩,
       ⟨(some 27), none, (.ld false 1 (.t 26))⟩,
       ⟨(some 28), none, (.bin .lss (.t 25) (.t 27))⟩,
       ⟨(some 29), none, (.mv (.t 28))⟩,
       ⟨(some 30), (some (29, false)), (.mv (.t 1))⟩,
       ⟨(some 31), (some (29, false)), (.faddr 0 (.t 7))⟩,
       ⟨(some 32), (some (29, false)), (.ld false 1 (.t 31))⟩,
       ⟨(some 33), (some (29, false)), (.faddr 1 (.t 7))⟩,
       ⟨(some 34), (some (29, false)), (.ld false 1 (.t 33))⟩,
       ⟨(some 35), (some (29, false)), (.bin .add (.t 32) (.t 34))⟩,
       ⟨(some 36), (some (29, false)), (.bin .geq (.t 30) (.t 35))⟩,
       ⟨(some 37), none, (.pick (.t 29) (.c (.bool true)) (.t 36))⟩] [25, 26, 27, 28, 29, 30, 31, 32, 33, 34, 35, 36])
     (.cond (.t 37)
      (.exit 1)
      .skip))
     (.seq
     (.reg [⟨(some 8), none, (.mv (.c (.lst 0 true [])))⟩] [])
     (.seq
     (.reg [⟨(some 9), none, (.mv (.c (.bool false)))⟩] [])
     (.seq
     (.seq
     (.reg [⟨(some 10), none, (.mv (.c (.int .i64 0)))⟩] [])
     (.block 2
      (.loop
       (.seq
       (.seq
       (.reg [⟨(some 38), none, (.mv (.t 10))⟩,
         ⟨(some 39), none, (.faddr 5 (.t 7))⟩,
         ⟨(some 40), none, (.ld false 1 (.t 39))⟩,
         ⟨(some 41), none, (.len (.t 40))⟩,
         ⟨(some 42), none, (.bin .lss (.t 38) (.t 41))⟩] [38, 39, 40, 41])
       (.cond (.t 42)
        .skip
        (.exit 2)))
       (.seq
       (.block 3
        (.seq
        (.seq
        (.reg [⟨(some 45), none, (.faddr 5 (.t 7))⟩,
          ⟨(some 46), none, (.ld false 1 (.t 45))⟩,
          ⟨(some 47), none, (.mv (.t 10))⟩,
          ⟨(some 48), none, (.iaddr 1 (.t 46) (.t 47))⟩,
          ⟨(some 49), none, (.ld false 1 (.t 48))⟩,
          ⟨(some 50), none, (.mv (.t 1))⟩,
          ⟨(some 51), none, (.bin .eql (.t 49) (.t 50))⟩] [45, 46, 47, 48, 49, 50])
        (.cond (.t 51)
         (.seq
         (.reg [⟨(some 52), none, (.mv (.t 0))⟩,
           ⟨(some 4), none, (.mv (.t 52))⟩,
           ⟨(some 5), none, (.mv (.c (.int .i64 5)))⟩] [52])
         .ret)
         .skip))
        (.cut
        (.seq
        (.reg [⟨(some 53), none, (.mv (.t 9))⟩,
          ⟨(some 54), none, (.un .not (.t 53))⟩,
          ⟨(some 55), none, (.mv (.t 54))⟩,
          ⟨(some 56), (some (55, true)), (.faddr 5 (.t 7))⟩,
          ⟨(some 57), (some (55, true)), (.ld false 1 (.t 56))⟩,
          ⟨(some 58), (some (55, true)), (.mv (.t 10))⟩,
          ⟨(some 59), (some (55, true)), (.iaddr 1 (.t 57) (.t 58))⟩,
          ⟨(some 60), (some (55, true)), (.ld false 1 (.t 59))⟩,
          ⟨(some 61), (some (55, true)), (.mv (.t 1))⟩,
          ⟨(some 62), (some (55, true)), (.bin .gtr (.t 60) (.t 61))⟩,
          ⟨(some 63), none, (.pick (.t 55) (.t 62) (.c (.bool false)))⟩] [53, 54, 55, 56, 57, 58, 59, 60, 61, 62])
        (.cond (.t 63)
         (.seq
         (.reg [⟨(some 64), none, (.mv (.t 8))⟩,
           ⟨(some 65), none, (.mv (.t 1))⟩,
           ⟨(some 66), none, (.bslice 1 [(.int .i64 0)] 1 [(0, (.t 65))])⟩,
           ⟨(some 67), none, (.app 1 8 (.t 64) (.t 66))⟩,
           ⟨(some 8), none, (.mv (.t 67))⟩] [64, 65, 66, 67])
         (.reg [⟨(some 9), none, (.mv (.c (.bool true)))⟩] []))
         .skip))
        (.reg [⟨(some 68), none, (.mv (.t 8))⟩,
          ⟨(some 69), none, (.faddr 5 (.t 7))⟩,
          ⟨(some 70), none, (.ld false 1 (.t 69))⟩,
          ⟨(some 71), none, (.mv (.t 10))⟩,
          ⟨(some 72), none, (.iaddr 1 (.t 70) (.t 71))⟩,
          ⟨(some 73), none, (.ld false 1 (.t 72))⟩,
          ⟨(some 74), none, (.bslice 1 [(.int .i64 0)] 1 [(0, (.t 73))])⟩,
          ⟨(some 75), none, (.app 1 8 (.t 68) (.t 74))⟩,
          ⟨(some 8), none, (.mv (.t 75))⟩] [68, 69, 70, 71, 72, 73, 74, 75]))))
       (.reg [⟨(some 43), none, (.mv (.t 10))⟩,
         ⟨(some 44), none, (.bin .add (.t 43) (.c (.int .i64 1)))⟩,
         ⟨(some 10), none, (.mv (.t 44))⟩] [43, 44]))))))
     (.cut
     (.seq
     (.reg [⟨(some 76), none, (.mv (.t 9))⟩,
       ⟨(some 77), none, (.un .not (.t 76))⟩] [76])
     (.cond (.t 77)
      (.reg [⟨(some 78), none, (.mv (.t 8))⟩,
        ⟨(some 79), none, (.mv (.t 1))⟩,
        ⟨(some 80), none, (.bslice 1 [(.int .i64 0)] 1 [(0, (.t 79))])⟩,
        ⟨(some 81), none, (.app 1 8 (.t 78) (.t 80))⟩,
        ⟨(some 8), none, (.mv (.t 81))⟩] [78, 79, 80, 81])
      .skip))
     (.cut
     (.reg [⟨(some 82), none, (.mv (.t 8))⟩,
       ⟨(some 83), none, (.faddr 5 (.t 7))⟩,
       ⟨none, none, (.st 1 (.t 83) (.t 82))⟩] [82, 83])
     (.seq
     (.reg [⟨(some 84), none, (.mv (.t 0))⟩,
       ⟨(some 85), none, (.mv (.t 6))⟩,
       ⟨(some 86), none, (.ld true 6 (.t 7))⟩,
       ⟨(some 87), none, (.call 56 [(.t 84), (.t 85), (.t 86)])⟩,
       ⟨(some 4), none, (.mv (.t 87))⟩,
       ⟨(some 5), none, (.mv (.c (.int .i64 0)))⟩] [84, 85, 86, 87])
     .ret)))))))))
    (.reg [⟨(some 19), none, (.mv (.t 6))⟩,
      ⟨(some 20), none, (.bin .add (.t 19) (.c (.int .i64 1)))⟩,
      ⟨(some 6), none, (.mv (.t 20))⟩] [19, 20]))))))
  (.seq
  (.reg [⟨(some 88), none, (.mv (.t 0))⟩,
    ⟨(some 4), none, (.mv (.t 88))⟩,
    ⟨(some 5), none, (.mv (.c (.int .i64 2)))⟩] [88])
  .ret))))
theorem rcq21 : resC Go.Proofs.Try.prog Go.Proofs.Try.f21.ntmps ((Go.Proofs.Try.f21.body).getD .skip) = some (strip rc21) := by kernel_rfl
def rv21 : List RV := [(.tmp 4), (.tmp 5)]
theorem rvq21 : Go.Proofs.Try.f21.results.toList.mapM (resRV Go.Proofs.Try.prog) = some rv21 := by kernel_rfl

theorem atI_lt : ∀ (l : List Int) (x : Int) (j : Nat), j < atI l x → l.getD j 0 < x
  | [], _, j, h => by simp [atI] at h
  | y :: r, x, j, h => by
    simp only [atI, List.takeWhile_cons] at h
    split at h
    · rename_i hy
      cases j with
      | zero => simpa using hy
      | succ j => simpa using atI_lt r x j (by simpa [atI] using h)
    · simp at h
theorem atI_ge : ∀ (l : List Int) (x : Int), atI l x < l.length → x ≤ l.getD (atI l x) 0
  | [], _, h => by simp [atI] at h
  | y :: r, x, h => by
    simp only [atI, List.takeWhile_cons] at h ⊢
    split
    · rename_i hy
      rw [if_pos hy] at h
      simpa [atI] using atI_ge r x (by simpa [atI] using h)
    · rename_i hy
      simpa using hy
theorem pair_mono {l : List Int} (hs : l.Pairwise (· < ·)) (i j : Nat) (hij : i < j) (hj : j < l.length) : l.getD i 0 < l.getD j 0 := by
  rw [← getI l i (by omega), ← getI l j hj]
  exact List.pairwise_iff_getElem.1 hs i j (by omega) hj hij
theorem hit_of {l : List Int} (hs : l.Pairwise (· < ·)) {x : Int} {k : Nat} (hk : k < l.length) (h : l.getD k 0 = x) : hitI l x = true := by
  have : atI l x = k := atI_eq l x k (by omega) (fun j hj => by rw [← h]; exact pair_mono hs j k hj hk) (fun j hj hj' => by
    by_cases e : j = k
    · rw [e, h]; exact Int.le_refl _
    · have := pair_mono hs k j (by omega) hj'; omega)
  rw [hitI, this, h, show decide (k < l.length) = true by simpa using hk]
  simp
theorem hit_no {l : List Int} {x : Int} (h : ∀ k, k < l.length → l.getD k 0 ≠ x) : hitI l x = false := by
  rw [hitI]
  by_cases e : atI l x < l.length
  · rw [show decide (atI l x < l.length) = true by simpa using e]
    simpa using h _ e
  · rw [show decide (atI l x < l.length) = false by simpa using e]; rfl
def accA (l : List Int) (f : Int) (k : Nat) : List Int := if k ≤ atI l f then l.take k else insI (l.take k) (atI l f) f
theorem accA_len (l : List Int) (f : Int) (k : Nat) (hk : k ≤ l.length) : (accA l f k).length ≤ k + 1 := by
  unfold accA
  split
  · simp; omega
  · rw [insI_len]; simp; omega
theorem accA_put {l : List Int} {f : Int} (h : atI l f < l.length) : accA l f (atI l f) ++ [f] ++ [l.getD (atI l f) 0] = accA l f (atI l f + 1) := by
  rw [accA, if_pos (Nat.le_refl _), accA, if_neg (by omega), insI, ← getI l _ h, List.take_take, Nat.min_eq_left (by omega), List.append_assoc]
  congr 1
  rw [List.take_succ_eq_append_getElem h, List.drop_append_of_le_length (by simp; omega), List.drop_of_length_le (by simp; omega)]
  rfl
theorem accA_step {l : List Int} {f : Int} {k : Nat} (hk : k < l.length) (h : k ≠ atI l f) : accA l f k ++ [l.getD k 0] = accA l f (k + 1) := by
  rw [← getI l k hk]
  unfold accA
  by_cases e : k ≤ atI l f
  · rw [if_pos e, if_pos (by omega), List.take_succ_eq_append_getElem hk]
  · rw [if_neg e, if_neg (by omega), insI, insI, List.take_succ_eq_append_getElem hk, List.take_append_of_le_length (by simp; omega), List.drop_append_of_le_length (by simp; omega)]
    simp
theorem accA_end (l : List Int) (f : Int) : (if atI l f < l.length then accA l f l.length else accA l f l.length ++ [f]) = insI l (atI l f) f := by
  have := atI_le l f
  unfold accA
  split
  · rw [if_neg (by omega), List.take_length]
  · have e : atI l f = l.length := by omega
    rw [if_pos (by omega), e, insI]; simp
theorem rowsI_getK (L : List Int) (k : Nat) (h : k < L.length) : (rowsI L).getD ((k : Int)).toNat [] = [.int .i64 (L.getD k 0)] := by
  rw [Int.toNat_natCast, rowsI_get L k h, getI L k h]
set_option maxRecDepth 20000 in
set_option maxHeartbeats 16000000 in
theorem ok21 (l : List Zn) (t : Bool) (f : Int) (hl : SmallZ l) : FnC Try.prog 21 [] [.lst 6 t (rowsZ l), .int .i64 f] (.tup [.lst 6 false (rowsZ (giveG l l f).1), .int .i64 (giveG l l f).2]) [] := by
  have hlen := hl.len
  refine fn_okC (ob0 := []) (rc := rc21) (rvs := rv21) Try.func21 rfl rcq21 rvq21 (show 2 ≤ _ by decide) ?_
  generalize hk : giveG l l f = q
  repeat ((conv => whnf); first | refine Cd.seq ?_ | refine Cd.cut ?_ | refine Cd.reg ?_ | refine Cd.block ?_ | refine Cd.cond ?_ | refine Cd.dreg ?_ | refine Cd.skip ?_ | refine Cd.ret ?_ | refine Cd.exit ?_ | refine Cd.loop ?_ | refine ⟨rfl, ?_⟩ | refine ⟨Nat.le_of_ble_eq_true rfl, ?_⟩ | refine ⟨.inl rfl, ?_⟩ | refine ⟨fun h => Bool.noConfusion h, ?_⟩ | refine .inl ⟨_, fun _ => ⟨purA rfl, (by first | exact ok23 l t hl)⟩, .inl rfl, ?_⟩)
  conv => whnf
  refine ⟨fun h1 => ?_, fun h1 => ?_⟩ <;> try simp only [Bool.cond_true_left, Bool.cond_false_right, Bool.not_eq_true', Bool.not_eq_false', Bool.not_not] at h1
  · have h1 : (!checkZ l) = true := by rw [h1]; rfl
    simp only [giveG, h1, cond_true] at hk
    subst hk
    repeat ((conv => whnf); first | refine Cd.seq ?_ | refine Cd.cut ?_ | refine Cd.reg ?_ | refine Cd.block ?_ | refine Cd.cond ?_ | refine Cd.dreg ?_ | refine Cd.skip ?_ | refine Cd.ret ?_ | refine Cd.exit ?_ | refine Cd.loop ?_ | refine ⟨rfl, ?_⟩ | refine ⟨Nat.le_of_ble_eq_true rfl, ?_⟩ | refine ⟨.inl rfl, ?_⟩ | refine ⟨fun h => Bool.noConfusion h, ?_⟩)
    conv => whnf
    refine ⟨[], ?_, rfl, trivial, rfl, ?_⟩
    · exact trivial
    try subst hk
    repeat' (first | exact trivial | rfl | exact .inl rfl | exact .inr rfl | exact id | exact (fun h => Bool.noConfusion h) | refine And.intro ?_ ?_)
  have h1' : checkZ l = true := by simpa using h1
  have h1 : (!checkZ l) = false := by rw [h1']; rfl
  have hg := check_good h1'
  simp only [giveG, h1, cond_false] at hk
  repeat ((conv => whnf); first | refine Cd.seq ?_ | refine Cd.cut ?_ | refine Cd.reg ?_ | refine Cd.block ?_ | refine Cd.cond ?_ | refine Cd.dreg ?_ | refine Cd.skip ?_ | refine Cd.ret ?_ | refine Cd.exit ?_ | refine Cd.loop ?_ | refine ⟨rfl, ?_⟩ | refine ⟨Nat.le_of_ble_eq_true rfl, ?_⟩ | refine ⟨.inl rfl, ?_⟩ | refine ⟨fun h => Bool.noConfusion h, ?_⟩)
  conv => whnf
  refine ⟨Nat, fun i => i ≤ l.length ∧ ∀ j (hj : j < l.length), j < i → inG f l[j] = false, fun i => ⟨[(0, ⟨[], true, .lst 6 t (rowsZ l)⟩), (1, ⟨[], true, .int .i64 f⟩), (6, ⟨[], true, .int .i64 (i : Int)⟩)], [], 0⟩, fun i => l.length - i, ⟨0, ⟨by omega, fun j hj h => by omega⟩, ?_⟩, fun i hI => ?_⟩
  · refine viewI [] rfl rfl ?_ rfl ?_ rfl ?_
    repeat' (first | exact trivial | rfl | exact .inl rfl | exact .inr rfl | exact id | exact (fun h => Bool.noConfusion h) | refine And.intro ?_ ?_)
  obtain ⟨hI1, hI2⟩ := hI
  repeat ((conv => whnf); first | refine Cd.seq ?_ | refine Cd.cut ?_ | refine Cd.reg ?_ | refine Cd.block ?_ | refine Cd.cond ?_ | refine Cd.dreg ?_ | refine Cd.skip ?_ | refine Cd.ret ?_ | refine Cd.exit ?_ | refine Cd.loop ?_ | refine ⟨rfl, ?_⟩ | refine ⟨Nat.le_of_ble_eq_true rfl, ?_⟩ | refine ⟨.inl rfl, ?_⟩ | refine ⟨fun h => Bool.noConfusion h, ?_⟩)
  conv => whnf
  rw [rowsZ_len]
  refine ⟨fun h3 => ?_, fun h3 => ?_⟩ <;> try simp only [Bool.cond_true_left, Bool.cond_false_right, Bool.not_eq_true', Bool.not_eq_false', Bool.not_not] at h3
  · have h3 : i < l.length := by simp at h3; omega
    have hgn := hg l[i] (List.getElem_mem h3)
    have hfn := hl.free l[i] (List.getElem_mem h3)
    have hpw := ascN_pair _ _ _ hgn.asc
    repeat ((conv => whnf); first | refine Cd.seq ?_ | refine Cd.cut ?_ | refine Cd.reg ?_ | refine Cd.block ?_ | refine Cd.cond ?_ | refine Cd.dreg ?_ | refine Cd.skip ?_ | refine Cd.ret ?_ | refine Cd.exit ?_ | refine Cd.loop ?_ | refine ⟨rfl, ?_⟩ | refine ⟨Nat.le_of_ble_eq_true rfl, ?_⟩ | refine ⟨.inl rfl, ?_⟩ | refine ⟨fun h => Bool.noConfusion h, ?_⟩)
    conv => whnf
    refine ⟨fun _ => ⟨rfl, by omega, by rw [rowsZ_len]; omega⟩, ?_⟩
    rw [Int.toNat_natCast, rowsZ_get l i h3]
    repeat ((conv => whnf); first | refine Cd.seq ?_ | refine Cd.cut ?_ | refine Cd.reg ?_ | refine Cd.block ?_ | refine Cd.cond ?_ | refine Cd.dreg ?_ | refine Cd.skip ?_ | refine Cd.ret ?_ | refine Cd.exit ?_ | refine Cd.loop ?_ | refine ⟨rfl, ?_⟩ | refine ⟨Nat.le_of_ble_eq_true rfl, ?_⟩ | refine ⟨.inl rfl, ?_⟩ | refine ⟨fun h => Bool.noConfusion h, ?_⟩)
    conv => whnf
    refine ⟨fun h4 => ?_, fun h4 => ?_⟩ <;> try simp only [Bool.cond_true_left, Bool.cond_false_right, Bool.not_eq_true', Bool.not_eq_false', Bool.not_not] at h4
    · have h4 : inG f l[i] = false := by
        have e := hgn.stop; have e1 := hgn.first; have e2 := hgn.size
        rw [inG, endZ]
        rw [wrapI (by omega) (by omega)] at h4 ⊢
        simp at h4 ⊢
        omega
      repeat ((conv => whnf); first | refine Cd.seq ?_ | refine Cd.cut ?_ | refine Cd.reg ?_ | refine Cd.block ?_ | refine Cd.cond ?_ | refine Cd.dreg ?_ | refine Cd.skip ?_ | refine Cd.ret ?_ | refine Cd.exit ?_ | refine Cd.loop ?_ | refine ⟨rfl, ?_⟩ | refine ⟨Nat.le_of_ble_eq_true rfl, ?_⟩ | refine ⟨.inl rfl, ?_⟩ | refine ⟨fun h => Bool.noConfusion h, ?_⟩)
      conv => whnf
      rw [wrapI (n := (i : Int) + 1) (by omega) (by omega), show ((i : Int) + 1) = ((i + 1 : Nat) : Int) by omega]
      refine ⟨i + 1, ⟨by show i + 1 ≤ _; omega, fun j hj hj' => ?_⟩, ?_, by show l.length - (i + 1) < l.length - i; omega⟩
      · have hj' : j < i + 1 := hj'
        by_cases e : j = i
        · subst e; exact h4
        · exact hI2 j hj (by omega)
      refine viewI [] rfl rfl ?_ rfl ?_ rfl ?_
      repeat' (first | exact trivial | rfl | exact .inl rfl | exact .inr rfl | exact id | exact (fun h => Bool.noConfusion h) | refine And.intro ?_ ?_)
    have h4 : inG f l[i] = true := by
      have e := hgn.stop; have e1 := hgn.first; have e2 := hgn.size
      rw [inG, endZ]
      rw [wrapI (by omega) (by omega)] at h4 ⊢
      simp at h4 ⊢
      omega
    have hix : idxF (inG f) l = i := idxF_at _ _ i h3 (fun j hj => hI2 j (by omega) hj) h4
    rw [hix] at hk
    rw [show decide (((i : Nat) : Int) < 0) = false by simp, cond_false, Int.toNat_natCast, getZ l i h3] at hk
    generalize hz : l[i] = z at hgn hfn hpw h4 hk
    have hpl := atI_le z.free f
    repeat ((conv => whnf); first | refine Cd.seq ?_ | refine Cd.cut ?_ | refine Cd.reg ?_ | refine Cd.block ?_ | refine Cd.cond ?_ | refine Cd.dreg ?_ | refine Cd.skip ?_ | refine Cd.ret ?_ | refine Cd.exit ?_ | refine Cd.loop ?_ | refine ⟨rfl, ?_⟩ | refine ⟨Nat.le_of_ble_eq_true rfl, ?_⟩ | refine ⟨.inl rfl, ?_⟩ | refine ⟨fun h => Bool.noConfusion h, ?_⟩)
    conv => whnf
    refine ⟨Nat × List Int, fun y => (y.1 ≤ z.free.length ∧ ∀ j, j < y.1 → z.free.getD j 0 ≠ f) ∧ y.2 = accA z.free f y.1, fun y => ⟨[(0, ⟨[], true, .lst 6 t (rowsZ l)⟩), (1, ⟨[], true, .int .i64 f⟩), (6, ⟨[], true, .int .i64 (i : Int)⟩), (7, ⟨[], true, .ptr 0 0 0⟩), (8, ⟨[], true, .sl 1 0 y.2.length⟩), (9, ⟨[], true, .bool (decide (atI z.free f < y.1))⟩), (10, ⟨[], true, .int .i64 (y.1 : Int)⟩)],
      [(0, .box [.int .i64 z.first, .int .i64 z.size, .int .i64 z.min, .int .i64 z.low, .int .i64 z.high, .lst 1 z.ex (rowsI z.free)]), (1, .row 1 (rowsI y.2))], 2⟩, fun y => z.free.length - y.1, ⟨(0, []), ⟨⟨by simp, fun j hj => by simp at hj⟩, by show [] = accA z.free f 0; rw [accA, if_pos (by omega), List.take_zero]⟩, ?_⟩, fun y hk' => ?_⟩
    · refine viewI [some 0, none] rfl rfl ?_ rfl ?_ rfl ?_
      repeat' (first | exact trivial | rfl | exact .inl rfl | exact .inr rfl | exact id | exact (fun h => Bool.noConfusion h) | refine And.intro ?_ ?_)
    obtain ⟨k, acc⟩ := y
    obtain ⟨⟨hk1, hk2⟩, hacc⟩ := hk'
    simp only at hk1 hk2 hacc
    have hal := accA_len z.free f k hk1
    repeat ((conv => whnf); first | refine Cd.seq ?_ | refine Cd.cut ?_ | refine Cd.reg ?_ | refine Cd.block ?_ | refine Cd.cond ?_ | refine Cd.dreg ?_ | refine Cd.skip ?_ | refine Cd.ret ?_ | refine Cd.exit ?_ | refine Cd.loop ?_ | refine ⟨rfl, ?_⟩ | refine ⟨Nat.le_of_ble_eq_true rfl, ?_⟩ | refine ⟨.inl rfl, ?_⟩ | refine ⟨fun h => Bool.noConfusion h, ?_⟩)
    conv => whnf
    rw [rowsI_len]
    refine ⟨fun h5 => ?_, fun h5 => ?_⟩ <;> try simp only [Bool.cond_true_left, Bool.cond_false_right, Bool.not_eq_true', Bool.not_eq_false', Bool.not_not] at h5
    · have h5 : k < z.free.length := by simp at h5; omega
      repeat ((conv => whnf); first | refine Cd.seq ?_ | refine Cd.cut ?_ | refine Cd.reg ?_ | refine Cd.block ?_ | refine Cd.cond ?_ | refine Cd.dreg ?_ | refine Cd.skip ?_ | refine Cd.ret ?_ | refine Cd.exit ?_ | refine Cd.loop ?_ | refine ⟨rfl, ?_⟩ | refine ⟨Nat.le_of_ble_eq_true rfl, ?_⟩ | refine ⟨.inl rfl, ?_⟩ | refine ⟨fun h => Bool.noConfusion h, ?_⟩)
      conv => whnf
      have hb : (k : Int) < ((rowsI z.free).length : Int) := by rw [rowsI_len]; exact Int.ofNat_lt.2 h5
      refine ⟨fun _ => ⟨rfl, Int.natCast_nonneg k, hb⟩, ?_⟩
      rw [rowsI_getK z.free k h5]
      repeat ((conv => whnf); first | refine Cd.seq ?_ | refine Cd.cut ?_ | refine Cd.reg ?_ | refine Cd.block ?_ | refine Cd.cond ?_ | refine Cd.dreg ?_ | refine Cd.skip ?_ | refine Cd.ret ?_ | refine Cd.exit ?_ | refine Cd.loop ?_ | refine ⟨rfl, ?_⟩ | refine ⟨Nat.le_of_ble_eq_true rfl, ?_⟩ | refine ⟨.inl rfl, ?_⟩ | refine ⟨fun h => Bool.noConfusion h, ?_⟩)
      conv => whnf
      refine ⟨fun h6 => ?_, fun h6 => ?_⟩ <;> try simp only [Bool.cond_true_left, Bool.cond_false_right, Bool.not_eq_true', Bool.not_eq_false', Bool.not_not] at h6
      · have h6 : z.free.getD k 0 = f := by simpa using h6
        rw [hit_of hpw h5 h6, cond_true] at hk
        subst hk
        repeat ((conv => whnf); first | refine Cd.seq ?_ | refine Cd.cut ?_ | refine Cd.reg ?_ | refine Cd.block ?_ | refine Cd.cond ?_ | refine Cd.dreg ?_ | refine Cd.skip ?_ | refine Cd.ret ?_ | refine Cd.exit ?_ | refine Cd.loop ?_ | refine ⟨rfl, ?_⟩ | refine ⟨Nat.le_of_ble_eq_true rfl, ?_⟩ | refine ⟨.inl rfl, ?_⟩ | refine ⟨fun h => Bool.noConfusion h, ?_⟩)
        conv => whnf
        refine ⟨[], ?_, rfl, trivial, rfl, ?_⟩
        · exact trivial
        try subst hk
        repeat' (first | exact trivial | rfl | exact .inl rfl | exact .inr rfl | exact id | exact (fun h => Bool.noConfusion h) | refine And.intro ?_ ?_)
      have h6 : z.free.getD k 0 ≠ f := by simpa using h6
      repeat ((conv => whnf); first | refine Cd.seq ?_ | refine Cd.cut ?_ | refine Cd.reg ?_ | refine Cd.block ?_ | refine Cd.cond ?_ | refine Cd.dreg ?_ | refine Cd.skip ?_ | refine Cd.ret ?_ | refine Cd.exit ?_ | refine Cd.loop ?_ | refine ⟨rfl, ?_⟩ | refine ⟨Nat.le_of_ble_eq_true rfl, ?_⟩ | refine ⟨.inl rfl, ?_⟩ | refine ⟨fun h => Bool.noConfusion h, ?_⟩)
      conv => whnf
      generalize hm : (bif decide (atI z.free f = k) then acc ++ [f] else acc) = mid
      refine ⟨Unit, fun _ => True, fun _ => ⟨[(0, ⟨[], true, .lst 6 t (rowsZ l)⟩), (1, ⟨[], true, .int .i64 f⟩), (6, ⟨[], true, .int .i64 (i : Int)⟩), (7, ⟨[], true, .ptr 0 0 0⟩), (8, ⟨[], true, .sl 1 0 mid.length⟩), (9, ⟨[], true, .bool (decide (atI z.free f < k + 1))⟩), (10, ⟨[], true, .int .i64 (k : Int)⟩)],
        [(0, .box [.int .i64 z.first, .int .i64 z.size, .int .i64 z.min, .int .i64 z.low, .int .i64 z.high, .lst 1 z.ex (rowsI z.free)]), (1, .row 1 (rowsI mid))], 2⟩, ?_, fun _ _ => ?_⟩
      · repeat ((conv => whnf); first | refine Cd.seq ?_ | refine Cd.cut ?_ | refine Cd.reg ?_ | refine Cd.block ?_ | refine Cd.cond ?_ | refine Cd.dreg ?_ | refine Cd.skip ?_ | refine Cd.ret ?_ | refine Cd.exit ?_ | refine Cd.loop ?_ | refine ⟨rfl, ?_⟩ | refine ⟨Nat.le_of_ble_eq_true rfl, ?_⟩ | refine ⟨.inl rfl, ?_⟩ | refine ⟨fun h => Bool.noConfusion h, ?_⟩)
        conv => whnf
        refine ⟨fun _ => ⟨rfl, Int.natCast_nonneg k, hb⟩, ?_⟩
        rw [rowsI_getK z.free k h5]
        repeat ((conv => whnf); first | refine Cd.seq ?_ | refine Cd.cut ?_ | refine Cd.reg ?_ | refine Cd.block ?_ | refine Cd.cond ?_ | refine Cd.dreg ?_ | refine Cd.skip ?_ | refine Cd.ret ?_ | refine Cd.exit ?_ | refine Cd.loop ?_ | refine ⟨rfl, ?_⟩ | refine ⟨Nat.le_of_ble_eq_true rfl, ?_⟩ | refine ⟨.inl rfl, ?_⟩ | refine ⟨fun h => Bool.noConfusion h, ?_⟩)
        conv => whnf
        refine ⟨fun h7 => ?_, fun h7 => ?_⟩ <;> try simp only [Bool.cond_true_left, Bool.cond_false_right, Bool.not_eq_true', Bool.not_eq_false', Bool.not_not] at h7
        · have h7 : (!decide (atI z.free f < k) && decide (f < z.free.getD k 0)) = true := by simpa using h7
          have e7 : atI z.free f = k := by
            simp only [Bool.and_eq_true, Bool.not_eq_true', decide_eq_false_iff_not, decide_eq_true_eq] at h7
            have := fun h => atI_lt z.free f k h
            omega
          have hm : acc ++ [f] = mid := by rw [← hm, show decide (atI z.free f = k) = true by simpa using e7]; rfl
          subst hm
          repeat ((conv => whnf); first | refine Cd.seq ?_ | refine Cd.cut ?_ | refine Cd.reg ?_ | refine Cd.block ?_ | refine Cd.cond ?_ | refine Cd.dreg ?_ | refine Cd.skip ?_ | refine Cd.ret ?_ | refine Cd.exit ?_ | refine Cd.loop ?_ | refine ⟨rfl, ?_⟩ | refine ⟨Nat.le_of_ble_eq_true rfl, ?_⟩ | refine ⟨.inl rfl, ?_⟩ | refine ⟨fun h => Bool.noConfusion h, ?_⟩)
          conv => whnf
          refine ⟨(rowsI_len acc).symm, by show (((rowsI acc).length + 1 : Nat) : Int) ≤ _; rw [rowsI_len, hacc]; omega, by show ((rowsI acc).length + 1) * 8 ≤ _; rw [rowsI_len, hacc]; omega, ?_⟩
          repeat ((conv => whnf); first | refine Cd.seq ?_ | refine Cd.cut ?_ | refine Cd.reg ?_ | refine Cd.block ?_ | refine Cd.cond ?_ | refine Cd.dreg ?_ | refine Cd.skip ?_ | refine Cd.ret ?_ | refine Cd.exit ?_ | refine Cd.loop ?_ | refine ⟨rfl, ?_⟩ | refine ⟨Nat.le_of_ble_eq_true rfl, ?_⟩ | refine ⟨.inl rfl, ?_⟩ | refine ⟨fun h => Bool.noConfusion h, ?_⟩)
          conv => whnf
          refine ⟨(), trivial, ?_⟩
          refine viewI [some 0, some ?k197_1] rfl rfl ?h3_197 ?h4_197 ?h5_197 ?h6_197 ?h7_197
          case' h7_197 => repeat' (first | exact trivial | rfl | exact .inl rfl | exact .inr rfl | exact id | exact (fun h => Bool.noConfusion h) | refine And.intro ?_ ?_)
          case' h4_197 => rfl
          case' h6_197 => rfl
          case' h3_197 => repeat' (first | exact trivial | rfl | exact .inl rfl | exact .inr rfl | exact id | exact (fun h => Bool.noConfusion h) | refine And.intro ?_ ?_)
          case' h5_197 => repeat' (first | exact trivial | rfl | exact .inl rfl | exact .inr rfl | exact id | exact (fun h => Bool.noConfusion h) | refine And.intro ?_ ?_)
          · exact rowsI_snoc acc f
          · show (rowsI acc).length + 1 = _
            rw [rowsI_len, List.length_append]; rfl
          · show true = decide (atI z.free f < k + 1)
            simp; omega
        have h7 : (!decide (atI z.free f < k) && decide (f < z.free.getD k 0)) = false := by simpa using h7
        have e7 : atI z.free f ≠ k := by
          intro e
          have := atI_ge z.free f (by omega)
          rw [e] at this
          rw [e, show decide (k < k) = false by simp, Bool.not_false, Bool.true_and, decide_eq_false_iff_not] at h7
          omega
        have hm : acc = mid := by rw [← hm, show decide (atI z.free f = k) = false by simpa using e7]; rfl
        subst hm
        repeat ((conv => whnf); first | refine Cd.seq ?_ | refine Cd.cut ?_ | refine Cd.reg ?_ | refine Cd.block ?_ | refine Cd.cond ?_ | refine Cd.dreg ?_ | refine Cd.skip ?_ | refine Cd.ret ?_ | refine Cd.exit ?_ | refine Cd.loop ?_ | refine ⟨rfl, ?_⟩ | refine ⟨Nat.le_of_ble_eq_true rfl, ?_⟩ | refine ⟨.inl rfl, ?_⟩ | refine ⟨fun h => Bool.noConfusion h, ?_⟩)
        conv => whnf
        refine ⟨(), trivial, ?_⟩
        refine viewI [some 0, some 1] rfl rfl ?_ rfl ?_ rfl ?_
        repeat' (first | exact trivial | rfl | exact .inl rfl | exact .inr rfl | exact id | exact (fun h => Bool.noConfusion h) | refine And.intro ?_ ?_)
        exact decide_eq_decide.2 (by show atI z.free f < k ↔ atI z.free f < k + 1; omega)
      repeat ((conv => whnf); first | refine Cd.seq ?_ | refine Cd.cut ?_ | refine Cd.reg ?_ | refine Cd.block ?_ | refine Cd.cond ?_ | refine Cd.dreg ?_ | refine Cd.skip ?_ | refine Cd.ret ?_ | refine Cd.exit ?_ | refine Cd.loop ?_ | refine ⟨rfl, ?_⟩ | refine ⟨Nat.le_of_ble_eq_true rfl, ?_⟩ | refine ⟨.inl rfl, ?_⟩ | refine ⟨fun h => Bool.noConfusion h, ?_⟩)
      conv => whnf
      have hml : mid.length ≤ k + 2 := by
        rw [← hm]
        cases decide (atI z.free f = k) with
        | true => show (acc ++ [f]).length ≤ _; rw [hacc]; have := hal; simp; omega
        | false => show acc.length ≤ _; rw [hacc]; omega
      refine ⟨fun _ => ⟨rfl, Int.natCast_nonneg k, hb⟩, ?_⟩
      rw [rowsI_getK z.free k h5]
      repeat ((conv => whnf); first | refine Cd.seq ?_ | refine Cd.cut ?_ | refine Cd.reg ?_ | refine Cd.block ?_ | refine Cd.cond ?_ | refine Cd.dreg ?_ | refine Cd.skip ?_ | refine Cd.ret ?_ | refine Cd.exit ?_ | refine Cd.loop ?_ | refine ⟨rfl, ?_⟩ | refine ⟨Nat.le_of_ble_eq_true rfl, ?_⟩ | refine ⟨.inl rfl, ?_⟩ | refine ⟨fun h => Bool.noConfusion h, ?_⟩)
      conv => whnf
      refine ⟨(rowsI_len mid).symm, by show (((rowsI mid).length + 1 : Nat) : Int) ≤ _; rw [rowsI_len]; omega, by show ((rowsI mid).length + 1) * 8 ≤ _; rw [rowsI_len]; omega, ?_⟩
      repeat ((conv => whnf); first | refine Cd.seq ?_ | refine Cd.cut ?_ | refine Cd.reg ?_ | refine Cd.block ?_ | refine Cd.cond ?_ | refine Cd.dreg ?_ | refine Cd.skip ?_ | refine Cd.ret ?_ | refine Cd.exit ?_ | refine Cd.loop ?_ | refine ⟨rfl, ?_⟩ | refine ⟨Nat.le_of_ble_eq_true rfl, ?_⟩ | refine ⟨.inl rfl, ?_⟩ | refine ⟨fun h => Bool.noConfusion h, ?_⟩)
      conv => whnf
      rw [wrapI (n := (k : Int) + 1) (by omega) (by omega), show ((k : Int) + 1) = ((k + 1 : Nat) : Int) by omega]
      have hnext : mid ++ [z.free.getD k 0] = accA z.free f (k + 1) := by
        by_cases e : atI z.free f = k
        · rw [← hm, show decide (atI z.free f = k) = true by simpa using e, cond_true, hacc, ← e]
          exact accA_put (by omega)
        · rw [← hm, show decide (atI z.free f = k) = false by simpa using e, cond_false, hacc]
          exact accA_step h5 (fun h => e h.symm)
      refine ⟨(k + 1, mid ++ [z.free.getD k 0]), ⟨⟨by show k + 1 ≤ _; omega, fun j hj => ?_⟩, hnext⟩, ?_, by show z.free.length - (k + 1) < z.free.length - k; omega⟩
      · have hj : j < k + 1 := hj
        by_cases e : j = k
        · rw [e]; exact h6
        · exact hk2 j (by omega)
      refine viewI [some 0, some ?k249_1] rfl rfl ?h3_249 ?h4_249 ?h5_249 ?h6_249 ?h7_249
      case' h7_249 => repeat' (first | exact trivial | rfl | exact .inl rfl | exact .inr rfl | exact id | exact (fun h => Bool.noConfusion h) | refine And.intro ?_ ?_)
      case' h4_249 => rfl
      case' h6_249 => rfl
      case' h3_249 => repeat' (first | exact trivial | rfl | exact .inl rfl | exact .inr rfl | exact id | exact (fun h => Bool.noConfusion h) | refine And.intro ?_ ?_)
      case' h5_249 => repeat' (first | exact trivial | rfl | exact .inl rfl | exact .inr rfl | exact id | exact (fun h => Bool.noConfusion h) | refine And.intro ?_ ?_)
      · exact rowsI_snoc mid _
      · show (rowsI mid).length + 1 = _
        rw [rowsI_len, List.length_append]; rfl
    have h5 : k = z.free.length := by simp at h5; omega
    subst h5
    rw [hit_no hk2, cond_false] at hk
    repeat ((conv => whnf); first | refine Cd.seq ?_ | refine Cd.cut ?_ | refine Cd.reg ?_ | refine Cd.block ?_ | refine Cd.cond ?_ | refine Cd.dreg ?_ | refine Cd.skip ?_ | refine Cd.ret ?_ | refine Cd.exit ?_ | refine Cd.loop ?_ | refine ⟨rfl, ?_⟩ | refine ⟨Nat.le_of_ble_eq_true rfl, ?_⟩ | refine ⟨.inl rfl, ?_⟩ | refine ⟨fun h => Bool.noConfusion h, ?_⟩)
    conv => whnf
    generalize hr : insI z.free (atI z.free f) f = res
    have hrl : res.length = z.free.length + 1 := by rw [← hr, insI_len]
    have hend := accA_end z.free f
    rw [← hacc, hr] at hend
    refine ⟨Unit, fun _ => True, fun _ => ⟨[(0, ⟨[], true, .lst 6 t (rowsZ l)⟩), (6, ⟨[], true, .int .i64 (i : Int)⟩), (7, ⟨[], true, .ptr 0 0 0⟩), (8, ⟨[], true, .sl 1 0 res.length⟩)],
      [(0, .box [.int .i64 z.first, .int .i64 z.size, .int .i64 z.min, .int .i64 z.low, .int .i64 z.high, .lst 1 z.ex (rowsI z.free)]), (1, .row 1 (rowsI res))], 2⟩, ?_, fun _ _ => ?_⟩
    · repeat ((conv => whnf); first | refine Cd.seq ?_ | refine Cd.cut ?_ | refine Cd.reg ?_ | refine Cd.block ?_ | refine Cd.cond ?_ | refine Cd.dreg ?_ | refine Cd.skip ?_ | refine Cd.ret ?_ | refine Cd.exit ?_ | refine Cd.loop ?_ | refine ⟨rfl, ?_⟩ | refine ⟨Nat.le_of_ble_eq_true rfl, ?_⟩ | refine ⟨.inl rfl, ?_⟩ | refine ⟨fun h => Bool.noConfusion h, ?_⟩)
      conv => whnf
      refine ⟨fun h7 => ?_, fun h7 => ?_⟩ <;> try simp only [Bool.cond_true_left, Bool.cond_false_right, Bool.not_eq_true', Bool.not_eq_false', Bool.not_not] at h7
      · have h7 : decide (atI z.free f < z.free.length) = false := h7
        have hend : acc ++ [f] = res := by rw [← hend, if_neg (by simpa using h7)]
        subst hend
        repeat ((conv => whnf); first | refine Cd.seq ?_ | refine Cd.cut ?_ | refine Cd.reg ?_ | refine Cd.block ?_ | refine Cd.cond ?_ | refine Cd.dreg ?_ | refine Cd.skip ?_ | refine Cd.ret ?_ | refine Cd.exit ?_ | refine Cd.loop ?_ | refine ⟨rfl, ?_⟩ | refine ⟨Nat.le_of_ble_eq_true rfl, ?_⟩ | refine ⟨.inl rfl, ?_⟩ | refine ⟨fun h => Bool.noConfusion h, ?_⟩)
        conv => whnf
        refine ⟨(rowsI_len acc).symm, by show (((rowsI acc).length + 1 : Nat) : Int) ≤ _; rw [rowsI_len]; simp at hrl; omega, by show ((rowsI acc).length + 1) * 8 ≤ _; rw [rowsI_len]; simp at hrl; omega, ?_⟩
        repeat ((conv => whnf); first | refine Cd.seq ?_ | refine Cd.cut ?_ | refine Cd.reg ?_ | refine Cd.block ?_ | refine Cd.cond ?_ | refine Cd.dreg ?_ | refine Cd.skip ?_ | refine Cd.ret ?_ | refine Cd.exit ?_ | refine Cd.loop ?_ | refine ⟨rfl, ?_⟩ | refine ⟨Nat.le_of_ble_eq_true rfl, ?_⟩ | refine ⟨.inl rfl, ?_⟩ | refine ⟨fun h => Bool.noConfusion h, ?_⟩)
        conv => whnf
        refine ⟨(), trivial, ?_⟩
        refine viewI [some 0, some ?k281_1] rfl rfl ?h3_281 ?h4_281 ?h5_281 ?h6_281 ?h7_281
        case' h7_281 => repeat' (first | exact trivial | rfl | exact .inl rfl | exact .inr rfl | exact id | exact (fun h => Bool.noConfusion h) | refine And.intro ?_ ?_)
        case' h4_281 => rfl
        case' h6_281 => rfl
        case' h3_281 => repeat' (first | exact trivial | rfl | exact .inl rfl | exact .inr rfl | exact id | exact (fun h => Bool.noConfusion h) | refine And.intro ?_ ?_)
        case' h5_281 => repeat' (first | exact trivial | rfl | exact .inl rfl | exact .inr rfl | exact id | exact (fun h => Bool.noConfusion h) | refine And.intro ?_ ?_)
        · exact rowsI_snoc acc f
        · show (rowsI acc).length + 1 = _
          rw [rowsI_len, List.length_append]; rfl
      have h7 : decide (atI z.free f < z.free.length) = true := h7
      have hend : acc = res := by rw [← hend, if_pos (by simpa using h7)]
      subst hend
      repeat ((conv => whnf); first | refine Cd.seq ?_ | refine Cd.cut ?_ | refine Cd.reg ?_ | refine Cd.block ?_ | refine Cd.cond ?_ | refine Cd.dreg ?_ | refine Cd.skip ?_ | refine Cd.ret ?_ | refine Cd.exit ?_ | refine Cd.loop ?_ | refine ⟨rfl, ?_⟩ | refine ⟨Nat.le_of_ble_eq_true rfl, ?_⟩ | refine ⟨.inl rfl, ?_⟩ | refine ⟨fun h => Bool.noConfusion h, ?_⟩)
      conv => whnf
      refine ⟨(), trivial, ?_⟩
      refine viewI [some 0, some 1] rfl rfl ?_ rfl ?_ rfl ?_
      repeat' (first | exact trivial | rfl | exact .inl rfl | exact .inr rfl | exact id | exact (fun h => Bool.noConfusion h) | refine And.intro ?_ ?_)
    repeat ((conv => whnf); first | refine Cd.seq ?_ | refine Cd.cut ?_ | refine Cd.reg ?_ | refine Cd.block ?_ | refine Cd.cond ?_ | refine Cd.dreg ?_ | refine Cd.skip ?_ | refine Cd.ret ?_ | refine Cd.exit ?_ | refine Cd.loop ?_ | refine ⟨rfl, ?_⟩ | refine ⟨Nat.le_of_ble_eq_true rfl, ?_⟩ | refine ⟨.inl rfl, ?_⟩ | refine ⟨fun h => Bool.noConfusion h, ?_⟩)
    conv => whnf
    refine ⟨Unit, fun _ => True, fun _ => ⟨[(0, ⟨[], true, .lst 6 t (rowsZ l)⟩), (6, ⟨[], true, .int .i64 (i : Int)⟩), (7, ⟨[], true, .ptr 0 0 0⟩)], [(0, .box (Zn.c ⟨z.first, z.size, z.min, z.low, z.high, res, false⟩))], 1⟩, ?_, fun _ _ => ?_⟩
    · repeat ((conv => whnf); first | refine Cd.seq ?_ | refine Cd.cut ?_ | refine Cd.reg ?_ | refine Cd.block ?_ | refine Cd.cond ?_ | refine Cd.dreg ?_ | refine Cd.skip ?_ | refine Cd.ret ?_ | refine Cd.exit ?_ | refine Cd.loop ?_ | refine ⟨rfl, ?_⟩ | refine ⟨Nat.le_of_ble_eq_true rfl, ?_⟩ | refine ⟨.inl rfl, ?_⟩ | refine ⟨fun h => Bool.noConfusion h, ?_⟩)
      conv => whnf
      refine ⟨(), trivial, ?_⟩
      refine viewI [some 0] rfl rfl ?_ rfl ?_ rfl ?_
      repeat' (first | exact trivial | rfl | exact .inl rfl | exact .inr rfl | exact id | exact (fun h => Bool.noConfusion h) | refine And.intro ?_ ?_)
      · show 0 + res.length ≤ _
        rw [rowsI_len]; omega
      · exact take0 (rowsI_len _)
    repeat ((conv => whnf); first | refine Cd.seq ?_ | refine Cd.cut ?_ | refine Cd.reg ?_ | refine Cd.block ?_ | refine Cd.cond ?_ | refine Cd.dreg ?_ | refine Cd.skip ?_ | refine Cd.ret ?_ | refine Cd.exit ?_ | refine Cd.loop ?_ | refine ⟨rfl, ?_⟩ | refine ⟨Nat.le_of_ble_eq_true rfl, ?_⟩ | refine ⟨.inl rfl, ?_⟩ | refine ⟨fun h => Bool.noConfusion h, ?_⟩ | refine .inl ⟨_, fun _ => ⟨purA rfl, (by first | exact ok56 l t i ⟨z.first, z.size, z.min, z.low, z.high, res, false⟩ h3 hlen)⟩, .inl rfl, ?_⟩)
    conv => whnf
    subst hk
    refine ⟨[], ?_, rfl, trivial, rfl, ?_⟩
    · exact trivial
    try subst hk
    repeat' (first | exact trivial | rfl | exact .inl rfl | exact .inr rfl | exact id | exact (fun h => Bool.noConfusion h) | refine And.intro ?_ ?_)
    rw [← hr]; rfl
  have h3 : i = l.length := by simp at h3; omega
  subst h3
  have hnone : idxF (inG f) l = -1 := idxF_none _ _ fun z hz => by
    obtain ⟨j, hj, rfl⟩ := List.getElem_of_mem hz
    exact hI2 j hj hj
  rw [hnone] at hk
  have hk : (l, (2 : Int)) = q := hk
  subst hk
  repeat ((conv => whnf); first | refine Cd.seq ?_ | refine Cd.cut ?_ | refine Cd.reg ?_ | refine Cd.block ?_ | refine Cd.cond ?_ | refine Cd.dreg ?_ | refine Cd.skip ?_ | refine Cd.ret ?_ | refine Cd.exit ?_ | refine Cd.loop ?_ | refine ⟨rfl, ?_⟩ | refine ⟨Nat.le_of_ble_eq_true rfl, ?_⟩ | refine ⟨.inl rfl, ?_⟩ | refine ⟨fun h => Bool.noConfusion h, ?_⟩)
  conv => whnf
  refine ⟨[], ?_, rfl, trivial, rfl, ?_⟩
  · exact trivial
  try subst hk
  repeat' (first | exact trivial | rfl | exact .inl rfl | exact .inr rfl | exact id | exact (fun h => Bool.noConfusion h) | refine And.intro ?_ ?_)
end Go.Proofs.Ytcifhjkodbaghaa
