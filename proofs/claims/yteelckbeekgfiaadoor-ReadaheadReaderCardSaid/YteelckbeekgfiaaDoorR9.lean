/- Readahead: the law ReadaheadOthers, as a contract. -/
import Derived.Test.YteelckbeekgfiaaDoorR8
import Derived.Test.YteelckbeekgfiaaDoorW18
set_option linter.unusedSimpArgs false
set_option linter.unusedVariables false
namespace Go.Proofs.YteelckbeekgfiaaDoor
open Go Go.Sk Go.RowKit

/- pagecache/pagecachelaw07.ReadaheadOthers -/
def rc4 : RC :=
  (.seq
  (.reg [⟨(some 2), none, (.mv (.c (.bool false)))⟩] [])
  (.seq
  (.reg [⟨(some 9), none, (.mv (.t 0))⟩,
    ⟨(some 10), none, (.build [(.lst 0 true []), (.int .i64 0)] [(0, (1, (.t 9)))])⟩,
    ⟨(some 11), none, (.box (.t 10))⟩,
    ⟨(some 3), none, (.mv (.t 11))⟩] [9, 10, 11])
  (.seq
  (.reg [⟨(some 12), none, (.mv (.t 3))⟩,
    ⟨(some 13), none, (.call 6 [(.t 12)])⟩,
    ⟨(some 4), none, (.mv (.t 13))⟩] [12, 13])
  (.seq
  (.seq
  (.reg [⟨(some 5), none, (.mv (.c (.int .i64 0)))⟩] [])
  (.block 0
   (.loop
    (.seq
    (.seq
    (.reg [⟨(some 14), none, (.mv (.t 5))⟩,
      ⟨(some 15), none, (.mv (.t 4))⟩,
      ⟨(some 16), none, (.len (.t 15))⟩,
      ⟨(some 17), none, (.bin .lss (.t 14) (.t 16))⟩] [14, 15, 16])
    (.cond (.t 17)
     .skip
     (.exit 0)))
    (.seq
    (.block 1
     (.seq
     (.dreg 7168 7552 [⟨(some 21), none, (.build [(.int .i64 0), (.int .i64 0), (.int .i64 0)] [])⟩,
       ⟨(some 22), none, (.mv (.t 4))⟩,
       ⟨(some 23), none, (.mv (.t 5))⟩,
       ⟨(some 24), none, (.iaddr 6 (.t 22) (.t 23))⟩,
       ⟨(some 25), none, (.ld true 6 (.t 24))⟩,
       ⟨(some 26), none, (.mv (.t 4))⟩,
       ⟨(some 27), none, (.mv (.t 5))⟩,
       ⟨(some 28), none, (.iaddr 6 (.t 26) (.t 27))⟩,
       ⟨(some 29), none, (.faddr 1 (.t 28))⟩,
       ⟨(some 30), none, (.ld false 1 (.t 29))⟩,
       ⟨(some 31), none, (.mv (.t 4))⟩,
       ⟨(some 32), none, (.mv (.t 5))⟩,
       ⟨(some 33), none, (.iaddr 6 (.t 31) (.t 32))⟩,
       ⟨(some 34), none, (.faddr 2 (.t 33))⟩,
       ⟨(some 35), none, (.ld false 1 (.t 34))⟩,
       ⟨(some 36), none, (.call 9 [(.t 21), (.t 25), (.t 30), (.t 35), (.c (.int .i64 256))])⟩,
       ⟨(some 20), none, (.mv (.t 36))⟩,
       ⟨(some 37), none, (.extr 0 (.t 20))⟩,
       ⟨(some 38), none, (.extr 1 (.t 20))⟩,
       ⟨(some 39), none, (.extr 2 (.t 20))⟩,
       ⟨(some 6), none, (.alloc [(.int .i64 0), (.int .i64 0), (.int .i64 0)])⟩,
       ⟨none, none, (.st 3 (.t 6) (.t 37))⟩,
       ⟨(some 7), none, (.mv (.t 38))⟩,
       ⟨(some 8), none, (.mv (.t 39))⟩] [21, 22, 23, 24, 25, 26, 27, 28, 29, 30, 31, 32, 33, 34, 35, 36, 20, 37, 38, 39] [[], [], [], [1, 2], [3, 2, 1], [], [], [5, 6], [7, 6, 5], [8, 5, 6, 7], [], [], [10, 11], [12, 11, 10], [13, 10, 11, 12], [0, 4, 1, 2, 3, 9, 7, 6, 5, 8, 14, 12, 11, 10, 13], [15, 13, 10, 11, 12, 14, 8, 5, 6, 7, 9, 3, 2, 1, 4, 0], [16, 0, 4, 1, 2, 3, 9, 7, 6, 5, 8, 14, 12, 11, 10, 13, 15], [16, 0, 4, 1, 2, 3, 9, 7, 6, 5, 8, 14, 12, 11, 10, 13, 15], [16, 0, 4, 1, 2, 3, 9, 7, 6, 5, 8, 14, 12, 11, 10, 13, 15], [], [17, 15, 13, 10, 11, 12, 14, 8, 5, 6, 7, 9, 3, 2, 1, 4, 0, 16, 20], [18, 21, 20, 16, 0, 4, 1, 2, 3, 9, 7, 6, 5, 8, 14, 12, 11, 10, 13, 15, 17], [19, 22, 17, 15, 13, 10, 11, 12, 14, 8, 5, 6, 7, 9, 3, 2, 1, 4, 0, 16, 20, 21, 18]] [7168, 7184, 7200, 7216, 7232, 7248, 7264, 7280, 7296, 7312, 7328, 7344, 7360, 7376, 7392, 7408, 7424, 7440, 7456, 7472, 7488, 7504, 7520, 7536])
     (.seq
     (.seq
     (.reg [⟨(some 40), none, (.mv (.t 8))⟩,
       ⟨(some 41), none, (.bin .neq (.t 40) (.c (.int .i64 0)))⟩] [40])
     (.cond (.t 41)
      (.seq
      (.reg [⟨(some 2), none, (.mv (.c (.bool false)))⟩] [])
      .ret)
      .skip))
     (.block 2
      (.seq
      (.reg [⟨(some 43), none, (.mv (.t 4))⟩,
        ⟨(some 44), none, (.mv (.t 5))⟩,
        ⟨(some 45), none, (.iaddr 6 (.t 43) (.t 44))⟩,
        ⟨(some 46), none, (.ld true 6 (.t 45))⟩,
        ⟨(some 47), none, (.call 21 [(.t 46)])⟩,
        ⟨(some 48), none, (.un .not (.t 47))⟩,
        ⟨(some 42), none, (.mv (.t 48))⟩] [43, 44, 45, 46, 47, 48])
      (.cond (.t 42)
       (.seq
       (.reg [⟨(some 49), none, (.mv (.t 7))⟩,
         ⟨(some 50), none, (.len (.t 49))⟩,
         ⟨(some 51), none, (.bin .gtr (.t 50) (.c (.int .i64 0)))⟩,
         ⟨(some 52), none, (.mv (.t 51))⟩,
         ⟨(some 53), (some (52, false)), (.ld true 3 (.t 6))⟩,
         ⟨(some 54), (some (52, false)), (.build [(.int .i64 0), (.int .i64 0), (.int .i64 0)] [])⟩,
         ⟨(some 55), (some (52, false)), (.eqs true [(0, false), (1, false), (2, false)] (.t 53) (.t 54))⟩,
         ⟨(some 56), none, (.pick (.t 52) (.c (.bool true)) (.t 55))⟩] [49, 50, 51, 52, 53, 54, 55])
       (.cond (.t 56)
        (.seq
        (.reg [⟨(some 2), none, (.mv (.c (.bool false)))⟩] [])
        .ret)
        .skip))
       (.seq
       (.reg [⟨(some 58), none, (.mv (.t 4))⟩,
         ⟨(some 59), none, (.mv (.t 5))⟩,
         ⟨(some 60), none, (.iaddr 6 (.t 58) (.t 59))⟩,
         ⟨(some 61), none, (.faddr 0 (.t 60))⟩,
         ⟨(some 62), none, (.ld false 1 (.t 61))⟩,
         ⟨(some 63), none, (.bin .neq (.t 62) (.c (.int .i64 2)))⟩,
         ⟨(some 57), none, (.mv (.t 63))⟩] [58, 59, 60, 61, 62, 63])
       (.cond (.t 57)
        (.seq
        (.dreg 14336 14656 [⟨(some 64), none, (.mv (.t 7))⟩,
          ⟨(some 65), none, (.mv (.t 4))⟩,
          ⟨(some 66), none, (.mv (.t 5))⟩,
          ⟨(some 67), none, (.iaddr 6 (.t 65) (.t 66))⟩,
          ⟨(some 68), none, (.ld true 6 (.t 67))⟩,
          ⟨(some 69), none, (.mv (.t 4))⟩,
          ⟨(some 70), none, (.mv (.t 5))⟩,
          ⟨(some 71), none, (.iaddr 6 (.t 69) (.t 70))⟩,
          ⟨(some 72), none, (.faddr 2 (.t 71))⟩,
          ⟨(some 73), none, (.ld false 1 (.t 72))⟩,
          ⟨(some 74), none, (.mv (.t 4))⟩,
          ⟨(some 75), none, (.mv (.t 5))⟩,
          ⟨(some 76), none, (.iaddr 6 (.t 74) (.t 75))⟩,
          ⟨(some 77), none, (.faddr 1 (.t 76))⟩,
          ⟨(some 78), none, (.ld false 1 (.t 77))⟩,
          ⟨(some 79), none, (.bin .sub (.t 73) (.t 78))⟩,
          ⟨(some 80), none, (.call 16 [(.t 79)])⟩,
          ⟨(some 81), none, (.call 22 [(.t 68), (.t 80)])⟩,
          ⟨(some 82), none, (.call 13 [(.t 64), (.t 81)])⟩,
          ⟨(some 83), none, (.un .not (.t 82))⟩] [64, 65, 66, 67, 68, 69, 70, 71, 72, 73, 74, 75, 76, 77, 78, 79, 80, 81, 82] [[], [], [], [1, 2], [3, 2, 1], [], [], [5, 6], [7, 6, 5], [8, 5, 6, 7], [], [], [10, 11], [12, 11, 10], [13, 10, 11, 12], [9, 7, 6, 5, 8, 14, 12, 11, 10, 13], [15, 13, 10, 11, 12, 14, 8, 5, 6, 7, 9], [4, 1, 2, 3, 16, 9, 7, 6, 5, 8, 14, 12, 11, 10, 13, 15], [0, 17, 15, 13, 10, 11, 12, 14, 8, 5, 6, 7, 9, 16, 3, 2, 1, 4], [18, 4, 1, 2, 3, 16, 9, 7, 6, 5, 8, 14, 12, 11, 10, 13, 15, 17, 0]] [14336, 14352, 14368, 14384, 14400, 14416, 14432, 14448, 14464, 14480, 14496, 14512, 14528, 14544, 14560, 14576, 14592, 14608, 14624, 14640])
        (.cond (.t 83)
         (.seq
         (.reg [⟨(some 2), none, (.mv (.c (.bool false)))⟩] [])
         .ret)
         .skip))
        .skip))))))))
    (.reg [⟨(some 18), none, (.mv (.t 5))⟩,
      ⟨(some 19), none, (.bin .add (.t 18) (.c (.int .i64 1)))⟩,
      ⟨(some 5), none, (.mv (.t 19))⟩] [18, 19]))))))
  (.seq
  (.reg [⟨(some 84), none, (.call 20 [])⟩,
    ⟨(some 2), none, (.mv (.t 84))⟩] [84])
  .ret)))))
theorem rcq4 : resC Go.Proofs.Tryd.prog Go.Proofs.Tryd.f4.ntmps ((Go.Proofs.Tryd.f4.body).getD .skip) = some (strip rc4) := by kernel_rfl
def rv4 : List RV := [(.tmp 2)]
theorem rvq4 : Go.Proofs.Tryd.f4.results.toList.mapM (resRV Go.Proofs.Tryd.prog) = some rv4 := by kernel_rfl

theorem streamsF_check (L : List Int) (I : Nat) : checkF (streamsF L I).1 = true := by
  have key : ∀ (n : Nat) (l : List Stm) (J : Nat), checkF l = true → checkF (streamsLoop L n l J).1 = true := by
    intro n
    induction n with
    | zero => intro l J h; exact h
    | succ n ih => intro l J h; exact ih _ _ (feed_check _ _ _ h)
  exact key _ _ _ (by decide)
theorem genP_small (step n : Int) : ∀ (f : Nat) (fr to p : Int) (out r : List Int), genP step n f fr to p out = some r → (∀ x ∈ out, x < 256) → ∀ x ∈ r, x < 256 := by
  intro f
  induction f with
  | zero => intro fr to p out r h; simp [genP] at h
  | succ f ih =>
    intro fr to p out r h hl
    simp only [genP] at h
    cases h1 : decide (p < to) with
    | false => rw [h1, cond_false] at h; exact ih _ _ _ _ _ h hl
    | true =>
      rw [h1, cond_true] at h
      cases h2 : (decide (n ≤ (out.length : Int)) || decide (p < 0)) || decide (255 < p) with
      | true => rw [h2, cond_true] at h; obtain rfl := Option.some.inj h; exact hl
      | false =>
        rw [h2, cond_false] at h
        simp only [Bool.or_eq_false_iff, decide_eq_false_iff_not] at h2
        refine ih _ _ _ _ _ h fun x hx => ?_
        rcases List.mem_append.1 hx with hx | hx
        · exact hl x hx
        · rw [List.mem_singleton] at hx; omega
theorem predict_small (s : Stm) (n : Int) : keptF (predictF s n) 256 = predictF s n := by
  rw [keptF, List.filter_eq_self]
  intro x hx
  rw [decide_eq_true_eq]
  revert hx
  unfold predictF
  cases !rightF s || s.kind == 1 with
  | true => simp
  | false =>
    simp only [cond_false]
    cases h : genP (preStep s) n 5000 (preFrom s) (preTo s) (preTo s) [] with
    | none => simp
    | some r => exact genP_small _ _ _ _ _ _ _ _ h (by simp) x
theorem plan_others {s : Stm} (hr : rightF s = true) : planF zeroWin s s.start s.stop 256 =
    bif !sureF s then (zeroWin, [], 0) else bif s.kind == 2 then ((forwardF zeroWin s.start s.stop 256).1, (forwardF zeroWin s.start s.stop 256).2, 0) else (zeroWin, predictF s (firstF (s.stop - s.start)), 0) := by
  obtain ⟨a, -⟩ := (rightF_iff s).1 hr
  have h2 : rangeBad s.start s.stop 256 = false := by simp only [rangeBad, Bool.or_eq_false_iff, decide_eq_false_iff_not]; omega
  have h3 : checkW zeroWin = true := by decide
  simp only [planF, h2, h3, hr, predict_small, Bool.not_true, Bool.or_self, cond_false]
set_option maxRecDepth 20000 in
set_option maxHeartbeats 1000000 in
theorem okD4 (L : List Int) (hL : (L.length : Int) < 2 ^ 62) : FnC Tryd.prog 4 [] [.lst 1 false (rowsI L)] (.bool true) [] := by
  refine fn_okC (ob0 := []) (rc := rc4) (rvs := rv4) Tryd.func4 rfl rcq4 rvq4 (show 1 ≤ _ by decide) ?_
  obtain ⟨b1, b2⟩ := streamsF_in L 0 (by omega)
  have b3 := streamsF_check L 0
  repeat ((conv => whnf); first | refine Cd.seq ?_ | refine Cd.cut ?_ | refine Cd.reg ?_ | refine Cd.block ?_ | refine Cd.cond ?_ | refine Cd.dreg ?_ | refine Cd.skip ?_ | refine Cd.ret ?_ | refine Cd.exit ?_ | refine Cd.loop ?_ | refine ⟨rfl, ?_⟩ | refine ⟨Nat.le_of_ble_eq_true rfl, ?_⟩ | refine ⟨.inl rfl, ?_⟩ | refine ⟨fun h => Bool.noConfusion h, ?_⟩)
  conv => whnf
  refine .inr ⟨fun _ => ⟨[0], _, _, _, ok6 L 0 hL (by omega), ⟨rfl, rfl, trivial⟩, rfl, rfl, rfl, rfl, ?_⟩, (by intro h; cases h)⟩
  revert b1 b2 b3
  generalize (streamsF L 0).1 = l
  generalize (streamsF L 0).2 = J
  intro b1 b2 b3
  repeat ((conv => whnf); first | refine Cd.seq ?_ | refine Cd.cut ?_ | refine Cd.reg ?_ | refine Cd.block ?_ | refine Cd.cond ?_ | refine Cd.dreg ?_ | refine Cd.skip ?_ | refine Cd.ret ?_ | refine Cd.exit ?_ | refine Cd.loop ?_ | refine ⟨rfl, ?_⟩ | refine ⟨Nat.le_of_ble_eq_true rfl, ?_⟩ | refine ⟨.inl rfl, ?_⟩ | refine ⟨fun h => Bool.noConfusion h, ?_⟩)
  conv => whnf
  refine ⟨Nat, fun i => i ≤ l.length, fun i => ⟨[(2, ⟨[], true, .bool false⟩), (4, ⟨[], true, .lst 6 false (rowsS l)⟩), (5, ⟨[], true, .int .i64 (i : Int)⟩)], [], 0⟩, fun i => l.length - i, ⟨0, by simp, ?_⟩, fun i hI => ?_⟩
  · refine viewI [] rfl rfl ?_ rfl ?_ rfl ?_
    repeat' (first | exact trivial | rfl | exact .inl rfl | exact .inr rfl | exact id | exact (fun h => Bool.noConfusion h) | refine And.intro ?_ ?_)
  have hI : i ≤ l.length := hI
  have hw1 : IntKind.i64.wrap ((i : Int) + 1) = ((i + 1 : Nat) : Int) := by rw [wrapI (by omega) (by omega)]; omega
  repeat ((conv => whnf); first | refine Cd.seq ?_ | refine Cd.cut ?_ | refine Cd.reg ?_ | refine Cd.block ?_ | refine Cd.cond ?_ | refine Cd.dreg ?_ | refine Cd.skip ?_ | refine Cd.ret ?_ | refine Cd.exit ?_ | refine Cd.loop ?_ | refine ⟨rfl, ?_⟩ | refine ⟨Nat.le_of_ble_eq_true rfl, ?_⟩ | refine ⟨.inl rfl, ?_⟩ | refine ⟨fun h => Bool.noConfusion h, ?_⟩)
  conv => whnf
  rw [rowsS_len]
  refine ⟨fun h2 => ?_, fun h2 => ?_⟩ <;> try simp only [Bool.cond_true_left, Bool.cond_false_right, Bool.not_eq_true', Bool.not_eq_false', Bool.not_not] at h2
  · have h2 : i < l.length := by simp at h2; omega
    have hr := (checkF_iff l).1 b3
    have hr := hr.2.1 i h2
    obtain ⟨s, hs⟩ : ∃ s, s = l.getD i zeroS := ⟨_, rfl⟩
    have hsr : rightF s = true := by rw [hs]; simpa [List.getD_eq_getElem?_getD, h2] using hr
    have hp := plan_others hsr
    have c9 := okD9 zeroWin s s.start s.stop 256
    rw [hp] at c9
    have hwl : IntKind.i64.wrap (s.stop - s.start) = s.stop - s.start := by
      obtain ⟨a, -⟩ := (rightF_iff s).1 hsr
      exact wrapI (by omega) (by omega)
    repeat ((conv => whnf); first | refine Cd.seq ?_ | refine Cd.cut ?_ | refine Cd.reg ?_ | refine Cd.block ?_ | refine Cd.cond ?_ | refine Cd.dreg ?_ | refine Cd.skip ?_ | refine Cd.ret ?_ | refine Cd.exit ?_ | refine Cd.loop ?_ | refine ⟨rfl, ?_⟩ | refine ⟨Nat.le_of_ble_eq_true rfl, ?_⟩ | refine ⟨.inl rfl, ?_⟩ | refine ⟨fun h => Bool.noConfusion h, ?_⟩)
    conv => whnf
    refine ⟨fun _ => ⟨rfl, by omega, by rw [rowsS_len]; omega⟩, ?_⟩
    rw [rowsS_getI l _ (by omega) (by omega), Int.toNat_natCast, ← hs]
    repeat ((conv => whnf); first | refine Cd.seq ?_ | refine Cd.cut ?_ | refine Cd.reg ?_ | refine Cd.block ?_ | refine Cd.cond ?_ | refine Cd.dreg ?_ | refine Cd.skip ?_ | refine Cd.ret ?_ | refine Cd.exit ?_ | refine Cd.loop ?_ | refine ⟨rfl, ?_⟩ | refine ⟨Nat.le_of_ble_eq_true rfl, ?_⟩ | refine ⟨.inl rfl, ?_⟩ | refine ⟨fun h => Bool.noConfusion h, ?_⟩)
    conv => whnf
    refine ⟨fun _ => ⟨rfl, by omega, by rw [rowsS_len]; omega⟩, ?_⟩
    rw [rowsS_getI l _ (by omega) (by omega), Int.toNat_natCast, ← hs]
    repeat ((conv => whnf); first | refine Cd.seq ?_ | refine Cd.cut ?_ | refine Cd.reg ?_ | refine Cd.block ?_ | refine Cd.cond ?_ | refine Cd.dreg ?_ | refine Cd.skip ?_ | refine Cd.ret ?_ | refine Cd.exit ?_ | refine Cd.loop ?_ | refine ⟨rfl, ?_⟩ | refine ⟨Nat.le_of_ble_eq_true rfl, ?_⟩ | refine ⟨.inl rfl, ?_⟩ | refine ⟨fun h => Bool.noConfusion h, ?_⟩)
    conv => whnf
    refine ⟨fun _ => ⟨rfl, by omega, by rw [rowsS_len]; omega⟩, ?_⟩
    rw [rowsS_getI l _ (by omega) (by omega), Int.toNat_natCast, ← hs]
    cases hsure : sureF s with
    | false =>
      simp only [hsure, Bool.not_false, cond_true] at c9
      repeat ((conv => whnf); first | refine Cd.seq ?_ | refine Cd.cut ?_ | refine Cd.reg ?_ | refine Cd.block ?_ | refine Cd.cond ?_ | refine Cd.dreg ?_ | refine Cd.skip ?_ | refine Cd.ret ?_ | refine Cd.exit ?_ | refine Cd.loop ?_ | refine ⟨rfl, ?_⟩ | refine ⟨Nat.le_of_ble_eq_true rfl, ?_⟩ | refine ⟨.inl rfl, ?_⟩ | refine ⟨fun h => Bool.noConfusion h, ?_⟩ | refine ⟨?_, fun h => Bool.noConfusion h⟩ | refine fun (_ : false = false) => ?_ | refine fun (_ : true = true) => ?_ | refine .inl ⟨_, fun _ => ⟨purA rfl, (by first | exact c9)⟩, .inl rfl, ?_⟩)
      conv => whnf
      refine ⟨fun _ => ⟨rfl, by omega, by rw [rowsS_len]; omega⟩, ?_⟩
      rw [rowsS_getI l _ (by omega) (by omega), Int.toNat_natCast, ← hs]
      repeat ((conv => whnf); first | refine Cd.seq ?_ | refine Cd.cut ?_ | refine Cd.reg ?_ | refine Cd.block ?_ | refine Cd.cond ?_ | refine Cd.dreg ?_ | refine Cd.skip ?_ | refine Cd.ret ?_ | refine Cd.exit ?_ | refine Cd.loop ?_ | refine ⟨rfl, ?_⟩ | refine ⟨Nat.le_of_ble_eq_true rfl, ?_⟩ | refine ⟨.inl rfl, ?_⟩ | refine ⟨fun h => Bool.noConfusion h, ?_⟩ | refine .inl ⟨_, fun _ => ⟨purA rfl, (by first | exact ok21 s)⟩, .inl rfl, ?_⟩)
      conv => whnf
      rw [hsure]
      repeat ((conv => whnf); first | refine Cd.seq ?_ | refine Cd.cut ?_ | refine Cd.reg ?_ | refine Cd.block ?_ | refine Cd.cond ?_ | refine Cd.dreg ?_ | refine Cd.skip ?_ | refine Cd.ret ?_ | refine Cd.exit ?_ | refine Cd.loop ?_ | refine ⟨rfl, ?_⟩ | refine ⟨Nat.le_of_ble_eq_true rfl, ?_⟩ | refine ⟨.inl rfl, ?_⟩ | refine ⟨fun h => Bool.noConfusion h, ?_⟩ | refine ⟨?_, fun h => Bool.noConfusion h⟩ | refine fun (_ : false = false) => ?_ | refine fun (_ : true = true) => ?_)
      conv => whnf
      rw [hw1]
      refine ⟨i + 1, by show i + 1 ≤ _; omega, ?_, by show l.length - (i + 1) < l.length - i; omega⟩
      refine viewI [] rfl rfl ?_ rfl ?_ rfl ?_
      repeat' (first | exact trivial | rfl | exact .inl rfl | exact .inr rfl | exact id | exact (fun h => Bool.noConfusion h) | refine And.intro ?_ ?_)
    | true =>
      simp only [hsure, Bool.not_true, cond_false] at c9
      have c9' : ∃ v ls, FnC Tryd.prog 9 [] [.agg zeroWin.c, .agg s.c, .int .i64 s.start, .int .i64 s.stop, .int .i64 256] (.tup [.agg (Win.c v), .lst 1 false (rowsI ls), .int .i64 0]) [] ∧ (s.kind ≠ 2 → ls = predictF s (firstF (s.stop - s.start))) := by
        cases hk : s.kind == 2 with
        | true =>
          rw [hk] at c9
          exact ⟨_, _, c9, fun h => absurd (by simpa using hk) h⟩
        | false =>
          rw [hk] at c9
          exact ⟨_, _, c9, fun _ => rfl⟩
      clear c9 hp
      obtain ⟨v, ls, c9, hls⟩ := c9'
      repeat ((conv => whnf); first | refine Cd.seq ?_ | refine Cd.cut ?_ | refine Cd.reg ?_ | refine Cd.block ?_ | refine Cd.cond ?_ | refine Cd.dreg ?_ | refine Cd.skip ?_ | refine Cd.ret ?_ | refine Cd.exit ?_ | refine Cd.loop ?_ | refine ⟨rfl, ?_⟩ | refine ⟨Nat.le_of_ble_eq_true rfl, ?_⟩ | refine ⟨.inl rfl, ?_⟩ | refine ⟨fun h => Bool.noConfusion h, ?_⟩ | refine ⟨?_, fun h => Bool.noConfusion h⟩ | refine fun (_ : false = false) => ?_ | refine fun (_ : true = true) => ?_ | refine .inl ⟨_, fun _ => ⟨purA rfl, (by first | exact c9)⟩, .inl rfl, ?_⟩)
      conv => whnf
      refine ⟨fun _ => ⟨rfl, by omega, by rw [rowsS_len]; omega⟩, ?_⟩
      rw [rowsS_getI l _ (by omega) (by omega), Int.toNat_natCast, ← hs]
      repeat ((conv => whnf); first | refine Cd.seq ?_ | refine Cd.cut ?_ | refine Cd.reg ?_ | refine Cd.block ?_ | refine Cd.cond ?_ | refine Cd.dreg ?_ | refine Cd.skip ?_ | refine Cd.ret ?_ | refine Cd.exit ?_ | refine Cd.loop ?_ | refine ⟨rfl, ?_⟩ | refine ⟨Nat.le_of_ble_eq_true rfl, ?_⟩ | refine ⟨.inl rfl, ?_⟩ | refine ⟨fun h => Bool.noConfusion h, ?_⟩ | refine .inl ⟨_, fun _ => ⟨purA rfl, (by first | exact ok21 s)⟩, .inl rfl, ?_⟩)
      conv => whnf
      rw [hsure]
      repeat ((conv => whnf); first | refine Cd.seq ?_ | refine Cd.cut ?_ | refine Cd.reg ?_ | refine Cd.block ?_ | refine Cd.cond ?_ | refine Cd.dreg ?_ | refine Cd.skip ?_ | refine Cd.ret ?_ | refine Cd.exit ?_ | refine Cd.loop ?_ | refine ⟨rfl, ?_⟩ | refine ⟨Nat.le_of_ble_eq_true rfl, ?_⟩ | refine ⟨.inl rfl, ?_⟩ | refine ⟨fun h => Bool.noConfusion h, ?_⟩ | refine ⟨?_, fun h => Bool.noConfusion h⟩ | refine fun (_ : false = false) => ?_ | refine fun (_ : true = true) => ?_)
      conv => whnf
      refine ⟨fun _ => ⟨rfl, by omega, by rw [rowsS_len]; omega⟩, ?_⟩
      rw [rowsS_getI l _ (by omega) (by omega), Int.toNat_natCast, ← hs]
      repeat ((conv => whnf); first | refine Cd.seq ?_ | refine Cd.cut ?_ | refine Cd.reg ?_ | refine Cd.block ?_ | refine Cd.cond ?_ | refine Cd.dreg ?_ | refine Cd.skip ?_ | refine Cd.ret ?_ | refine Cd.exit ?_ | refine Cd.loop ?_ | refine ⟨rfl, ?_⟩ | refine ⟨Nat.le_of_ble_eq_true rfl, ?_⟩ | refine ⟨.inl rfl, ?_⟩ | refine ⟨fun h => Bool.noConfusion h, ?_⟩)
      conv => whnf
      refine ⟨fun h5 => ?_, fun h5 => ?_⟩ <;> try simp only [Bool.cond_true_left, Bool.cond_false_right, Bool.not_eq_true', Bool.not_eq_false', Bool.not_not] at h5
      · have h5 : s.kind ≠ 2 := by simpa using h5
        obtain rfl := hls h5
        repeat ((conv => whnf); first | refine Cd.seq ?_ | refine Cd.cut ?_ | refine Cd.reg ?_ | refine Cd.block ?_ | refine Cd.cond ?_ | refine Cd.dreg ?_ | refine Cd.skip ?_ | refine Cd.ret ?_ | refine Cd.exit ?_ | refine Cd.loop ?_ | refine ⟨rfl, ?_⟩ | refine ⟨Nat.le_of_ble_eq_true rfl, ?_⟩ | refine ⟨.inl rfl, ?_⟩ | refine ⟨fun h => Bool.noConfusion h, ?_⟩)
        conv => whnf
        refine ⟨fun _ => ⟨rfl, by omega, by rw [rowsS_len]; omega⟩, ?_⟩
        rw [rowsS_getI l _ (by omega) (by omega), Int.toNat_natCast, ← hs]
        repeat ((conv => whnf); first | refine Cd.seq ?_ | refine Cd.cut ?_ | refine Cd.reg ?_ | refine Cd.block ?_ | refine Cd.cond ?_ | refine Cd.dreg ?_ | refine Cd.skip ?_ | refine Cd.ret ?_ | refine Cd.exit ?_ | refine Cd.loop ?_ | refine ⟨rfl, ?_⟩ | refine ⟨Nat.le_of_ble_eq_true rfl, ?_⟩ | refine ⟨.inl rfl, ?_⟩ | refine ⟨fun h => Bool.noConfusion h, ?_⟩)
        conv => whnf
        refine ⟨fun _ => ⟨rfl, by omega, by rw [rowsS_len]; omega⟩, ?_⟩
        rw [rowsS_getI l _ (by omega) (by omega), Int.toNat_natCast, ← hs]
        repeat ((conv => whnf); first | refine Cd.seq ?_ | refine Cd.cut ?_ | refine Cd.reg ?_ | refine Cd.block ?_ | refine Cd.cond ?_ | refine Cd.dreg ?_ | refine Cd.skip ?_ | refine Cd.ret ?_ | refine Cd.exit ?_ | refine Cd.loop ?_ | refine ⟨rfl, ?_⟩ | refine ⟨Nat.le_of_ble_eq_true rfl, ?_⟩ | refine ⟨.inl rfl, ?_⟩ | refine ⟨fun h => Bool.noConfusion h, ?_⟩)
        conv => whnf
        refine ⟨fun _ => ⟨rfl, by omega, by rw [rowsS_len]; omega⟩, ?_⟩
        rw [rowsS_getI l _ (by omega) (by omega), Int.toNat_natCast, ← hs]
        repeat ((conv => whnf); first | refine Cd.seq ?_ | refine Cd.cut ?_ | refine Cd.reg ?_ | refine Cd.block ?_ | refine Cd.cond ?_ | refine Cd.dreg ?_ | refine Cd.skip ?_ | refine Cd.ret ?_ | refine Cd.exit ?_ | refine Cd.loop ?_ | refine ⟨rfl, ?_⟩ | refine ⟨Nat.le_of_ble_eq_true rfl, ?_⟩ | refine ⟨.inl rfl, ?_⟩ | refine ⟨fun h => Bool.noConfusion h, ?_⟩)
        conv => whnf
        rw [hwl]
        have hl8 := predictF_le s (firstF (s.stop - s.start)) (by have := firstF_in (s.stop - s.start); omega)
        have hf8 := firstF_in (s.stop - s.start)
        have c13 := ok13 (predictF s (firstF (s.stop - s.start))) (predictF s (firstF (s.stop - s.start))) false false (by omega)
        rw [decide_eq_true rfl] at c13
        repeat ((conv => whnf); first | refine Cd.seq ?_ | refine Cd.cut ?_ | refine Cd.reg ?_ | refine Cd.block ?_ | refine Cd.cond ?_ | refine Cd.dreg ?_ | refine Cd.skip ?_ | refine Cd.ret ?_ | refine Cd.exit ?_ | refine Cd.loop ?_ | refine ⟨rfl, ?_⟩ | refine ⟨Nat.le_of_ble_eq_true rfl, ?_⟩ | refine ⟨.inl rfl, ?_⟩ | refine ⟨fun h => Bool.noConfusion h, ?_⟩ | refine .inl ⟨_, fun _ => ⟨purA rfl, (by first | exact okD16 (s.stop - s.start) | exact ok22 s (firstF (s.stop - s.start)) | exact c13)⟩, .inl rfl, ?_⟩)
        conv => whnf
        repeat ((conv => whnf); first | refine Cd.seq ?_ | refine Cd.cut ?_ | refine Cd.reg ?_ | refine Cd.block ?_ | refine Cd.cond ?_ | refine Cd.dreg ?_ | refine Cd.skip ?_ | refine Cd.ret ?_ | refine Cd.exit ?_ | refine Cd.loop ?_ | refine ⟨rfl, ?_⟩ | refine ⟨Nat.le_of_ble_eq_true rfl, ?_⟩ | refine ⟨.inl rfl, ?_⟩ | refine ⟨fun h => Bool.noConfusion h, ?_⟩ | refine ⟨?_, fun h => Bool.noConfusion h⟩ | refine fun (_ : false = false) => ?_ | refine fun (_ : true = true) => ?_)
        conv => whnf
        rw [hw1]
        refine ⟨i + 1, by show i + 1 ≤ _; omega, ?_, by show l.length - (i + 1) < l.length - i; omega⟩
        refine viewI [] rfl rfl ?_ rfl ?_ rfl ?_
        repeat' (first | exact trivial | rfl | exact .inl rfl | exact .inr rfl | exact id | exact (fun h => Bool.noConfusion h) | refine And.intro ?_ ?_)
      repeat ((conv => whnf); first | refine Cd.seq ?_ | refine Cd.cut ?_ | refine Cd.reg ?_ | refine Cd.block ?_ | refine Cd.cond ?_ | refine Cd.dreg ?_ | refine Cd.skip ?_ | refine Cd.ret ?_ | refine Cd.exit ?_ | refine Cd.loop ?_ | refine ⟨rfl, ?_⟩ | refine ⟨Nat.le_of_ble_eq_true rfl, ?_⟩ | refine ⟨.inl rfl, ?_⟩ | refine ⟨fun h => Bool.noConfusion h, ?_⟩)
      conv => whnf
      rw [hw1]
      refine ⟨i + 1, by show i + 1 ≤ _; omega, ?_, by show l.length - (i + 1) < l.length - i; omega⟩
      refine viewI [] rfl rfl ?_ rfl ?_ rfl ?_
      repeat' (first | exact trivial | rfl | exact .inl rfl | exact .inr rfl | exact id | exact (fun h => Bool.noConfusion h) | refine And.intro ?_ ?_)
  repeat ((conv => whnf); first | refine Cd.seq ?_ | refine Cd.cut ?_ | refine Cd.reg ?_ | refine Cd.block ?_ | refine Cd.cond ?_ | refine Cd.dreg ?_ | refine Cd.skip ?_ | refine Cd.ret ?_ | refine Cd.exit ?_ | refine Cd.loop ?_ | refine ⟨rfl, ?_⟩ | refine ⟨Nat.le_of_ble_eq_true rfl, ?_⟩ | refine ⟨.inl rfl, ?_⟩ | refine ⟨fun h => Bool.noConfusion h, ?_⟩ | refine .inl ⟨_, fun _ => ⟨purA rfl, (by first | exact okD20)⟩, .inl rfl, ?_⟩)
  conv => whnf
  refine ⟨[], ?_, rfl, trivial, rfl, ?_⟩
  · exact trivial
  try subst hk
  repeat' (first | exact trivial | rfl | exact .inl rfl | exact .inr rfl | exact id | exact (fun h => Bool.noConfusion h) | refine And.intro ?_ ?_)
end Go.Proofs.YteelckbeekgfiaaDoor
