/- Lru: LruSecond as a contract. -/
import Derived.Test.YtcifhjkodbaghaaL8
set_option linter.unusedSimpArgs false
set_option linter.unusedVariables false
namespace Go.Proofs.Ytcifhjkodbaghaa
open Go Go.Sk Go.RowKit

/- pagecache/pagecachelaw08.LruSecond -/
def rc12 : RC :=
  (.seq
  (.reg [⟨(some 4), none, (.mv (.c (.bool false)))⟩] [])
  (.seq
  (.reg [⟨(some 15), none, (.mv (.t 0))⟩,
    ⟨(some 16), none, (.build [(.lst 0 true []), (.int .i64 0)] [(0, (1, (.t 15)))])⟩,
    ⟨(some 17), none, (.box (.t 16))⟩,
    ⟨(some 18), none, (.call 53 [(.t 17)])⟩,
    ⟨(some 5), none, (.alloc [(.lst 0 true []), (.lst 0 true []), (.lst 0 true [])])⟩,
    ⟨none, none, (.st 3 (.t 5) (.t 18))⟩] [15, 16, 17, 18])
  (.cut
  (.reg [⟨(some 19), none, (.mv (.t 1))⟩,
    ⟨(some 20), none, (.build [(.lst 0 true []), (.int .i64 0)] [(0, (1, (.t 19)))])⟩,
    ⟨(some 21), none, (.box (.t 20))⟩,
    ⟨(some 6), none, (.mv (.t 21))⟩] [19, 20, 21])
  (.seq
  (.dreg 4096 4240 [⟨(some 23), none, (.ld true 3 (.t 5))⟩,
    ⟨(some 24), none, (.mv (.t 6))⟩,
    ⟨(some 25), none, (.call 16 [(.t 24), (.c (.int .i64 6))])⟩,
    ⟨(some 26), none, (.bin .add (.c (.int .i64 1)) (.t 25))⟩,
    ⟨(some 27), none, (.call 50 [(.t 23), (.t 26), (.c (.lst 0 true []))])⟩,
    ⟨(some 22), none, (.mv (.t 27))⟩,
    ⟨(some 28), none, (.extr 0 (.t 22))⟩,
    ⟨(some 29), none, (.extr 1 (.t 22))⟩,
    ⟨none, none, (.st 3 (.t 5) (.t 28))⟩] [23, 24, 25, 26, 27, 22, 28, 29] [[], [], [1], [2, 1], [0, 3, 2, 1], [4, 1, 2, 3, 0], [5, 0, 3, 2, 1, 4], [5, 0, 3, 2, 1, 4], [6, 4, 1, 2, 3, 0, 5]] [4096, 4112, 4128, 4144, 4160, 4176, 4192, 4208, 4224])
  (.seq
  (.seq
  (.reg [⟨(some 30), none, (.faddr 1 (.t 5))⟩,
    ⟨(some 31), none, (.ld false 1 (.t 30))⟩,
    ⟨(some 32), none, (.len (.t 31))⟩,
    ⟨(some 33), none, (.bin .eql (.t 32) (.c (.int .i64 0)))⟩] [30, 31, 32])
  (.cond (.t 33)
   (.seq
   (.reg [⟨(some 34), none, (.call 47 [])⟩,
     ⟨(some 4), none, (.mv (.t 34))⟩] [34])
   .ret)
   .skip))
  (.seq
  (.dreg 7168 7328 [⟨(some 35), none, (.faddr 1 (.t 5))⟩,
    ⟨(some 36), none, (.ld false 1 (.t 35))⟩,
    ⟨(some 37), none, (.mv (.t 6))⟩,
    ⟨(some 38), none, (.faddr 1 (.t 5))⟩,
    ⟨(some 39), none, (.ld false 1 (.t 38))⟩,
    ⟨(some 40), none, (.len (.t 39))⟩,
    ⟨(some 41), none, (.call 16 [(.t 37), (.t 40)])⟩,
    ⟨(some 42), none, (.iaddr 1 (.t 36) (.t 41))⟩,
    ⟨(some 43), none, (.ld false 1 (.t 42))⟩,
    ⟨(some 7), none, (.mv (.t 43))⟩] [35, 36, 37, 38, 39, 40, 41, 42, 43] [[], [0], [], [], [3], [4, 3], [2, 5, 3, 4], [1, 0, 6, 4, 3, 5, 2], [7, 2, 5, 3, 4, 6, 0, 1], [8, 1, 0, 6, 4, 3, 5, 2, 7]] [7168, 7184, 7200, 7216, 7232, 7248, 7264, 7280, 7296, 7312])
  (.seq
  (.reg [⟨(some 44), none, (.mv (.t 6))⟩,
    ⟨(some 45), none, (.call 16 [(.t 44), (.c (.int .i64 10))])⟩,
    ⟨(some 46), none, (.bin .add (.c (.int .i64 1)) (.t 45))⟩,
    ⟨(some 8), none, (.mv (.t 46))⟩] [44, 45, 46])
  (.seq
  (.reg [⟨(some 48), none, (.ld true 3 (.t 5))⟩,
    ⟨(some 49), none, (.mv (.t 7))⟩,
    ⟨(some 50), none, (.call 40 [(.t 48), (.t 49)])⟩,
    ⟨(some 47), none, (.mv (.t 50))⟩,
    ⟨(some 51), none, (.extr 0 (.t 47))⟩,
    ⟨(some 52), none, (.extr 1 (.t 47))⟩,
    ⟨(some 9), none, (.alloc [(.lst 0 true []), (.lst 0 true []), (.lst 0 true [])])⟩,
    ⟨none, none, (.st 3 (.t 9) (.t 51))⟩,
    ⟨(some 10), none, (.mv (.t 52))⟩] [48, 49, 50, 47, 51, 52])
  (.seq
  (.reg [⟨(some 54), none, (.ld true 3 (.t 9))⟩,
    ⟨(some 55), none, (.mv (.t 8))⟩,
    ⟨(some 56), none, (.bslice 1 [(.int .i64 0)] 1 [(0, (.t 55))])⟩,
    ⟨(some 57), none, (.call 50 [(.t 54), (.c (.int .i64 64)), (.t 56)])⟩,
    ⟨(some 53), none, (.mv (.t 57))⟩,
    ⟨(some 58), none, (.extr 0 (.t 53))⟩,
    ⟨(some 59), none, (.extr 1 (.t 53))⟩,
    ⟨(some 11), none, (.alloc [(.lst 0 true []), (.lst 0 true []), (.lst 0 true [])])⟩,
    ⟨none, none, (.st 3 (.t 11) (.t 58))⟩,
    ⟨(some 12), none, (.mv (.t 59))⟩] [54, 55, 56, 57, 53, 58, 59, 11])
  (.seq
  (.reg [⟨(some 61), none, (.ld true 3 (.t 9))⟩,
    ⟨(some 62), none, (.mv (.t 7))⟩,
    ⟨(some 63), none, (.call 40 [(.t 61), (.t 62)])⟩,
    ⟨(some 60), none, (.mv (.t 63))⟩,
    ⟨(some 64), none, (.extr 0 (.t 60))⟩,
    ⟨(some 65), none, (.extr 1 (.t 60))⟩,
    ⟨(some 13), none, (.alloc [(.lst 0 true []), (.lst 0 true []), (.lst 0 true [])])⟩,
    ⟨none, none, (.st 3 (.t 13) (.t 64))⟩,
    ⟨(some 14), none, (.mv (.t 65))⟩] [61, 62, 63, 60, 64, 65])
  (.seq
  (.seq
  (.reg [⟨(some 66), none, (.mv (.t 10))⟩,
    ⟨(some 67), none, (.bin .neq (.t 66) (.c (.int .i64 0)))⟩,
    ⟨(some 68), none, (.mv (.t 67))⟩,
    ⟨(some 69), (some (68, false)), (.mv (.t 14))⟩,
    ⟨(some 70), (some (68, false)), (.bin .neq (.t 69) (.c (.int .i64 0)))⟩,
    ⟨(some 71), none, (.pick (.t 68) (.c (.bool true)) (.t 70))⟩,
    ⟨(some 72), none, (.mv (.t 71))⟩,
    ⟨(some 73), (some (72, false)), (.mv (.t 12))⟩,
    ⟨(some 74), (some (72, false)), (.mv (.t 7))⟩,
    ⟨(some 75), (some (72, false)), (.call 54 [(.t 73), (.t 74)])⟩,
    ⟨(some 76), (some (72, false)), (.bin .geq (.t 75) (.c (.int .i64 0)))⟩,
    ⟨(some 77), none, (.pick (.t 72) (.c (.bool true)) (.t 76))⟩,
    ⟨(some 78), none, (.mv (.t 77))⟩,
    ⟨(some 79), (some (78, false)), (.mv (.t 12))⟩,
    ⟨(some 80), (some (78, false)), (.mv (.t 8))⟩,
    ⟨(some 81), (some (78, false)), (.call 54 [(.t 79), (.t 80)])⟩,
    ⟨(some 82), (some (78, false)), (.bin .geq (.t 81) (.c (.int .i64 0)))⟩,
    ⟨(some 83), none, (.pick (.t 78) (.c (.bool true)) (.t 82))⟩] [66, 67, 68, 69, 70, 71, 72, 73, 74, 75, 76, 77, 78, 79, 80, 81, 82])
  (.cond (.t 83)
   (.seq
   (.reg [⟨(some 4), none, (.mv (.c (.bool false)))⟩] [])
   .ret)
   .skip))
  (.seq
  (.reg [⟨(some 84), none, (.faddr 0 (.t 13))⟩,
    ⟨(some 85), none, (.ld false 1 (.t 84))⟩,
    ⟨(some 86), none, (.mv (.t 7))⟩,
    ⟨(some 87), none, (.call 54 [(.t 85), (.t 86)])⟩,
    ⟨(some 88), none, (.bin .geq (.t 87) (.c (.int .i64 0)))⟩,
    ⟨(some 89), none, (.mv (.t 88))⟩,
    ⟨(some 90), (some (89, true)), (.call 47 [])⟩,
    ⟨(some 91), none, (.pick (.t 89) (.t 90) (.c (.bool false)))⟩,
    ⟨(some 4), none, (.mv (.t 91))⟩] [84, 85, 86, 87, 88, 89, 90, 91])
  .ret))))))))))))
theorem rcq12 : resC Go.Proofs.Try.prog Go.Proofs.Try.f12.ntmps ((Go.Proofs.Try.f12.body).getD .skip) = some (strip rc12) := by kernel_rfl
def rv12 : List RV := [(.tmp 4)]
theorem rvq12 : Go.Proofs.Try.f12.results.toList.mapM (resRV Go.Proofs.Try.prog) = some rv12 := by kernel_rfl

theorem scanG_mem (R0 held : List Int) (n : Int) : ∀ (r : List Int) (s : ScS) (y : Int), y ∈ (scanG R0 held n r s).v → y ∈ s.v ∨ (y ∈ r ∧ y ∉ held ∧ y ∉ R0)
  | [], s, y, h => .inl h
  | f :: r, s, y, h => by
    rw [scanG] at h
    cases hd : decide ((s.v.length : Int) < n) with
    | false => rw [hd] at h; exact .inl h
    | true =>
      rw [hd] at h
      rcases scanG_mem R0 held n r _ y h with h | ⟨h1, h2⟩
      · unfold scanS at h
        by_cases e1 : f ∈ held
        · rw [show decide (f ∈ held) = true by simpa using e1] at h; exact .inl h
        · rw [show decide (f ∈ held) = false by simpa using e1] at h
          by_cases e2 : f ∈ R0
          · rw [show decide (f ∈ R0) = true by simpa using e2] at h; exact .inl h
          · rw [show decide (f ∈ R0) = false by simpa using e2] at h
            have h : y ∈ s.v ++ [f] := h
            rcases List.mem_append.1 h with h | h
            · exact .inl h
            · obtain rfl := List.mem_singleton.1 h
              exact .inr ⟨by simp, e1, e2⟩
      · exact .inr ⟨by simp [h1], h2⟩
theorem scanF_mem {l : Ls} (h : ChkP l) {n : Int} {held : List Int} {y : Int} (hy : y ∈ (scanF l n held).2) : y ∈ l.I ∧ y ∉ held ∧ y ∉ l.R := by
  rw [scanF, (chk_iff' l).2 h] at hy
  rcases scanG_mem l.R held n l.I.reverse ⟨l.I, l.R, []⟩ y hy with h | ⟨h1, h2⟩
  · cases h
  · exact ⟨List.mem_reverse.1 h1, h2⟩
theorem touF_at {l : Ls} (h : ChkP l) {f : Int} (hf : f ∈ l.A ++ l.I) : touF l f = (bif !decide (f ∈ l.R) then ⟨l.A, l.I, insI l.R (atI l.R f) f⟩ else bif decide (f ∈ l.I) then ⟨f :: wo l.A f, wo l.I f, wo l.R f⟩ else l, 0) := by
  have hk := (known_iff f).2 (h.known f hf)
  have hh : hasL l f = true := by
    simp only [hasL, Bool.or_eq_true, decide_eq_true_eq]
    exact List.mem_append.1 hf
  rw [touF, (chk_iff' l).2 h, hk, hh]
  cases decide (f ∈ l.R) <;> cases decide (f ∈ l.I) <;> rfl
/-- A frame that is touched twice while it is inactive. -/
theorem tou_twice {l : Ls} (h : ChkP l) {f : Int} (hf : f ∈ l.I) : (touF l f).2 = 0 ∧ (touF (touF l f).1 f).2 = 0 ∧ f ∈ (touF (touF l f).1 f).1.A ∧ ∀ n held, f ∉ (scanF (touF l f).1 n held).2 := by
  obtain ⟨hy, hp⟩ := h.tou f
  have hfa : f ∈ l.A ++ l.I := List.mem_append_right _ hf
  have hfy := hp.mem_iff.2 hfa
  have e1 := touF_at h hfa
  have e2 := touF_at hy hfy
  generalize hl' : (touF l f).1 = y at hy hp hfy e2 ⊢
  refine ⟨by rw [e1], by rw [e2], ?_, fun n held hm => ?_⟩
  · rw [e2]
    by_cases hr : f ∈ l.R
    · have ey : y = ⟨f :: wo l.A f, wo l.I f, wo l.R f⟩ := by rw [← hl', e1, show (!decide (f ∈ l.R)) = false by simpa using hr, show decide (f ∈ l.I) = true by simpa using hf]; rfl
      have hnr : f ∉ y.R := by rw [ey]; intro hm; exact (mem_wo.1 hm).2 rfl
      rw [show (!decide (f ∈ y.R)) = true by simpa using hnr]
      show f ∈ y.A
      rw [ey]; simp
    · have ey : y = ⟨l.A, l.I, insI l.R (atI l.R f) f⟩ := by rw [← hl', e1, show (!decide (f ∈ l.R)) = true by simpa using hr]; rfl
      have hyr : f ∈ y.R := by rw [ey]; exact mem_insI.2 (.inl rfl)
      have hyi : f ∈ y.I := by rw [ey]; exact hf
      rw [show (!decide (f ∈ y.R)) = false by simpa using hyr, show decide (f ∈ y.I) = true by simpa using hyi]
      show f ∈ f :: wo y.A f
      simp
  · obtain ⟨m1, -, m3⟩ := scanF_mem hy hm
    by_cases hr : f ∈ l.R
    · have ey : y = ⟨f :: wo l.A f, wo l.I f, wo l.R f⟩ := by rw [← hl', e1, show (!decide (f ∈ l.R)) = false by simpa using hr, show decide (f ∈ l.I) = true by simpa using hf]; rfl
      rw [ey] at m1
      exact (mem_wo.1 m1).2 rfl
    · have ey : y = ⟨l.A, l.I, insI l.R (atI l.R f) f⟩ := by rw [← hl', e1, show (!decide (f ∈ l.R)) = true by simpa using hr]; rfl
      rw [ey] at m3
      exact m3 (mem_insI.2 (.inl rfl))
set_option maxRecDepth 20000 in
set_option maxHeartbeats 1000000 in
theorem ok12 (L M : List Int) (hL : (L.length : Int) < 2 ^ 62) (hM : (M.length : Int) < 2 ^ 62) : FnC Try.prog 12 [] [.lst 1 false (rowsI L), .lst 1 false (rowsI M)] (.bool true) [] := by
  refine fn_okC (ob0 := []) (rc := rc12) (rvs := rv12) Try.func12 rfl rcq12 rvq12 (show 2 ≤ _ by decide) ?_
  obtain ⟨hP, -⟩ := lruF_ok L 0 (by omega)
  repeat ((conv => whnf); first | refine Cd.seq ?_ | refine Cd.cut ?_ | refine Cd.reg ?_ | refine Cd.block ?_ | refine Cd.cond ?_ | refine Cd.dreg ?_ | refine Cd.skip ?_ | refine Cd.ret ?_ | refine Cd.exit ?_ | refine Cd.loop ?_ | refine ⟨rfl, ?_⟩ | refine ⟨Nat.le_of_ble_eq_true rfl, ?_⟩ | refine ⟨.inl rfl, ?_⟩ | refine ⟨fun h => Bool.noConfusion h, ?_⟩)
  conv => whnf
  refine .inr ⟨fun _ => ⟨[0], _, _, _, ok53 L 0 hL (by omega), ⟨rfl, rfl, trivial⟩, rfl, rfl, rfl, rfl, ?_⟩, (by intro h; cases h)⟩
  generalize (lruF L 0).1 = x at hP ⊢
  generalize (lruF L 0).2 = J
  repeat ((conv => whnf); first | refine Cd.seq ?_ | refine Cd.cut ?_ | refine Cd.reg ?_ | refine Cd.block ?_ | refine Cd.cond ?_ | refine Cd.dreg ?_ | refine Cd.skip ?_ | refine Cd.ret ?_ | refine Cd.exit ?_ | refine Cd.loop ?_ | refine ⟨rfl, ?_⟩ | refine ⟨Nat.le_of_ble_eq_true rfl, ?_⟩ | refine ⟨.inl rfl, ?_⟩ | refine ⟨fun h => Bool.noConfusion h, ?_⟩)
  conv => whnf
  refine ⟨Unit, fun _ => True, fun _ => ⟨[(4, ⟨[], true, .bool false⟩), (5, ⟨[], true, .ptr 1 0 0⟩), (6, ⟨[], true, .ptr 0 0 0⟩)], [(0, tpO M 0), (1, .box x.c)], 2⟩, ?_, fun _ _ => ?_⟩
  · repeat ((conv => whnf); first | refine Cd.seq ?_ | refine Cd.cut ?_ | refine Cd.reg ?_ | refine Cd.block ?_ | refine Cd.cond ?_ | refine Cd.dreg ?_ | refine Cd.skip ?_ | refine Cd.ret ?_ | refine Cd.exit ?_ | refine Cd.loop ?_ | refine ⟨rfl, ?_⟩ | refine ⟨Nat.le_of_ble_eq_true rfl, ?_⟩ | refine ⟨.inl rfl, ?_⟩ | refine ⟨fun h => Bool.noConfusion h, ?_⟩)
    conv => whnf
    refine ⟨(), trivial, ?_⟩
    refine viewI [some 18, some 17] rfl rfl ?_ rfl ?_ rfl ?_
    repeat' (first | exact trivial | rfl | exact .inl rfl | exact .inr rfl | exact id | exact (fun h => Bool.noConfusion h) | refine And.intro ?_ ?_)
  have hJ0 : (0 : Nat) ≤ M.length := by omega
  have hJ1 := nxI_in M 0 hJ0
  have hJ2 := nxI_in M _ hJ1
  have hJ3 := nxI_in M _ hJ2
  have a1 := nxV_in M 0 6 (by decide) (by decide)
  have a2 := nxV_in M (nxI M (nxI M 0)) 10 (by decide) (by decide)
  repeat ((conv => whnf); first | refine Cd.seq ?_ | refine Cd.cut ?_ | refine Cd.reg ?_ | refine Cd.block ?_ | refine Cd.cond ?_ | refine Cd.dreg ?_ | refine Cd.skip ?_ | refine Cd.ret ?_ | refine Cd.exit ?_ | refine Cd.loop ?_ | refine ⟨rfl, ?_⟩ | refine ⟨Nat.le_of_ble_eq_true rfl, ?_⟩ | refine ⟨.inl rfl, ?_⟩ | refine ⟨fun h => Bool.noConfusion h, ?_⟩)
  conv => whnf
  refine .inr ⟨fun _ => ⟨[0], _, _, _, ok16n M 0 6 hM (by omega) (by decide) (by decide), ⟨rfl, rfl, trivial⟩, rfl, rfl, rfl, rfl, ?_⟩, (by intro h; cases h)⟩
  repeat ((conv => whnf); first | refine Cd.seq ?_ | refine Cd.cut ?_ | refine Cd.reg ?_ | refine Cd.block ?_ | refine Cd.cond ?_ | refine Cd.dreg ?_ | refine Cd.skip ?_ | refine Cd.ret ?_ | refine Cd.exit ?_ | refine Cd.loop ?_ | refine ⟨rfl, ?_⟩ | refine ⟨Nat.le_of_ble_eq_true rfl, ?_⟩ | refine ⟨.inl rfl, ?_⟩ | refine ⟨fun h => Bool.noConfusion h, ?_⟩)
  conv => whnf
  generalize IntKind.i64.wrap (1 + nxV M 0 6) = k
  have hs1 := hP.scan k []
  repeat ((conv => whnf); first | refine Cd.seq ?_ | refine Cd.cut ?_ | refine Cd.reg ?_ | refine Cd.block ?_ | refine Cd.cond ?_ | refine Cd.dreg ?_ | refine Cd.skip ?_ | refine Cd.ret ?_ | refine Cd.exit ?_ | refine Cd.loop ?_ | refine ⟨rfl, ?_⟩ | refine ⟨Nat.le_of_ble_eq_true rfl, ?_⟩ | refine ⟨.inl rfl, ?_⟩ | refine ⟨fun h => Bool.noConfusion h, ?_⟩ | refine .inl ⟨_, fun _ => ⟨purA rfl, (by first | exact ok50n x k hP.small)⟩, .inl rfl, ?_⟩)
  conv => whnf
  generalize (scanF x k []).1 = y at hs1 ⊢
  replace hs1 := hs1.1
  have hyl := hs1.len
  rw [List.length_append] at hyl
  repeat ((conv => whnf); first | refine Cd.seq ?_ | refine Cd.cut ?_ | refine Cd.reg ?_ | refine Cd.block ?_ | refine Cd.cond ?_ | refine Cd.dreg ?_ | refine Cd.skip ?_ | refine Cd.ret ?_ | refine Cd.exit ?_ | refine Cd.loop ?_ | refine ⟨rfl, ?_⟩ | refine ⟨Nat.le_of_ble_eq_true rfl, ?_⟩ | refine ⟨.inl rfl, ?_⟩ | refine ⟨fun h => Bool.noConfusion h, ?_⟩)
  conv => whnf
  rw [rowsI_len]
  refine ⟨fun h1 => ?_, fun h1 => ?_⟩ <;> try simp only [Bool.cond_true_left, Bool.cond_false_right, Bool.not_eq_true', Bool.not_eq_false', Bool.not_not] at h1
  · repeat ((conv => whnf); first | refine Cd.seq ?_ | refine Cd.cut ?_ | refine Cd.reg ?_ | refine Cd.block ?_ | refine Cd.cond ?_ | refine Cd.dreg ?_ | refine Cd.skip ?_ | refine Cd.ret ?_ | refine Cd.exit ?_ | refine Cd.loop ?_ | refine ⟨rfl, ?_⟩ | refine ⟨Nat.le_of_ble_eq_true rfl, ?_⟩ | refine ⟨.inl rfl, ?_⟩ | refine ⟨fun h => Bool.noConfusion h, ?_⟩ | refine .inl ⟨_, fun _ => ⟨purA rfl, (by first | exact ok47)⟩, .inl rfl, ?_⟩)
    conv => whnf
    refine ⟨[], ?_, rfl, trivial, rfl, ?_⟩
    · exact trivial
    try subst hk
    repeat' (first | exact trivial | rfl | exact .inl rfl | exact .inr rfl | exact id | exact (fun h => Bool.noConfusion h) | refine And.intro ?_ ?_)
  have h1 : 0 < y.I.length := by simp at h1; have := List.length_pos_iff.2 h1; omega
  repeat ((conv => whnf); first | refine Cd.seq ?_ | refine Cd.cut ?_ | refine Cd.reg ?_ | refine Cd.block ?_ | refine Cd.cond ?_ | refine Cd.dreg ?_ | refine Cd.skip ?_ | refine Cd.ret ?_ | refine Cd.exit ?_ | refine Cd.loop ?_ | refine ⟨rfl, ?_⟩ | refine ⟨Nat.le_of_ble_eq_true rfl, ?_⟩ | refine ⟨.inl rfl, ?_⟩ | refine ⟨fun h => Bool.noConfusion h, ?_⟩)
  conv => whnf
  rw [rowsI_len]
  refine .inr ⟨fun _ => ⟨[0], _, _, _, ok16n M (nxI M 0) y.I.length hM (by omega) (by omega) (by omega), ⟨rfl, rfl, trivial⟩, rfl, rfl, rfl, rfl, ?_⟩, (by intro h; cases h)⟩
  have hi := nxV_in M (nxI M 0) y.I.length (by omega) (by omega)
  generalize nxV M (nxI M 0) y.I.length = i0 at hi ⊢
  obtain ⟨i, rfl⟩ : ∃ i : Nat, i0 = i := ⟨i0.toNat, by omega⟩
  have hi : i < y.I.length := by omega
  repeat ((conv => whnf); first | refine Cd.seq ?_ | refine Cd.cut ?_ | refine Cd.reg ?_ | refine Cd.block ?_ | refine Cd.cond ?_ | refine Cd.dreg ?_ | refine Cd.skip ?_ | refine Cd.ret ?_ | refine Cd.exit ?_ | refine Cd.loop ?_ | refine ⟨rfl, ?_⟩ | refine ⟨Nat.le_of_ble_eq_true rfl, ?_⟩ | refine ⟨.inl rfl, ?_⟩ | refine ⟨fun h => Bool.noConfusion h, ?_⟩)
  conv => whnf
  refine ⟨fun _ => ⟨rfl, by omega, by rw [rowsI_len]; omega⟩, ?_⟩
  rw [rowsI_getK y.I i hi, ← getI y.I i hi]
  have hfm : y.I[i] ∈ y.I := List.getElem_mem hi
  generalize y.I[i] = f at hfm ⊢
  obtain ⟨t1, t2, t3, t4⟩ := tou_twice hs1 hfm
  have hz := hs1.tou f
  repeat ((conv => whnf); first | refine Cd.seq ?_ | refine Cd.cut ?_ | refine Cd.reg ?_ | refine Cd.block ?_ | refine Cd.cond ?_ | refine Cd.dreg ?_ | refine Cd.skip ?_ | refine Cd.ret ?_ | refine Cd.exit ?_ | refine Cd.loop ?_ | refine ⟨rfl, ?_⟩ | refine ⟨Nat.le_of_ble_eq_true rfl, ?_⟩ | refine ⟨.inl rfl, ?_⟩ | refine ⟨fun h => Bool.noConfusion h, ?_⟩)
  conv => whnf
  refine .inr ⟨fun _ => ⟨[0], _, _, _, ok16n M (nxI M (nxI M 0)) 10 hM (by omega) (by decide) (by decide), ⟨rfl, rfl, trivial⟩, rfl, rfl, rfl, rfl, ?_⟩, (by intro h; cases h)⟩
  repeat ((conv => whnf); first | refine Cd.seq ?_ | refine Cd.cut ?_ | refine Cd.reg ?_ | refine Cd.block ?_ | refine Cd.cond ?_ | refine Cd.dreg ?_ | refine Cd.skip ?_ | refine Cd.ret ?_ | refine Cd.exit ?_ | refine Cd.loop ?_ | refine ⟨rfl, ?_⟩ | refine ⟨Nat.le_of_ble_eq_true rfl, ?_⟩ | refine ⟨.inl rfl, ?_⟩ | refine ⟨fun h => Bool.noConfusion h, ?_⟩)
  conv => whnf
  rw [wrapI (n := 1 + nxV M (nxI M (nxI M 0)) 10) (by omega) (by omega)]
  generalize 1 + nxV M (nxI M (nxI M 0)) 10 = held
  repeat ((conv => whnf); first | refine Cd.seq ?_ | refine Cd.cut ?_ | refine Cd.reg ?_ | refine Cd.block ?_ | refine Cd.cond ?_ | refine Cd.dreg ?_ | refine Cd.skip ?_ | refine Cd.ret ?_ | refine Cd.exit ?_ | refine Cd.loop ?_ | refine ⟨rfl, ?_⟩ | refine ⟨Nat.le_of_ble_eq_true rfl, ?_⟩ | refine ⟨.inl rfl, ?_⟩ | refine ⟨fun h => Bool.noConfusion h, ?_⟩ | refine .inl ⟨_, fun _ => ⟨purA rfl, (by first | exact ok40 y f hs1.small)⟩, .inl rfl, ?_⟩)
  conv => whnf
  rw [t1]
  generalize (touF y f).1 = z at t2 t3 t4 hz ⊢
  replace hz := hz.1
  have ht4 := t4 64 [held]
  have hv2 : held ∉ (scanF z 64 [held]).2 := fun hm => (scanF_mem hz hm).2.1 (by simp)
  have hvl := scanF_vlen hz.small 64 [held]
  generalize hq1 : scanF z 64 [held] = r at ht4 hv2 hvl
  have k50 := ok50 z 64 [held] false hz.small (by simp)
  rw [hq1] at k50
  refine .frz ⟨fun _ => ⟨[7345], _, k50, ⟨⟨purB_OK rfl, rfl⟩, ⟨trivial, rfl⟩, ⟨Nat.le_refl 1, rfl⟩, trivial⟩, ?_⟩, (by intro h; cases h)⟩
  repeat ((conv => whnf); first | refine Cd.seq ?_ | refine Cd.cut ?_ | refine Cd.reg ?_ | refine Cd.block ?_ | refine Cd.cond ?_ | refine Cd.dreg ?_ | refine Cd.skip ?_ | refine Cd.ret ?_ | refine Cd.exit ?_ | refine Cd.loop ?_ | refine ⟨rfl, ?_⟩ | refine ⟨Nat.le_of_ble_eq_true rfl, ?_⟩ | refine ⟨.inl rfl, ?_⟩ | refine ⟨fun h => Bool.noConfusion h, ?_⟩ | refine .inl ⟨_, fun _ => ⟨purA rfl, (by first | exact ok40 z f hz.small)⟩, .inl rfl, ?_⟩)
  conv => whnf
  rw [t2]
  generalize hq2 : (touF z f).1 = u at t3 ⊢
  have e1 : decide (0 ≤ idxF (fun y => y == f) r.2) = false := by rw [atM]; simpa using ht4
  have e2 : decide (0 ≤ idxF (fun y => y == held) r.2) = false := by rw [atM]; simpa using hv2
  have e3 : decide (0 ≤ idxF (fun y => y == f) u.A) = true := by rw [atM]; simpa using t3
  repeat ((conv => whnf); first | refine Cd.seq ?_ | refine Cd.cut ?_ | refine Cd.reg ?_ | refine Cd.block ?_ | refine Cd.cond ?_ | refine Cd.dreg ?_ | refine Cd.skip ?_ | refine Cd.ret ?_ | refine Cd.exit ?_ | refine Cd.loop ?_ | refine ⟨rfl, ?_⟩ | refine ⟨Nat.le_of_ble_eq_true rfl, ?_⟩ | refine ⟨.inl rfl, ?_⟩ | refine ⟨fun h => Bool.noConfusion h, ?_⟩ | refine ⟨?_, fun h => Bool.noConfusion h⟩ | refine fun (_ : false = false) => ?_ | refine fun (_ : true = true) => ?_ | refine .inl ⟨_, fun _ => ⟨purA rfl, (by first | exact ok54 r.2 false f (by omega) | exact ok54 r.2 false held (by omega))⟩, .inl rfl, ?_⟩)
  conv => whnf
  rw [e1, e2]
  have hul : u.A.length ≤ 10000 := by rw [← hq2]; exact (touF_small hz.small f).a
  repeat ((conv => whnf); first | refine Cd.seq ?_ | refine Cd.cut ?_ | refine Cd.reg ?_ | refine Cd.block ?_ | refine Cd.cond ?_ | refine Cd.dreg ?_ | refine Cd.skip ?_ | refine Cd.ret ?_ | refine Cd.exit ?_ | refine Cd.loop ?_ | refine ⟨rfl, ?_⟩ | refine ⟨Nat.le_of_ble_eq_true rfl, ?_⟩ | refine ⟨.inl rfl, ?_⟩ | refine ⟨fun h => Bool.noConfusion h, ?_⟩ | refine ⟨?_, fun h => Bool.noConfusion h⟩ | refine fun (_ : false = false) => ?_ | refine fun (_ : true = true) => ?_ | refine .inl ⟨_, fun _ => ⟨purA rfl, (by first | exact ok54 u.A false f (by omega))⟩, .inl rfl, ?_⟩)
  conv => whnf
  rw [e3]
  repeat ((conv => whnf); first | refine Cd.seq ?_ | refine Cd.cut ?_ | refine Cd.reg ?_ | refine Cd.block ?_ | refine Cd.cond ?_ | refine Cd.dreg ?_ | refine Cd.skip ?_ | refine Cd.ret ?_ | refine Cd.exit ?_ | refine Cd.loop ?_ | refine ⟨rfl, ?_⟩ | refine ⟨Nat.le_of_ble_eq_true rfl, ?_⟩ | refine ⟨.inl rfl, ?_⟩ | refine ⟨fun h => Bool.noConfusion h, ?_⟩ | refine .inl ⟨_, fun _ => ⟨purA rfl, (by first | exact ok47)⟩, .inl rfl, ?_⟩)
  conv => whnf
  refine ⟨[], ?_, rfl, trivial, rfl, ?_⟩
  · exact trivial
  try subst hk
  repeat' (first | exact trivial | rfl | exact .inl rfl | exact .inr rfl | exact id | exact (fun h => Bool.noConfusion h) | refine And.intro ?_ ?_)
end Go.Proofs.Ytcifhjkodbaghaa

