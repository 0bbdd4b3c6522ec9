/- Lru: LruBalanced as a contract. -/
import Derived.Test.YtcifhjkodbaghaaL7
set_option linter.unusedSimpArgs false
set_option linter.unusedVariables false
namespace Go.Proofs.Ytcifhjkodbaghaa
open Go Go.Sk Go.RowKit

/- pagecache/pagecachelaw08.LruBalanced -/
def rc14 : RC :=
  (.seq
  (.reg [⟨(some 2), none, (.mv (.c (.bool false)))⟩] [])
  (.seq
  (.reg [⟨(some 8), none, (.mv (.t 0))⟩,
    ⟨(some 9), none, (.build [(.lst 0 true []), (.int .i64 0)] [(0, (1, (.t 8)))])⟩,
    ⟨(some 10), none, (.box (.t 9))⟩,
    ⟨(some 11), none, (.call 53 [(.t 10)])⟩,
    ⟨(some 3), none, (.alloc [(.lst 0 true []), (.lst 0 true []), (.lst 0 true [])])⟩,
    ⟨none, none, (.st 3 (.t 3) (.t 11))⟩] [8, 9, 10, 11])
  (.seq
  (.reg [⟨(some 4), none, (.mv (.c (.int .i64 0)))⟩] [])
  (.seq
  (.seq
  (.reg [⟨(some 5), none, (.mv (.c (.int .i64 0)))⟩] [])
  (.block 0
   (.loop
    (.seq
    (.seq
    (.reg [⟨(some 12), none, (.mv (.t 5))⟩,
      ⟨(some 13), none, (.faddr 0 (.t 3))⟩,
      ⟨(some 14), none, (.ld false 1 (.t 13))⟩,
      ⟨(some 15), none, (.len (.t 14))⟩,
      ⟨(some 16), none, (.bin .lss (.t 12) (.t 15))⟩] [12, 13, 14, 15])
    (.cond (.t 16)
     .skip
     (.exit 0)))
    (.seq
    (.block 1
     (.seq
     (.dreg 7168 7312 [⟨(some 19), none, (.faddr 2 (.t 3))⟩,
       ⟨(some 20), none, (.ld false 1 (.t 19))⟩,
       ⟨(some 21), none, (.faddr 0 (.t 3))⟩,
       ⟨(some 22), none, (.ld false 1 (.t 21))⟩,
       ⟨(some 23), none, (.mv (.t 5))⟩,
       ⟨(some 24), none, (.iaddr 1 (.t 22) (.t 23))⟩,
       ⟨(some 25), none, (.ld false 1 (.t 24))⟩,
       ⟨(some 26), none, (.call 54 [(.t 20), (.t 25)])⟩,
       ⟨(some 27), none, (.bin .lss (.t 26) (.c (.int .i64 0)))⟩] [19, 20, 21, 22, 23, 24, 25, 26] [[], [0], [], [2], [], [3, 2, 4], [5, 4, 2, 3], [1, 0, 6, 3, 2, 4, 5], [7, 5, 4, 2, 3, 6, 0, 1]] [7168, 7184, 7200, 7216, 7232, 7248, 7264, 7280, 7296])
     (.cond (.t 27)
      (.reg [⟨(some 28), none, (.mv (.t 4))⟩,
        ⟨(some 29), none, (.bin .add (.t 28) (.c (.int .i64 1)))⟩,
        ⟨(some 4), none, (.mv (.t 29))⟩] [28, 29])
      .skip)))
    (.reg [⟨(some 17), none, (.mv (.t 5))⟩,
      ⟨(some 18), none, (.bin .add (.t 17) (.c (.int .i64 1)))⟩,
      ⟨(some 5), none, (.mv (.t 18))⟩] [17, 18]))))))
  (.seq
  (.reg [⟨(some 30), none, (.ld true 3 (.t 3))⟩,
    ⟨(some 31), none, (.call 45 [(.t 30)])⟩,
    ⟨(some 6), none, (.alloc [(.lst 0 true []), (.lst 0 true []), (.lst 0 true [])])⟩,
    ⟨none, none, (.st 3 (.t 6) (.t 31))⟩] [30, 31])
  (.seq
  (.seq
  (.reg [⟨(some 32), none, (.faddr 0 (.t 3))⟩,
    ⟨(some 33), none, (.ld false 1 (.t 32))⟩,
    ⟨(some 34), none, (.len (.t 33))⟩,
    ⟨(some 35), none, (.faddr 1 (.t 3))⟩,
    ⟨(some 36), none, (.ld false 1 (.t 35))⟩,
    ⟨(some 37), none, (.len (.t 36))⟩,
    ⟨(some 38), none, (.bin .leq (.t 34) (.t 37))⟩] [32, 33, 34, 35, 36, 37])
  (.cond (.t 38)
   (.seq
   (.reg [⟨(some 39), none, (.ld true 3 (.t 3))⟩,
     ⟨(some 40), none, (.ld true 3 (.t 6))⟩,
     ⟨(some 41), none, (.call 44 [(.t 39), (.t 40)])⟩,
     ⟨(some 42), none, (.mv (.t 41))⟩,
     ⟨(some 43), (some (42, true)), (.call 47 [])⟩,
     ⟨(some 44), none, (.pick (.t 42) (.t 43) (.c (.bool false)))⟩,
     ⟨(some 2), none, (.mv (.t 44))⟩] [39, 40, 41, 42, 43, 44])
   .ret)
   .skip))
  (.seq
  (.reg [⟨(some 45), none, (.faddr 0 (.t 3))⟩,
    ⟨(some 46), none, (.ld false 1 (.t 45))⟩,
    ⟨(some 47), none, (.len (.t 46))⟩,
    ⟨(some 48), none, (.faddr 1 (.t 3))⟩,
    ⟨(some 49), none, (.ld false 1 (.t 48))⟩,
    ⟨(some 50), none, (.len (.t 49))⟩,
    ⟨(some 51), none, (.bin .sub (.t 47) (.t 50))⟩,
    ⟨(some 52), none, (.bin .add (.t 51) (.c (.int .i64 1)))⟩,
    ⟨(some 53), none, (.bin .quo (.t 52) (.c (.int .i64 2)))⟩,
    ⟨(some 7), none, (.mv (.t 53))⟩] [45, 46, 47, 48, 49, 50, 51, 52, 53])
  (.seq
  (.seq
  (.reg [⟨(some 54), none, (.mv (.t 4))⟩,
    ⟨(some 55), none, (.mv (.t 7))⟩,
    ⟨(some 56), none, (.bin .geq (.t 54) (.t 55))⟩,
    ⟨(some 57), none, (.mv (.t 56))⟩,
    ⟨(some 58), (some (57, true)), (.faddr 0 (.t 6))⟩,
    ⟨(some 59), (some (57, true)), (.ld false 1 (.t 58))⟩,
    ⟨(some 60), (some (57, true)), (.len (.t 59))⟩,
    ⟨(some 61), (some (57, true)), (.faddr 1 (.t 6))⟩,
    ⟨(some 62), (some (57, true)), (.ld false 1 (.t 61))⟩,
    ⟨(some 63), (some (57, true)), (.len (.t 62))⟩,
    ⟨(some 64), (some (57, true)), (.bin .gtr (.t 60) (.t 63))⟩,
    ⟨(some 65), none, (.pick (.t 57) (.t 64) (.c (.bool false)))⟩,
    ⟨(some 66), none, (.mv (.t 65))⟩,
    ⟨(some 67), (some (66, false)), (.mv (.t 4))⟩,
    ⟨(some 68), (some (66, false)), (.mv (.t 7))⟩,
    ⟨(some 69), (some (66, false)), (.bin .lss (.t 67) (.t 68))⟩,
    ⟨(some 70), (some (66, false)), (.mv (.t 69))⟩,
    ⟨(some 71), (some (70, true)), (.faddr 0 (.t 6))⟩,
    ⟨(some 72), (some (70, true)), (.ld false 1 (.t 71))⟩,
    ⟨(some 73), (some (70, true)), (.len (.t 72))⟩,
    ⟨(some 74), (some (70, true)), (.faddr 0 (.t 3))⟩,
    ⟨(some 75), (some (70, true)), (.ld false 1 (.t 74))⟩,
    ⟨(some 76), (some (70, true)), (.len (.t 75))⟩,
    ⟨(some 77), (some (70, true)), (.mv (.t 4))⟩,
    ⟨(some 78), (some (70, true)), (.bin .sub (.t 76) (.t 77))⟩,
    ⟨(some 79), (some (70, true)), (.bin .neq (.t 73) (.t 78))⟩,
    ⟨(some 80), (some (66, false)), (.pick (.t 70) (.t 79) (.c (.bool false)))⟩,
    ⟨(some 81), none, (.pick (.t 66) (.c (.bool true)) (.t 80))⟩] [54, 55, 56, 57, 58, 59, 60, 61, 62, 63, 64, 65, 66, 67, 68, 69, 70, 71, 72, 73, 74, 75, 76, 77, 78, 79, 80])
  (.cond (.t 81)
   (.seq
   (.reg [⟨(some 2), none, (.mv (.c (.bool false)))⟩] [])
   .ret)
   .skip))
  (.seq
  (.reg [⟨(some 82), none, (.call 47 [])⟩,
    ⟨(some 2), none, (.mv (.t 82))⟩] [82])
  .ret)))))))))
theorem rcq14 : resC Go.Proofs.Try.prog Go.Proofs.Try.f14.ntmps ((Go.Proofs.Try.f14.body).getD .skip) = some (strip rc14) := by kernel_rfl
def rv14 : List RV := [(.tmp 2)]
theorem rvq14 : Go.Proofs.Try.f14.results.toList.mapM (resRV Go.Proofs.Try.prog) = some rv14 := by kernel_rfl

def loose (R : List Int) (l : List Int) : List Int := l.filter fun y => decide (y ∉ R)
theorem balN_law (R0 : List Int) : ∀ (n : Nat) (l : Ls) (P T : List Int), ChkP l → l.A = P ++ T → T.length = n → (∀ x ∈ T, (x ∈ l.R ↔ x ∈ R0)) →
    ((l.A.length - l.I.length + 1) / 2 ≤ (loose R0 T).length → (balN n l).A.length ≤ (balN n l).I.length) ∧ ((loose R0 T).length < (l.A.length - l.I.length + 1) / 2 → (balN n l).A.length + (loose R0 T).length = l.A.length)
  | 0, l, P, T, h, hA, hT, hR => by
    obtain rfl : T = [] := List.length_eq_zero_iff.1 hT
    simp only [loose, List.filter_nil, List.length_nil, balN]
    omega
  | n + 1, l, P, T, h, hA, hT, hR => by
    rw [balN]
    by_cases hc : (l.A.length : Int) ≤ l.I.length
    · rw [show decide ((l.A.length : Int) ≤ l.I.length) = true by simpa using hc, cond_true]
      omega
    · rw [show decide ((l.A.length : Int) ≤ l.I.length) = false by simpa using hc, cond_false]
      have h0 : 0 < l.A.length := by omega
      have hTs : T = T.take n ++ [T.getD n 0] := by
        have := List.take_succ_eq_append_getElem (l := T) (i := n) (by omega)
        rw [show n + 1 = T.length by omega, List.take_length, getI _ _ (by omega)] at this
        exact this
      generalize T.take n = T' at hTs
      generalize T.getD n 0 = f at hTs
      subst hTs
      have hTl : T'.length = n := by simpa using hT
      have hsp := A_split h0
      have he : restA l = P ++ T' ∧ lastA l = f := by
        have e : restA l ++ [lastA l] = (P ++ T') ++ [f] := by rw [← hsp, hA, List.append_assoc]
        have := List.append_inj' e rfl
        exact ⟨this.1, by simpa using this.2⟩
      obtain ⟨er, ef⟩ := he
      have hlen : l.A.length = (P ++ T').length + 1 := by rw [hA, ← List.append_assoc, List.length_append (bs := [f])]; rfl
      have hnd := (List.nodup_append.1 h.nodup).1
      rw [hA, ← List.append_assoc] at hnd
      have hfn : f ∉ P ++ T' := fun hm => (List.nodup_append.1 hnd).2.2 f hm f (by simp) rfl
      have hb := h.bal h0
      have hfR := hR f (by simp)
      have hR' : ∀ x ∈ T', (x ∈ l.R ↔ x ∈ R0) := fun x hx => hR x (by simp [hx])
      rw [balS, ef, er] at hb
      rw [balS, ef, er]
      by_cases hm : f ∈ l.R
      · rw [show decide (f ∈ l.R) = true by simpa using hm, cond_true] at hb ⊢
        have hlo : loose R0 (T' ++ [f]) = loose R0 T' := by
          rw [loose, loose, List.filter_append]; simp [hfR.1 hm]
        rw [hlo]
        have := balN_law R0 n _ (f :: P) T' hb rfl hTl fun x hx => by
          have hxf : x ≠ f := by rintro rfl; exact hfn (List.mem_append_right _ hx)
          rw [mem_wo, ← hR' x hx]
          exact ⟨fun h => h.1, fun h => ⟨h, hxf⟩⟩
        simp only [List.length_cons] at this
        rw [← hlen] at this
        exact this
      · rw [show decide (f ∈ l.R) = false by simpa using hm, cond_false] at hb ⊢
        have hlo : (loose R0 (T' ++ [f])).length = (loose R0 T').length + 1 := by
          have : f ∉ R0 := fun h => hm (hfR.2 h)
          rw [loose, loose, List.filter_append, List.length_append]; simp [this]
        rw [hlo]
        have := balN_law R0 n _ P T' hb rfl hTl hR'
        simp only [List.length_cons] at this
        omega
theorem loose_succ {R l : List Int} {i : Nat} (h : i < l.length) : (loose R (l.take (i + 1))).length = (loose R (l.take i)).length + (bif decide (l.getD i 0 ∉ R) then 1 else 0) := by
  rw [List.take_succ_eq_append_getElem h, loose, loose, List.filter_append, List.length_append, getI _ _ h]
  generalize l.getD i 0 = f
  by_cases e : f ∈ R <;> simp [e]
theorem loose_le (R l : List Int) : (loose R l).length ≤ l.length := List.length_filter_le _ _
set_option maxRecDepth 20000 in
set_option maxHeartbeats 1000000 in
theorem ok14 (L : List Int) (hL : (L.length : Int) < 2 ^ 62) : FnC Try.prog 14 [] [.lst 1 false (rowsI L)] (.bool true) [] := by
  refine fn_okC (ob0 := []) (rc := rc14) (rvs := rv14) Try.func14 rfl rcq14 rvq14 (show 1 ≤ _ by decide) ?_
  obtain ⟨hP, -⟩ := lruF_ok L 0 (by omega)
  repeat ((conv => whnf); first | refine Cd.seq ?_ | refine Cd.cut ?_ | refine Cd.reg ?_ | refine Cd.block ?_ | refine Cd.cond ?_ | refine Cd.dreg ?_ | refine Cd.skip ?_ | refine Cd.ret ?_ | refine Cd.exit ?_ | refine Cd.loop ?_ | refine ⟨rfl, ?_⟩ | refine ⟨Nat.le_of_ble_eq_true rfl, ?_⟩ | refine ⟨.inl rfl, ?_⟩ | refine ⟨fun h => Bool.noConfusion h, ?_⟩ | refine .inr ⟨fun _ => ⟨[0], _, _, _, ok16n L _ _ hL (by omega) (by omega) (by omega), ⟨rfl, rfl, trivial⟩, rfl, rfl, rfl, rfl, ?_⟩, (by intro h; cases h)⟩ | refine .inr ⟨fun _ => ⟨[0], _, _, _, ok53 L _ hL (by omega), ⟨rfl, rfl, trivial⟩, rfl, rfl, rfl, rfl, ?_⟩, (by intro h; cases h)⟩)
  conv => whnf
  refine .inr ⟨fun _ => ⟨[0], _, _, _, ok53 L 0 hL (by omega), ⟨rfl, rfl, trivial⟩, rfl, rfl, rfl, rfl, ?_⟩, (by intro h; cases h)⟩
  generalize (lruF L 0).1 = x at hP ⊢
  generalize (lruF L 0).2 = J
  have hsm := hP.small
  have hml := hP.len
  rw [List.length_append] at hml
  have hmr := hP.lenR
  repeat ((conv => whnf); first | refine Cd.seq ?_ | refine Cd.cut ?_ | refine Cd.reg ?_ | refine Cd.block ?_ | refine Cd.cond ?_ | refine Cd.dreg ?_ | refine Cd.skip ?_ | refine Cd.ret ?_ | refine Cd.exit ?_ | refine Cd.loop ?_ | refine ⟨rfl, ?_⟩ | refine ⟨Nat.le_of_ble_eq_true rfl, ?_⟩ | refine ⟨.inl rfl, ?_⟩ | refine ⟨fun h => Bool.noConfusion h, ?_⟩ | refine .inr ⟨fun _ => ⟨[0], _, _, _, ok16n L _ _ hL (by omega) (by omega) (by omega), ⟨rfl, rfl, trivial⟩, rfl, rfl, rfl, rfl, ?_⟩, (by intro h; cases h)⟩ | refine .inr ⟨fun _ => ⟨[0], _, _, _, ok53 L _ hL (by omega), ⟨rfl, rfl, trivial⟩, rfl, rfl, rfl, rfl, ?_⟩, (by intro h; cases h)⟩)
  conv => whnf
  refine ⟨Nat, fun i => i ≤ x.A.length, fun i => ⟨[(3, ⟨[], true, .ptr 0 0 0⟩), (4, ⟨[], true, .int .i64 ((loose x.R (x.A.take i)).length : Int)⟩), (5, ⟨[], true, .int .i64 (i : Int)⟩)], [(0, .box x.c)], 1⟩, fun i => x.A.length - i, ⟨0, by omega, ?_⟩, fun i hi => ?_⟩
  · refine viewI [some 17] rfl rfl ?_ rfl ?_ rfl ?_
    repeat' (first | exact trivial | rfl | exact .inl rfl | exact .inr rfl | exact id | exact (fun h => Bool.noConfusion h) | refine And.intro ?_ ?_)
  have hi : i ≤ x.A.length := hi
  have hlo := loose_le x.R (x.A.take i)
  rw [List.length_take] at hlo
  repeat ((conv => whnf); first | refine Cd.seq ?_ | refine Cd.cut ?_ | refine Cd.reg ?_ | refine Cd.block ?_ | refine Cd.cond ?_ | refine Cd.dreg ?_ | refine Cd.skip ?_ | refine Cd.ret ?_ | refine Cd.exit ?_ | refine Cd.loop ?_ | refine ⟨rfl, ?_⟩ | refine ⟨Nat.le_of_ble_eq_true rfl, ?_⟩ | refine ⟨.inl rfl, ?_⟩ | refine ⟨fun h => Bool.noConfusion h, ?_⟩ | refine .inr ⟨fun _ => ⟨[0], _, _, _, ok16n L _ _ hL (by omega) (by omega) (by omega), ⟨rfl, rfl, trivial⟩, rfl, rfl, rfl, rfl, ?_⟩, (by intro h; cases h)⟩ | refine .inr ⟨fun _ => ⟨[0], _, _, _, ok53 L _ hL (by omega), ⟨rfl, rfl, trivial⟩, rfl, rfl, rfl, rfl, ?_⟩, (by intro h; cases h)⟩)
  conv => whnf
  rw [rowsI_len]
  refine ⟨fun h1 => ?_, fun h1 => ?_⟩ <;> try simp only [Bool.cond_true_left, Bool.cond_false_right, Bool.not_eq_true', Bool.not_eq_false', Bool.not_not] at h1
  · have h1 : i < x.A.length := by simp at h1; omega
    have hi1 : IntKind.i64.wrap ((i : Int) + 1) = ((i + 1 : Nat) : Int) := by rw [wrapI (by omega) (by omega)]; omega
    have hls := loose_succ (R := x.R) h1
    repeat ((conv => whnf); first | refine Cd.seq ?_ | refine Cd.cut ?_ | refine Cd.reg ?_ | refine Cd.block ?_ | refine Cd.cond ?_ | refine Cd.dreg ?_ | refine Cd.skip ?_ | refine Cd.ret ?_ | refine Cd.exit ?_ | refine Cd.loop ?_ | refine ⟨rfl, ?_⟩ | refine ⟨Nat.le_of_ble_eq_true rfl, ?_⟩ | refine ⟨.inl rfl, ?_⟩ | refine ⟨fun h => Bool.noConfusion h, ?_⟩ | refine .inr ⟨fun _ => ⟨[0], _, _, _, ok16n L _ _ hL (by omega) (by omega) (by omega), ⟨rfl, rfl, trivial⟩, rfl, rfl, rfl, rfl, ?_⟩, (by intro h; cases h)⟩ | refine .inr ⟨fun _ => ⟨[0], _, _, _, ok53 L _ hL (by omega), ⟨rfl, rfl, trivial⟩, rfl, rfl, rfl, rfl, ?_⟩, (by intro h; cases h)⟩)
    conv => whnf
    refine ⟨fun _ => ⟨rfl, by omega, by rw [rowsI_len]; omega⟩, ?_⟩
    rw [rowsI_getK x.A i h1]
    repeat ((conv => whnf); first | refine Cd.seq ?_ | refine Cd.cut ?_ | refine Cd.reg ?_ | refine Cd.block ?_ | refine Cd.cond ?_ | refine Cd.dreg ?_ | refine Cd.skip ?_ | refine Cd.ret ?_ | refine Cd.exit ?_ | refine Cd.loop ?_ | refine ⟨rfl, ?_⟩ | refine ⟨Nat.le_of_ble_eq_true rfl, ?_⟩ | refine ⟨.inl rfl, ?_⟩ | refine ⟨fun h => Bool.noConfusion h, ?_⟩ | refine .inl ⟨_, fun _ => ⟨purA rfl, (by first | exact ok54 x.R false (x.A.getD i 0) (by omega))⟩, .inl rfl, ?_⟩ | refine .inr ⟨fun _ => ⟨[0], _, _, _, ok16n L _ _ hL (by omega) (by omega) (by omega), ⟨rfl, rfl, trivial⟩, rfl, rfl, rfl, rfl, ?_⟩, (by intro h; cases h)⟩ | refine .inr ⟨fun _ => ⟨[0], _, _, _, ok53 L _ hL (by omega), ⟨rfl, rfl, trivial⟩, rfl, rfl, rfl, rfl, ?_⟩, (by intro h; cases h)⟩)
    conv => whnf
    rw [atN]
    generalize (loose x.R (x.A.take i)).length = c at hlo hls ⊢
    refine ⟨fun h2 => ?_, fun h2 => ?_⟩ <;> try simp only [Bool.cond_true_left, Bool.cond_false_right, Bool.not_eq_true', Bool.not_eq_false', Bool.not_not] at h2
    · rw [h2] at hls
      repeat ((conv => whnf); first | refine Cd.seq ?_ | refine Cd.cut ?_ | refine Cd.reg ?_ | refine Cd.block ?_ | refine Cd.cond ?_ | refine Cd.dreg ?_ | refine Cd.skip ?_ | refine Cd.ret ?_ | refine Cd.exit ?_ | refine Cd.loop ?_ | refine ⟨rfl, ?_⟩ | refine ⟨Nat.le_of_ble_eq_true rfl, ?_⟩ | refine ⟨.inl rfl, ?_⟩ | refine ⟨fun h => Bool.noConfusion h, ?_⟩ | refine .inr ⟨fun _ => ⟨[0], _, _, _, ok16n L _ _ hL (by omega) (by omega) (by omega), ⟨rfl, rfl, trivial⟩, rfl, rfl, rfl, rfl, ?_⟩, (by intro h; cases h)⟩ | refine .inr ⟨fun _ => ⟨[0], _, _, _, ok53 L _ hL (by omega), ⟨rfl, rfl, trivial⟩, rfl, rfl, rfl, rfl, ?_⟩, (by intro h; cases h)⟩)
      conv => whnf
      rw [hi1, wrapI (n := (c : Int) + 1) (by omega) (by omega)]
      refine ⟨i + 1, by show i + 1 ≤ _; omega, ?_, by show x.A.length - (i + 1) < x.A.length - i; omega⟩
      refine viewI [some 0] rfl rfl ?_ rfl ?_ rfl ?_
      repeat' (first | exact trivial | rfl | exact .inl rfl | exact .inr rfl | exact id | exact (fun h => Bool.noConfusion h) | refine And.intro ?_ ?_)
      show (c : Int) + 1 = ((loose x.R (x.A.take (i + 1))).length : Int)
      rw [hls]; simp
    rw [h2] at hls
    repeat ((conv => whnf); first | refine Cd.seq ?_ | refine Cd.cut ?_ | refine Cd.reg ?_ | refine Cd.block ?_ | refine Cd.cond ?_ | refine Cd.dreg ?_ | refine Cd.skip ?_ | refine Cd.ret ?_ | refine Cd.exit ?_ | refine Cd.loop ?_ | refine ⟨rfl, ?_⟩ | refine ⟨Nat.le_of_ble_eq_true rfl, ?_⟩ | refine ⟨.inl rfl, ?_⟩ | refine ⟨fun h => Bool.noConfusion h, ?_⟩ | refine .inr ⟨fun _ => ⟨[0], _, _, _, ok16n L _ _ hL (by omega) (by omega) (by omega), ⟨rfl, rfl, trivial⟩, rfl, rfl, rfl, rfl, ?_⟩, (by intro h; cases h)⟩ | refine .inr ⟨fun _ => ⟨[0], _, _, _, ok53 L _ hL (by omega), ⟨rfl, rfl, trivial⟩, rfl, rfl, rfl, rfl, ?_⟩, (by intro h; cases h)⟩)
    conv => whnf
    rw [hi1]
    refine ⟨i + 1, by show i + 1 ≤ _; omega, ?_, by show x.A.length - (i + 1) < x.A.length - i; omega⟩
    refine viewI [some 0] rfl rfl ?_ rfl ?_ rfl ?_
    repeat' (first | exact trivial | rfl | exact .inl rfl | exact .inr rfl | exact id | exact (fun h => Bool.noConfusion h) | refine And.intro ?_ ?_)
    show (c : Int) = ((loose x.R (x.A.take (i + 1))).length : Int)
    rw [hls]; simp
  have h1 : i = x.A.length := by simp at h1; omega
  subst h1
  rw [List.take_length] at hlo ⊢
  have hbf : balF x = balN x.A.length x := by rw [balF, (chk_iff' x).2 hP]; rfl
  have hlaw := balN_law x.R x.A.length x [] x.A hP rfl rfl fun _ _ => Iff.rfl
  rw [← hbf] at hlaw
  have hby := hP.balF
  have hpl := hby.2.length_eq
  rw [List.length_append, List.length_append] at hpl
  repeat ((conv => whnf); first | refine Cd.seq ?_ | refine Cd.cut ?_ | refine Cd.reg ?_ | refine Cd.block ?_ | refine Cd.cond ?_ | refine Cd.dreg ?_ | refine Cd.skip ?_ | refine Cd.ret ?_ | refine Cd.exit ?_ | refine Cd.loop ?_ | refine ⟨rfl, ?_⟩ | refine ⟨Nat.le_of_ble_eq_true rfl, ?_⟩ | refine ⟨.inl rfl, ?_⟩ | refine ⟨fun h => Bool.noConfusion h, ?_⟩ | refine .inl ⟨_, fun _ => ⟨purA rfl, (by first | exact ok45 x hsm)⟩, .inl rfl, ?_⟩ | refine .inr ⟨fun _ => ⟨[0], _, _, _, ok16n L _ _ hL (by omega) (by omega) (by omega), ⟨rfl, rfl, trivial⟩, rfl, rfl, rfl, rfl, ?_⟩, (by intro h; cases h)⟩ | refine .inr ⟨fun _ => ⟨[0], _, _, _, ok53 L _ hL (by omega), ⟨rfl, rfl, trivial⟩, rfl, rfl, rfl, rfl, ?_⟩, (by intro h; cases h)⟩)
  conv => whnf
  rw [rowsI_len, rowsI_len]
  refine ⟨fun h2 => ?_, fun h2 => ?_⟩ <;> try simp only [Bool.cond_true_left, Bool.cond_false_right, Bool.not_eq_true', Bool.not_eq_false', Bool.not_not] at h2
  · have h2 : x.A.length ≤ x.I.length := by simp at h2; omega
    have hxy : balF x = x := by
      rw [hbf]
      cases hn : x.A.length with
      | zero => rfl
      | succ n =>
        rw [balN, show decide ((x.A.length : Int) ≤ x.I.length) = true by rw [decide_eq_true_eq]; omega]; rfl
    rw [hxy]
    repeat ((conv => whnf); first | refine Cd.seq ?_ | refine Cd.cut ?_ | refine Cd.reg ?_ | refine Cd.block ?_ | refine Cd.cond ?_ | refine Cd.dreg ?_ | refine Cd.skip ?_ | refine Cd.ret ?_ | refine Cd.exit ?_ | refine Cd.loop ?_ | refine ⟨rfl, ?_⟩ | refine ⟨Nat.le_of_ble_eq_true rfl, ?_⟩ | refine ⟨.inl rfl, ?_⟩ | refine ⟨fun h => Bool.noConfusion h, ?_⟩ | refine .inl ⟨_, fun _ => ⟨purA rfl, (by first | exact ok44 x x hsm hsm | exact ok47)⟩, .inl rfl, ?_⟩ | refine .inr ⟨fun _ => ⟨[0], _, _, _, ok16n L _ _ hL (by omega) (by omega) (by omega), ⟨rfl, rfl, trivial⟩, rfl, rfl, rfl, rfl, ?_⟩, (by intro h; cases h)⟩ | refine .inr ⟨fun _ => ⟨[0], _, _, _, ok53 L _ hL (by omega), ⟨rfl, rfl, trivial⟩, rfl, rfl, rfl, rfl, ?_⟩, (by intro h; cases h)⟩)
    conv => whnf
    rw [sameL_refl]
    refine ⟨[], ?_, rfl, trivial, rfl, ?_⟩
    · exact trivial
    try subst hk
    repeat' (first | exact trivial | rfl | exact .inl rfl | exact .inr rfl | exact id | exact (fun h => Bool.noConfusion h) | refine And.intro ?_ ?_)
  have h2 : x.I.length < x.A.length := by simp at h2; omega
  repeat ((conv => whnf); first | refine Cd.seq ?_ | refine Cd.cut ?_ | refine Cd.reg ?_ | refine Cd.block ?_ | refine Cd.cond ?_ | refine Cd.dreg ?_ | refine Cd.skip ?_ | refine Cd.ret ?_ | refine Cd.exit ?_ | refine Cd.loop ?_ | refine ⟨rfl, ?_⟩ | refine ⟨Nat.le_of_ble_eq_true rfl, ?_⟩ | refine ⟨.inl rfl, ?_⟩ | refine ⟨fun h => Bool.noConfusion h, ?_⟩ | refine .inr ⟨fun _ => ⟨[0], _, _, _, ok16n L _ _ hL (by omega) (by omega) (by omega), ⟨rfl, rfl, trivial⟩, rfl, rfl, rfl, rfl, ?_⟩, (by intro h; cases h)⟩ | refine .inr ⟨fun _ => ⟨[0], _, _, _, ok53 L _ hL (by omega), ⟨rfl, rfl, trivial⟩, rfl, rfl, rfl, rfl, ?_⟩, (by intro h; cases h)⟩)
  conv => whnf
  rw [rowsI_len, rowsI_len, wrapI (n := (x.A.length : Int) - x.I.length) (by omega) (by omega), wrapI (n := (x.A.length : Int) - x.I.length + 1) (by omega) (by omega)]
  refine ⟨fun _ => by decide, ?_⟩
  generalize balF x = y at hlaw hby hpl ⊢
  generalize (loose x.R x.A).length = c at hlaw hlo ⊢
  have hneed : IntKind.i64.wrap (((x.A.length : Int) - x.I.length + 1).tdiv 2) = (((x.A.length - x.I.length + 1) / 2 : Nat) : Int) := by
    rw [Int.tdiv_eq_ediv_of_nonneg (by omega), wrapI (by omega) (by omega)]; omega
  rw [hneed]
  generalize (x.A.length - x.I.length + 1) / 2 = need at hlaw ⊢
  repeat ((conv => whnf); first | refine Cd.seq ?_ | refine Cd.cut ?_ | refine Cd.reg ?_ | refine Cd.block ?_ | refine Cd.cond ?_ | refine Cd.dreg ?_ | refine Cd.skip ?_ | refine Cd.ret ?_ | refine Cd.exit ?_ | refine Cd.loop ?_ | refine ⟨rfl, ?_⟩ | refine ⟨Nat.le_of_ble_eq_true rfl, ?_⟩ | refine ⟨.inl rfl, ?_⟩ | refine ⟨fun h => Bool.noConfusion h, ?_⟩ | refine .inr ⟨fun _ => ⟨[0], _, _, _, ok16n L _ _ hL (by omega) (by omega) (by omega), ⟨rfl, rfl, trivial⟩, rfl, rfl, rfl, rfl, ?_⟩, (by intro h; cases h)⟩ | refine .inr ⟨fun _ => ⟨[0], _, _, _, ok53 L _ hL (by omega), ⟨rfl, rfl, trivial⟩, rfl, rfl, rfl, rfl, ?_⟩, (by intro h; cases h)⟩)
  conv => whnf
  rw [rowsI_len, rowsI_len, rowsI_len]
  refine ⟨fun h3 => ?_, fun h3 => ?_⟩ <;> try simp only [Bool.cond_true_left, Bool.cond_false_right, Bool.not_eq_true', Bool.not_eq_false', Bool.not_not] at h3
  · exfalso
    by_cases hcn : need ≤ c
    · have := hlaw.1 hcn
      rw [show decide ((need : Int) ≤ (c : Int)) = true by rw [decide_eq_true_eq]; omega, show decide ((c : Int) < (need : Int)) = false by rw [decide_eq_false_iff_not]; omega] at h3
      simp at h3
      omega
    · have := hlaw.2 (by omega)
      rw [show decide ((need : Int) ≤ (c : Int)) = false by rw [decide_eq_false_iff_not]; omega, wrapI (by omega) (by omega)] at h3
      simp at h3
      omega
  repeat ((conv => whnf); first | refine Cd.seq ?_ | refine Cd.cut ?_ | refine Cd.reg ?_ | refine Cd.block ?_ | refine Cd.cond ?_ | refine Cd.dreg ?_ | refine Cd.skip ?_ | refine Cd.ret ?_ | refine Cd.exit ?_ | refine Cd.loop ?_ | refine ⟨rfl, ?_⟩ | refine ⟨Nat.le_of_ble_eq_true rfl, ?_⟩ | refine ⟨.inl rfl, ?_⟩ | refine ⟨fun h => Bool.noConfusion h, ?_⟩ | refine .inl ⟨_, fun _ => ⟨purA rfl, (by first | exact ok47)⟩, .inl rfl, ?_⟩ | refine .inr ⟨fun _ => ⟨[0], _, _, _, ok16n L _ _ hL (by omega) (by omega) (by omega), ⟨rfl, rfl, trivial⟩, rfl, rfl, rfl, rfl, ?_⟩, (by intro h; cases h)⟩ | refine .inr ⟨fun _ => ⟨[0], _, _, _, ok53 L _ hL (by omega), ⟨rfl, rfl, trivial⟩, rfl, rfl, rfl, rfl, ?_⟩, (by intro h; cases h)⟩)
  conv => whnf
  refine ⟨[], ?_, rfl, trivial, rfl, ?_⟩
  · exact trivial
  try subst hk
  repeat' (first | exact trivial | rfl | exact .inl rfl | exact .inr rfl | exact id | exact (fun h => Bool.noConfusion h) | refine And.intro ?_ ?_)
end Go.Proofs.Ytcifhjkodbaghaa

