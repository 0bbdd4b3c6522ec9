/- Lru: awake; LruMoves and LruScans as contracts. -/
import Derived.Test.YtcifhjkodbaghaaL6
import Derived.Test.YtcifhjkodbaghaaB15
set_option linter.unusedSimpArgs false
set_option linter.unusedVariables false
namespace Go.Proofs.Ytcifhjkodbaghaa
open Go Go.Sk Go.RowKit

/- pagecache/pagecachelaw08.awake -/
def rc47 : RC :=
  (.seq
  (.reg [⟨(some 0), none, (.mv (.c (.bool false)))⟩] [])
  (.seq
  (.reg [⟨(some 10), none, (.build [(.lst 0 true []), (.lst 0 true []), (.lst 0 true [])] [])⟩,
    ⟨(some 1), none, (.alloc [(.lst 0 true []), (.lst 0 true []), (.lst 0 true [])])⟩,
    ⟨none, none, (.st 3 (.t 1) (.t 10))⟩] [10])
  (.seq
  (.seq
  (.reg [⟨(some 2), none, (.mv (.c (.int .i64 1)))⟩] [])
  (.block 0
   (.loop
    (.seq
    (.seq
    (.reg [⟨(some 11), none, (.mv (.t 2))⟩,
      ⟨(some 12), none, (.bin .leq (.t 11) (.c (.int .i64 3)))⟩] [11])
    (.cond (.t 12)
     .skip
     (.exit 0)))
    (.seq
    (.block 1
     (.seq
     (.reg [⟨(some 16), none, (.ld true 3 (.t 1))⟩,
       ⟨(some 17), none, (.mv (.t 2))⟩,
       ⟨(some 18), none, (.call 36 [(.t 16), (.t 17), (.c (.bool false))])⟩,
       ⟨(some 15), none, (.mv (.t 18))⟩,
       ⟨(some 19), none, (.extr 0 (.t 15))⟩,
       ⟨(some 20), none, (.extr 1 (.t 15))⟩,
       ⟨(some 3), none, (.alloc [(.lst 0 true []), (.lst 0 true []), (.lst 0 true [])])⟩,
       ⟨none, none, (.st 3 (.t 3) (.t 19))⟩,
       ⟨(some 4), none, (.mv (.t 20))⟩] [16, 17, 18, 15, 19, 20])
     (.seq
     (.seq
     (.reg [⟨(some 21), none, (.mv (.t 4))⟩,
       ⟨(some 22), none, (.bin .neq (.t 21) (.c (.int .i64 0)))⟩] [21])
     (.cond (.t 22)
      (.seq
      (.reg [⟨(some 0), none, (.mv (.c (.bool false)))⟩] [])
      .ret)
      .skip))
     (.reg [⟨(some 23), none, (.ld true 3 (.t 3))⟩,
       ⟨none, none, (.st 3 (.t 1) (.t 23))⟩] [23]))))
    (.reg [⟨(some 13), none, (.mv (.t 2))⟩,
      ⟨(some 14), none, (.bin .add (.t 13) (.c (.int .i64 1)))⟩,
      ⟨(some 2), none, (.mv (.t 14))⟩] [13, 14]))))))
  (.seq
  (.reg [⟨(some 25), none, (.ld true 3 (.t 1))⟩,
    ⟨(some 26), none, (.call 40 [(.t 25), (.c (.int .i64 1))])⟩,
    ⟨(some 24), none, (.mv (.t 26))⟩,
    ⟨(some 27), none, (.extr 0 (.t 24))⟩,
    ⟨(some 28), none, (.extr 1 (.t 24))⟩,
    ⟨none, none, (.st 3 (.t 1) (.t 27))⟩,
    ⟨(some 5), none, (.mv (.t 28))⟩] [25, 26, 24, 27, 28])
  (.seq
  (.reg [⟨(some 30), none, (.ld true 3 (.t 1))⟩,
    ⟨(some 31), none, (.call 50 [(.t 30), (.c (.int .i64 1)), (.c (.lst 0 true []))])⟩,
    ⟨(some 29), none, (.mv (.t 31))⟩,
    ⟨(some 32), none, (.extr 0 (.t 29))⟩,
    ⟨(some 33), none, (.extr 1 (.t 29))⟩,
    ⟨(some 6), none, (.alloc [(.lst 0 true []), (.lst 0 true []), (.lst 0 true [])])⟩,
    ⟨none, none, (.st 3 (.t 6) (.t 32))⟩,
    ⟨(some 7), none, (.mv (.t 33))⟩] [30, 31, 29, 32, 33])
  (.seq
  (.reg [⟨(some 35), none, (.ld true 3 (.t 6))⟩,
    ⟨(some 36), none, (.call 38 [(.t 35), (.c (.int .i64 3))])⟩,
    ⟨(some 34), none, (.mv (.t 36))⟩,
    ⟨(some 37), none, (.extr 0 (.t 34))⟩,
    ⟨(some 38), none, (.extr 1 (.t 34))⟩,
    ⟨(some 8), none, (.alloc [(.lst 0 true []), (.lst 0 true []), (.lst 0 true [])])⟩,
    ⟨none, none, (.st 3 (.t 8) (.t 37))⟩,
    ⟨(some 9), none, (.mv (.t 38))⟩] [35, 36, 34, 37, 38])
  (.seq
  (.reg [⟨(some 39), none, (.mv (.t 5))⟩,
    ⟨(some 40), none, (.bin .eql (.t 39) (.c (.int .i64 0)))⟩,
    ⟨(some 41), none, (.mv (.t 40))⟩,
    ⟨(some 42), (some (41, true)), (.mv (.t 7))⟩,
    ⟨(some 43), (some (41, true)), (.len (.t 42))⟩,
    ⟨(some 44), (some (41, true)), (.bin .eql (.t 43) (.c (.int .i64 1)))⟩,
    ⟨(some 45), none, (.pick (.t 41) (.t 44) (.c (.bool false)))⟩,
    ⟨(some 46), none, (.mv (.t 45))⟩,
    ⟨(some 47), (some (46, true)), (.mv (.t 7))⟩,
    ⟨(some 48), (some (46, true)), (.iaddr 1 (.t 47) (.c (.int .i64 0)))⟩,
    ⟨(some 49), (some (46, true)), (.ld false 1 (.t 48))⟩,
    ⟨(some 50), (some (46, true)), (.bin .eql (.t 49) (.c (.int .i64 2)))⟩,
    ⟨(some 51), none, (.pick (.t 46) (.t 50) (.c (.bool false)))⟩,
    ⟨(some 52), none, (.mv (.t 51))⟩,
    ⟨(some 53), (some (52, true)), (.faddr 1 (.t 6))⟩,
    ⟨(some 54), (some (52, true)), (.ld false 1 (.t 53))⟩,
    ⟨(some 55), (some (52, true)), (.len (.t 54))⟩,
    ⟨(some 56), (some (52, true)), (.bin .eql (.t 55) (.c (.int .i64 3)))⟩,
    ⟨(some 57), none, (.pick (.t 52) (.t 56) (.c (.bool false)))⟩,
    ⟨(some 58), none, (.mv (.t 57))⟩,
    ⟨(some 59), (some (58, true)), (.faddr 1 (.t 6))⟩,
    ⟨(some 60), (some (58, true)), (.ld false 1 (.t 59))⟩,
    ⟨(some 61), (some (58, true)), (.iaddr 1 (.t 60) (.c (.int .i64 0)))⟩,
    ⟨(some 62), (some (58, true)), (.ld false 1 (.t 61))⟩,
    ⟨(some 63), (some (58, true)), (.bin .eql (.t 62) (.c (.int .i64 1)))⟩,
    ⟨(some 64), none, (.pick (.t 58) (.t 63) (.c (.bool false)))⟩,
    ⟨(some 65), none, (.mv (.t 64))⟩,
    ⟨(some 66), (some (65, true)), (.mv (.t 9))⟩,
    ⟨(some 67), (some (65, true)), (.bin .eql (.t 66) (.c (.int .i64 0)))⟩,
    ⟨(some 68), none, (.pick (.t 65) (.t 67) (.c (.bool false)))⟩,
    ⟨(some 69), none, (.mv (.t 68))⟩,
    ⟨(some 70), (some (69, true)), (.faddr 1 (.t 8))⟩,
    ⟨(some 71), (some (69, true)), (.ld false 1 (.t 70))⟩,
    ⟨(some 72), (some (69, true)), (.len (.t 71))⟩,
    ⟨(some 73), (some (69, true)), (.bin .eql (.t 72) (.c (.int .i64 2)))⟩,
    ⟨(some 74), none, (.pick (.t 69) (.t 73) (.c (.bool false)))⟩,
    ⟨(some 75), none, (.mv (.t 74))⟩,
    ⟨(some 76), (some (75, true)), (.ld true 3 (.t 8))⟩,
    ⟨(some 77), (some (75, true)), (.call 42 [(.t 76)])⟩,
    ⟨(some 78), none, (.pick (.t 75) (.t 77) (.c (.bool false)))⟩,
    ⟨(some 79), none, (.mv (.t 78))⟩,
    ⟨(some 80), (some (79, true)), (.bslice 1 [(.int .i64 0)] 1 [(0, (.c (.int .i64 1)))])⟩,
    ⟨(some 81), (some (79, true)), (.build [(.lst 0 true []), (.lst 0 true []), (.lst 0 true [])] [(2, (1, (.t 80)))])⟩,
    ⟨(some 82), (some (79, true)), (.call 42 [(.t 81)])⟩,
    ⟨(some 83), (some (79, true)), (.un .not (.t 82))⟩,
    ⟨(some 84), none, (.pick (.t 79) (.t 83) (.c (.bool false)))⟩,
    ⟨(some 85), none, (.mv (.t 84))⟩,
    ⟨(some 86), (some (85, true)), (.bslice 1 [(.int .i64 0)] 2 [(0, (.c (.int .i64 1))), (1, (.c (.int .i64 2)))])⟩,
    ⟨(some 87), (some (85, true)), (.build [(.lst 0 true []), (.lst 0 true []), (.lst 0 true [])] [(0, (1, (.t 86)))])⟩,
    ⟨(some 88), (some (85, true)), (.call 45 [(.t 87)])⟩,
    ⟨(some 89), (some (85, true)), (.fget false 1 1 (.t 88))⟩,
    ⟨(some 90), (some (85, true)), (.len (.t 89))⟩,
    ⟨(some 91), (some (85, true)), (.bin .eql (.t 90) (.c (.int .i64 1)))⟩,
    ⟨(some 92), none, (.pick (.t 85) (.t 91) (.c (.bool false)))⟩,
    ⟨(some 0), none, (.mv (.t 92))⟩] [39, 40, 41, 42, 43, 44, 45, 46, 47, 48, 49, 50, 51, 52, 53, 54, 55, 56, 57, 58, 59, 60, 61, 62, 63, 64, 65, 66, 67, 68, 69, 70, 71, 72, 73, 74, 75, 76, 77, 78, 79, 80, 81, 82, 83, 84, 85, 86, 87, 88, 89, 90, 91, 92])
  .ret)))))))
theorem rcq47 : resC Go.Proofs.Try.prog Go.Proofs.Try.f47.ntmps ((Go.Proofs.Try.f47.body).getD .skip) = some (strip rc47) := by kernel_rfl
def rv47 : List RV := [(.tmp 0)]
theorem rvq47 : Go.Proofs.Try.f47.results.toList.mapM (resRV Go.Proofs.Try.prog) = some rv47 := by kernel_rfl

/-- What is so of a value of the one kind is so of one of the other. -/
def VLe (x' x : V) : Prop := ∀ (O : Nat → Prop) (w : World) (σ : Sg) (v : Value), VR O w σ x' v → VR O w σ x v
theorem VLe.refl (x : V) : VLe x x := fun _ _ _ _ h => h
theorem VLe.nil (e e' : Nat) : VLe (.lst e true []) (.lst e' false []) := fun O w σ v h => by
  generalize hx : V.lst e true [] = x at h
  cases h with
  | @lst _ es t' xs a cap b o cv ha hes hcap ht h1 h3 h2 =>
    cases hx
    exact .lst (xs := []) b o cv (fun h => absurd rfl h) (fun x hx => by cases hx) hcap (fun h => by cases h) (fun i c hi => absurd hi (by simp)) (fun i c hi => absurd hi (by simp)) fun i x c y hx => by simp at hx
  | _ => cases hx
inductive VLes : List V → List V → Prop
  | nil : VLes [] []
  | cons {x y : V} {xs ys : List V} (h : VLe x y) (r : VLes xs ys) : VLes (x :: xs) (y :: ys)
theorem VLes.get {xs ys : List V} (h : VLes xs ys) : xs.length = ys.length ∧ ∀ (i : Nat) y, ys[i]? = some y → ∃ x, xs[i]? = some x ∧ VLe x y := by
  induction h with
  | nil => simp
  | cons h r ih =>
    refine ⟨by simp [ih.1], fun i y hy => ?_⟩
    cases i with
    | zero => simp only [List.getElem?_cons_zero, Option.some.injEq] at hy; subst hy; exact ⟨_, rfl, h⟩
    | succ i => exact ih.2 i y (by simpa using hy)
theorem VLe.agg {xs ys : List V} (h : VLes xs ys) : VLe (.agg xs) (.agg ys) := fun O w σ v hv => by
  obtain ⟨hl, hg⟩ := h.get
  cases hv with
  | agg hn hc =>
    refine .agg (by rw [hn, hl]) fun i y u hy hu => ?_
    obtain ⟨x, hx, hxy⟩ := hg i y hy
    exact hxy _ _ _ _ (hc i x u hx hu)
theorem FnC.le {f : FuncId} {ob0 ob1 : List Sk.Obj} {args args' : List V} {res : V} (h : FnC Try.prog f ob0 args res ob1) (hv : VLes args' args) : FnC Try.prog f ob0 args' res ob1 := fun U σ w cargs hR hn ha => by
  obtain ⟨hl, hg⟩ := hv.get
  exact h U σ w cargs hR (by rw [hn, hl]) fun i v c hi hc => by
    obtain ⟨x, hx, hxy⟩ := hg i v hi
    exact hxy _ _ _ _ (ha i x c hx hc)
theorem ok50n (l : Ls) (n : Int) (hl : SmallL l) : FnC Try.prog 50 [] [.agg l.c, .int .i64 n, .lst 0 true []] (.tup [.agg (scanF l n []).1.c, .lst 1 false (rowsI (scanF l n []).2)]) [] :=
  FnC.le (ok50 l n [] false hl (by simp)) (.cons (VLe.refl _) (.cons (VLe.refl _) (.cons (VLe.nil 0 1) .nil)))
def lAt : Nat → Ls
  | 0 => zeroL
  | n + 1 => (addP (lAt n) ((n + 1 : Nat) : Int) false).1
theorem lAt_small : ∀ n, n ≤ 3 → SmallL (lAt n)
  | 0, _ => ⟨by decide, by decide, by decide⟩
  | 1, _ => ⟨by decide, by decide, by decide⟩
  | 2, _ => ⟨by decide, by decide, by decide⟩
  | 3, _ => ⟨by decide, by decide, by decide⟩
theorem lAt_err : ∀ n, n < 3 → (addP (lAt n) ((n + 1 : Nat) : Int) false).2 = 0
  | 0, _ => by decide
  | 1, _ => by decide
  | 2, _ => by decide
def lT : Ls := ⟨[], [3, 2, 1], [1]⟩
def lS : Ls := ⟨[], [1, 3, 2], []⟩
def lR : Ls := ⟨[], [1, 2], []⟩
theorem aw1 : touF (lAt 3) 1 = (lT, 0) := by kernel_rfl
theorem aw2 : scanF lT 1 [] = (lS, [2]) := by kernel_rfl
theorem aw3 : remF lS 3 = (lR, 0) := by kernel_rfl
theorem aw4 : chkL lR = true := by decide
theorem aw5 : chkL ⟨[], [], [1]⟩ = false := by decide
theorem aw6 : balF ⟨[1, 2], [], []⟩ = ⟨[1], [2], []⟩ := by kernel_rfl
theorem lT_small : SmallL lT := ⟨by decide, by decide, by decide⟩
theorem lS_small : SmallL lS := ⟨by decide, by decide, by decide⟩
theorem lR_small : SmallL lR := ⟨by decide, by decide, by decide⟩
theorem ok42c : FnC Try.prog 42 [] [.agg [.lst 0 true [], .lst 0 true [], .lst 1 false (rowsI [1])]] (.bool false) [] :=
  FnC.le (by have := ok42 ⟨[], [], [1]⟩ ⟨by decide, by decide, by decide⟩; rwa [aw5] at this) (.cons (VLe.agg (.cons (VLe.nil 0 1) (.cons (VLe.nil 0 1) (.cons (VLe.refl _) .nil)))) .nil)
theorem ok45c : FnC Try.prog 45 [] [.agg [.lst 1 false (rowsI [1, 2]), .lst 0 true [], .lst 0 true []]] (.agg (Ls.c ⟨[1], [2], []⟩)) [] :=
  FnC.le (by have := ok45 ⟨[1, 2], [], []⟩ ⟨by decide, by decide, by decide⟩; rwa [aw6] at this) (.cons (VLe.agg (.cons (VLe.refl _) (.cons (VLe.nil 0 1) (.cons (VLe.nil 0 1) .nil)))) .nil)
set_option maxRecDepth 20000 in
set_option maxHeartbeats 1000000 in
theorem ok47 : FnC Try.prog 47 [] [] (.bool true) [] := by
  refine fn_okC (ob0 := []) (rc := rc47) (rvs := rv47) Try.func47 rfl rcq47 rvq47 (show 0 ≤ _ by decide) ?_
  repeat ((conv => whnf); first | refine Cd.seq ?_ | refine Cd.cut ?_ | refine Cd.reg ?_ | refine Cd.block ?_ | refine Cd.cond ?_ | refine Cd.dreg ?_ | refine Cd.skip ?_ | refine Cd.ret ?_ | refine Cd.exit ?_ | refine Cd.loop ?_ | refine ⟨rfl, ?_⟩ | refine ⟨Nat.le_of_ble_eq_true rfl, ?_⟩ | refine ⟨.inl rfl, ?_⟩ | refine ⟨fun h => Bool.noConfusion h, ?_⟩)
  conv => whnf
  refine ⟨Nat, fun n => n ≤ 3, fun n => ⟨[(1, ⟨[], true, .ptr 0 0 0⟩), (2, ⟨[], true, .int .i64 ((n + 1 : Nat) : Int)⟩)], [(0, .box (lAt n).c)], 1⟩, fun n => 3 - n, ⟨0, by omega, ?_⟩, fun n hn => ?_⟩
  · refine viewI [some ?k77_0] rfl rfl ?h3_77 ?h4_77 ?h5_77 ?h6_77 ?h7_77
    case' h7_77 => repeat' (first | exact trivial | rfl | exact .inl rfl | exact .inr rfl | exact id | exact (fun h => Bool.noConfusion h) | refine And.intro ?_ ?_)
    case' h4_77 => rfl
    case' h6_77 => rfl
    case' h3_77 => repeat' (first | exact trivial | rfl | exact .inl rfl | exact .inr rfl | exact id | exact (fun h => Bool.noConfusion h) | refine And.intro ?_ ?_)
    case' h5_77 => repeat' (first | exact trivial | rfl | exact .inl rfl | exact .inr rfl | exact id | exact (fun h => Bool.noConfusion h) | refine And.intro ?_ ?_)
  have hn : n ≤ 3 := hn
  have hsm := lAt_small n hn
  repeat ((conv => whnf); first | refine Cd.seq ?_ | refine Cd.cut ?_ | refine Cd.reg ?_ | refine Cd.block ?_ | refine Cd.cond ?_ | refine Cd.dreg ?_ | refine Cd.skip ?_ | refine Cd.ret ?_ | refine Cd.exit ?_ | refine Cd.loop ?_ | refine ⟨rfl, ?_⟩ | refine ⟨Nat.le_of_ble_eq_true rfl, ?_⟩ | refine ⟨.inl rfl, ?_⟩ | refine ⟨fun h => Bool.noConfusion h, ?_⟩)
  conv => whnf
  refine ⟨fun h1 => ?_, fun h1 => ?_⟩ <;> try simp only [Bool.cond_true_left, Bool.cond_false_right, Bool.not_eq_true', Bool.not_eq_false', Bool.not_not] at h1
  · have h1 : n < 3 := by simp at h1; omega
    have he := lAt_err n h1
    repeat ((conv => whnf); first | refine Cd.seq ?_ | refine Cd.cut ?_ | refine Cd.reg ?_ | refine Cd.block ?_ | refine Cd.cond ?_ | refine Cd.dreg ?_ | refine Cd.skip ?_ | refine Cd.ret ?_ | refine Cd.exit ?_ | refine Cd.loop ?_ | refine ⟨rfl, ?_⟩ | refine ⟨Nat.le_of_ble_eq_true rfl, ?_⟩ | refine ⟨.inl rfl, ?_⟩ | refine ⟨fun h => Bool.noConfusion h, ?_⟩ | refine .inl ⟨_, fun _ => ⟨purA rfl, (by first | exact ok36 (lAt n) ((n + 1 : Nat) : Int) false hsm)⟩, .inl rfl, ?_⟩)
    conv => whnf
    rw [he]
    repeat ((conv => whnf); first | refine Cd.seq ?_ | refine Cd.cut ?_ | refine Cd.reg ?_ | refine Cd.block ?_ | refine Cd.cond ?_ | refine Cd.dreg ?_ | refine Cd.skip ?_ | refine Cd.ret ?_ | refine Cd.exit ?_ | refine Cd.loop ?_ | refine ⟨rfl, ?_⟩ | refine ⟨Nat.le_of_ble_eq_true rfl, ?_⟩ | refine ⟨.inl rfl, ?_⟩ | refine ⟨fun h => Bool.noConfusion h, ?_⟩ | refine ⟨?_, fun h => Bool.noConfusion h⟩ | refine fun (_ : false = false) => ?_ | refine fun (_ : true = true) => ?_)
    conv => whnf
    rw [wrapI (n := ((n + 1 : Nat) : Int) + 1) (by omega) (by omega), show (((n + 1 : Nat) : Int) + 1) = ((n + 1 + 1 : Nat) : Int) by omega]
    refine ⟨n + 1, by show n + 1 ≤ 3; omega, ?_, by show 3 - (n + 1) < 3 - n; omega⟩
    refine viewI [some 0] rfl rfl ?_ rfl ?_ rfl ?_
    repeat' (first | exact trivial | rfl | exact .inl rfl | exact .inr rfl | exact id | exact (fun h => Bool.noConfusion h) | refine And.intro ?_ ?_)
  have h1 : n = 3 := by simp at h1; omega
  subst h1
  have k1 := ok40 (lAt 3) 1 hsm
  rw [aw1] at k1
  have k2 := ok50n lT 1 lT_small
  rw [aw2] at k2
  have k3 := ok38 lS 3 lS_small
  rw [aw3] at k3
  have k4 := ok42 lR lR_small
  rw [aw4] at k4
  repeat ((conv => whnf); first | refine Cd.seq ?_ | refine Cd.cut ?_ | refine Cd.reg ?_ | refine Cd.block ?_ | refine Cd.cond ?_ | refine Cd.dreg ?_ | refine Cd.skip ?_ | refine Cd.ret ?_ | refine Cd.exit ?_ | refine Cd.loop ?_ | refine ⟨rfl, ?_⟩ | refine ⟨Nat.le_of_ble_eq_true rfl, ?_⟩ | refine ⟨.inl rfl, ?_⟩ | refine ⟨fun h => Bool.noConfusion h, ?_⟩ | refine ⟨?_, fun h => Bool.noConfusion h⟩ | refine fun (_ : false = false) => ?_ | refine fun (_ : true = true) => ?_ | refine .inl ⟨_, fun _ => ⟨purA rfl, (by first | exact k1 | exact k2 | exact k3 | exact k4)⟩, .inl rfl, ?_⟩)
  conv => whnf
  refine ⟨fun _ => ⟨rfl, by decide, by decide⟩, ?_⟩
  repeat ((conv => whnf); first | refine Cd.seq ?_ | refine Cd.cut ?_ | refine Cd.reg ?_ | refine Cd.block ?_ | refine Cd.cond ?_ | refine Cd.dreg ?_ | refine Cd.skip ?_ | refine Cd.ret ?_ | refine Cd.exit ?_ | refine Cd.loop ?_ | refine ⟨rfl, ?_⟩ | refine ⟨Nat.le_of_ble_eq_true rfl, ?_⟩ | refine ⟨.inl rfl, ?_⟩ | refine ⟨fun h => Bool.noConfusion h, ?_⟩ | refine ⟨?_, fun h => Bool.noConfusion h⟩ | refine fun (_ : false = false) => ?_ | refine fun (_ : true = true) => ?_)
  conv => whnf
  refine ⟨fun _ => ⟨rfl, by decide, by decide⟩, ?_⟩
  repeat ((conv => whnf); first | refine Cd.seq ?_ | refine Cd.cut ?_ | refine Cd.reg ?_ | refine Cd.block ?_ | refine Cd.cond ?_ | refine Cd.dreg ?_ | refine Cd.skip ?_ | refine Cd.ret ?_ | refine Cd.exit ?_ | refine Cd.loop ?_ | refine ⟨rfl, ?_⟩ | refine ⟨Nat.le_of_ble_eq_true rfl, ?_⟩ | refine ⟨.inl rfl, ?_⟩ | refine ⟨fun h => Bool.noConfusion h, ?_⟩ | refine ⟨?_, fun h => Bool.noConfusion h⟩ | refine fun (_ : false = false) => ?_ | refine fun (_ : true = true) => ?_ | refine .inl ⟨_, fun _ => ⟨purA rfl, (by first | exact k4)⟩, .inl rfl, ?_⟩)
  conv => whnf
  refine .inl ⟨.bool false, fun _ => ⟨?_, ok42c⟩, .inr rfl, ?_⟩
  · intro v hv
    have hv : v ∈ [V.agg [.lst 0 true [], .lst 0 true [], .sl 3 0 1]] := hv
    obtain rfl := List.mem_singleton.1 hv
    intro c hc
    have hc : c ∈ [V.lst 0 true [], V.lst 0 true [], V.sl 3 0 1] := hc
    simp only [List.mem_cons, List.not_mem_nil, or_false] at hc
    rcases hc with rfl | rfl | rfl
    · exact trivial
    · exact trivial
    · exact Nat.le_refl 1
  repeat ((conv => whnf); first | refine Cd.seq ?_ | refine Cd.cut ?_ | refine Cd.reg ?_ | refine Cd.block ?_ | refine Cd.cond ?_ | refine Cd.dreg ?_ | refine Cd.skip ?_ | refine Cd.ret ?_ | refine Cd.exit ?_ | refine Cd.loop ?_ | refine ⟨rfl, ?_⟩ | refine ⟨Nat.le_of_ble_eq_true rfl, ?_⟩ | refine ⟨.inl rfl, ?_⟩ | refine ⟨fun h => Bool.noConfusion h, ?_⟩ | refine ⟨?_, fun h => Bool.noConfusion h⟩ | refine fun (_ : false = false) => ?_ | refine fun (_ : true = true) => ?_)
  conv => whnf
  refine .frz ⟨fun _ => ⟨[4], _, ok45c, ⟨⟨?_, rfl⟩, trivial⟩, ?_⟩, (by intro h; cases h)⟩
  · intro c hc
    have hc : c ∈ [V.sl 4 0 2, V.lst 0 true [], V.lst 0 true []] := hc
    simp only [List.mem_cons, List.not_mem_nil, or_false] at hc
    rcases hc with rfl | rfl | rfl
    · exact Nat.le_refl 2
    · exact trivial
    · exact trivial
  repeat ((conv => whnf); first | refine Cd.seq ?_ | refine Cd.cut ?_ | refine Cd.reg ?_ | refine Cd.block ?_ | refine Cd.cond ?_ | refine Cd.dreg ?_ | refine Cd.skip ?_ | refine Cd.ret ?_ | refine Cd.exit ?_ | refine Cd.loop ?_ | refine ⟨rfl, ?_⟩ | refine ⟨Nat.le_of_ble_eq_true rfl, ?_⟩ | refine ⟨.inl rfl, ?_⟩ | refine ⟨fun h => Bool.noConfusion h, ?_⟩ | refine ⟨?_, fun h => Bool.noConfusion h⟩ | refine fun (_ : false = false) => ?_ | refine fun (_ : true = true) => ?_)
  conv => whnf
  refine ⟨[], ?_, rfl, trivial, rfl, ?_⟩
  · exact trivial
  try subst hk
  repeat' (first | exact trivial | rfl | exact .inl rfl | exact .inr rfl | exact id | exact (fun h => Bool.noConfusion h) | refine And.intro ?_ ?_)
end Go.Proofs.Ytcifhjkodbaghaa

namespace Go.Proofs.Ytcifhjkodbaghaa
open Go Go.Sk Go.RowKit

/- pagecache/pagecachelaw08.LruMoves -/
def rc9 : RC :=
  (.seq
  (.reg [⟨(some 2), none, (.mv (.c (.bool false)))⟩] [])
  (.seq
  (.reg [⟨(some 19), none, (.mv (.t 0))⟩,
    ⟨(some 20), none, (.build [(.lst 0 true []), (.int .i64 0)] [(0, (1, (.t 19)))])⟩,
    ⟨(some 21), none, (.box (.t 20))⟩,
    ⟨(some 3), none, (.mv (.t 21))⟩] [19, 20, 21])
  (.seq
  (.reg [⟨(some 22), none, (.mv (.t 3))⟩,
    ⟨(some 23), none, (.call 35 [(.t 22)])⟩,
    ⟨(some 4), none, (.alloc [(.lst 0 true []), (.lst 0 true []), (.lst 0 true [])])⟩,
    ⟨none, none, (.st 3 (.t 4) (.t 23))⟩] [22, 23])
  (.seq
  (.reg [⟨(some 24), none, (.mv (.t 3))⟩,
    ⟨(some 25), none, (.call 16 [(.t 24), (.c (.int .i64 11))])⟩,
    ⟨(some 26), none, (.bin .add (.c (.int .i64 1)) (.t 25))⟩,
    ⟨(some 5), none, (.mv (.t 26))⟩] [24, 25, 26])
  (.cut
  (.seq
  (.reg [⟨(some 27), none, (.mv (.t 3))⟩,
    ⟨(some 28), none, (.call 16 [(.t 27), (.c (.int .i64 9))])⟩,
    ⟨(some 29), none, (.bin .eql (.t 28) (.c (.int .i64 0)))⟩] [27, 28])
  (.cond (.t 29)
   (.reg [⟨(some 30), none, (.mv (.t 3))⟩,
     ⟨(some 31), none, (.call 17 [(.t 30)])⟩,
     ⟨(some 5), none, (.mv (.t 31))⟩] [30, 31])
   .skip))
  (.seq
  (.reg [⟨(some 32), none, (.mv (.t 3))⟩,
    ⟨(some 33), none, (.call 16 [(.t 32), (.c (.int .i64 2))])⟩,
    ⟨(some 34), none, (.bin .eql (.t 33) (.c (.int .i64 0)))⟩,
    ⟨(some 6), none, (.mv (.t 34))⟩] [32, 33, 34])
  (.seq
  (.reg [⟨(some 36), none, (.ld true 3 (.t 4))⟩,
    ⟨(some 37), none, (.mv (.t 5))⟩,
    ⟨(some 38), none, (.mv (.t 6))⟩,
    ⟨(some 39), none, (.call 36 [(.t 36), (.t 37), (.t 38)])⟩,
    ⟨(some 35), none, (.mv (.t 39))⟩,
    ⟨(some 40), none, (.extr 0 (.t 35))⟩,
    ⟨(some 41), none, (.extr 1 (.t 35))⟩,
    ⟨(some 7), none, (.alloc [(.lst 0 true []), (.lst 0 true []), (.lst 0 true [])])⟩,
    ⟨none, none, (.st 3 (.t 7) (.t 40))⟩,
    ⟨(some 8), none, (.mv (.t 41))⟩] [36, 37, 38, 39, 35, 40, 41])
  (.seq
  (.reg [⟨(some 43), none, (.ld true 3 (.t 4))⟩,
    ⟨(some 44), none, (.mv (.t 5))⟩,
    ⟨(some 45), none, (.mv (.t 6))⟩,
    ⟨(some 46), none, (.call 37 [(.t 43), (.t 44), (.t 45)])⟩,
    ⟨(some 42), none, (.mv (.t 46))⟩,
    ⟨(some 47), none, (.extr 0 (.t 42))⟩,
    ⟨(some 48), none, (.extr 1 (.t 42))⟩,
    ⟨(some 9), none, (.alloc [(.lst 0 true []), (.lst 0 true []), (.lst 0 true [])])⟩,
    ⟨none, none, (.st 3 (.t 9) (.t 47))⟩,
    ⟨(some 10), none, (.mv (.t 48))⟩] [43, 44, 45, 46, 42, 47, 48])
  (.seq
  (.reg [⟨(some 50), none, (.ld true 3 (.t 4))⟩,
    ⟨(some 51), none, (.mv (.t 5))⟩,
    ⟨(some 52), none, (.call 38 [(.t 50), (.t 51)])⟩,
    ⟨(some 49), none, (.mv (.t 52))⟩,
    ⟨(some 53), none, (.extr 0 (.t 49))⟩,
    ⟨(some 54), none, (.extr 1 (.t 49))⟩,
    ⟨(some 11), none, (.alloc [(.lst 0 true []), (.lst 0 true []), (.lst 0 true [])])⟩,
    ⟨none, none, (.st 3 (.t 11) (.t 53))⟩,
    ⟨(some 12), none, (.mv (.t 54))⟩] [50, 51, 52, 49, 53, 54])
  (.seq
  (.reg [⟨(some 56), none, (.ld true 3 (.t 4))⟩,
    ⟨(some 57), none, (.mv (.t 5))⟩,
    ⟨(some 58), none, (.call 39 [(.t 56), (.t 57)])⟩,
    ⟨(some 55), none, (.mv (.t 58))⟩,
    ⟨(some 59), none, (.extr 0 (.t 55))⟩,
    ⟨(some 60), none, (.extr 1 (.t 55))⟩,
    ⟨(some 13), none, (.alloc [(.lst 0 true []), (.lst 0 true []), (.lst 0 true [])])⟩,
    ⟨none, none, (.st 3 (.t 13) (.t 59))⟩,
    ⟨(some 14), none, (.mv (.t 60))⟩] [56, 57, 58, 55, 59, 60])
  (.seq
  (.reg [⟨(some 62), none, (.ld true 3 (.t 4))⟩,
    ⟨(some 63), none, (.mv (.t 5))⟩,
    ⟨(some 64), none, (.call 40 [(.t 62), (.t 63)])⟩,
    ⟨(some 61), none, (.mv (.t 64))⟩,
    ⟨(some 65), none, (.extr 0 (.t 61))⟩,
    ⟨(some 66), none, (.extr 1 (.t 61))⟩,
    ⟨(some 15), none, (.alloc [(.lst 0 true []), (.lst 0 true []), (.lst 0 true [])])⟩,
    ⟨none, none, (.st 3 (.t 15) (.t 65))⟩,
    ⟨(some 16), none, (.mv (.t 66))⟩] [62, 63, 64, 61, 65, 66])
  (.seq
  (.reg [⟨(some 68), none, (.ld true 3 (.t 4))⟩,
    ⟨(some 69), none, (.mv (.t 5))⟩,
    ⟨(some 70), none, (.call 41 [(.t 68), (.t 69)])⟩,
    ⟨(some 67), none, (.mv (.t 70))⟩,
    ⟨(some 71), none, (.extr 0 (.t 67))⟩,
    ⟨(some 72), none, (.extr 1 (.t 67))⟩,
    ⟨(some 17), none, (.alloc [(.lst 0 true []), (.lst 0 true []), (.lst 0 true [])])⟩,
    ⟨none, none, (.st 3 (.t 17) (.t 71))⟩,
    ⟨(some 18), none, (.mv (.t 72))⟩] [68, 69, 70, 67, 71, 72])
  (.seq
  (.dreg 14336 15072 [⟨(some 73), none, (.ld true 3 (.t 4))⟩,
    ⟨(some 74), none, (.call 42 [(.t 73)])⟩,
    ⟨(some 75), none, (.ld true 3 (.t 4))⟩,
    ⟨(some 76), none, (.call 43 [(.t 75)])⟩,
    ⟨(some 77), none, (.eqb false (.t 74) (.t 76))⟩,
    ⟨(some 78), none, (.mv (.t 77))⟩,
    ⟨(some 79), (some (78, true)), (.mv (.t 8))⟩,
    ⟨(some 80), (some (78, true)), (.mv (.t 10))⟩,
    ⟨(some 81), (some (78, true)), (.bin .eql (.t 79) (.t 80))⟩,
    ⟨(some 82), none, (.pick (.t 78) (.t 81) (.c (.bool false)))⟩,
    ⟨(some 83), none, (.mv (.t 82))⟩,
    ⟨(some 84), (some (83, true)), (.mv (.t 12))⟩,
    ⟨(some 85), (some (83, true)), (.mv (.t 14))⟩,
    ⟨(some 86), (some (83, true)), (.bin .eql (.t 84) (.t 85))⟩,
    ⟨(some 87), none, (.pick (.t 83) (.t 86) (.c (.bool false)))⟩,
    ⟨(some 88), none, (.mv (.t 87))⟩,
    ⟨(some 89), (some (88, true)), (.mv (.t 16))⟩,
    ⟨(some 90), (some (88, true)), (.mv (.t 18))⟩,
    ⟨(some 91), (some (88, true)), (.bin .eql (.t 89) (.t 90))⟩,
    ⟨(some 92), none, (.pick (.t 88) (.t 91) (.c (.bool false)))⟩,
    ⟨(some 93), none, (.mv (.t 92))⟩,
    ⟨(some 94), (some (93, true)), (.ld true 3 (.t 7))⟩,
    ⟨(some 95), (some (93, true)), (.ld true 3 (.t 9))⟩,
    ⟨(some 96), (some (93, true)), (.call 44 [(.t 94), (.t 95)])⟩,
    ⟨(some 97), none, (.pick (.t 93) (.t 96) (.c (.bool false)))⟩,
    ⟨(some 98), none, (.mv (.t 97))⟩,
    ⟨(some 99), (some (98, true)), (.ld true 3 (.t 11))⟩,
    ⟨(some 100), (some (98, true)), (.ld true 3 (.t 13))⟩,
    ⟨(some 101), (some (98, true)), (.call 44 [(.t 99), (.t 100)])⟩,
    ⟨(some 102), none, (.pick (.t 98) (.t 101) (.c (.bool false)))⟩,
    ⟨(some 103), none, (.mv (.t 102))⟩,
    ⟨(some 104), (some (103, true)), (.ld true 3 (.t 15))⟩,
    ⟨(some 105), (some (103, true)), (.ld true 3 (.t 17))⟩,
    ⟨(some 106), (some (103, true)), (.call 44 [(.t 104), (.t 105)])⟩,
    ⟨(some 107), none, (.pick (.t 103) (.t 106) (.c (.bool false)))⟩,
    ⟨(some 108), none, (.mv (.t 107))⟩,
    ⟨(some 109), (some (108, true)), (.ld true 3 (.t 4))⟩,
    ⟨(some 110), (some (108, true)), (.call 45 [(.t 109)])⟩,
    ⟨(some 111), (some (108, true)), (.ld true 3 (.t 4))⟩,
    ⟨(some 112), (some (108, true)), (.call 46 [(.t 111)])⟩,
    ⟨(some 113), (some (108, true)), (.call 44 [(.t 110), (.t 112)])⟩,
    ⟨(some 114), none, (.pick (.t 108) (.t 113) (.c (.bool false)))⟩,
    ⟨(some 115), none, (.mv (.t 114))⟩,
    ⟨(some 116), (some (115, true)), (.call 47 [])⟩,
    ⟨(some 117), none, (.pick (.t 115) (.t 116) (.c (.bool false)))⟩,
    ⟨(some 2), none, (.mv (.t 117))⟩] [73, 74, 75, 76, 77, 78, 79, 80, 81, 82, 83, 84, 85, 86, 87, 88, 89, 90, 91, 92, 93, 94, 95, 96, 97, 98, 99, 100, 101, 102, 103, 104, 105, 106, 107, 108, 109, 110, 111, 112, 113, 114, 115, 116, 117] [[], [0], [], [2, 1, 0], [3, 0, 1, 2], [4, 3, 0, 1, 2], [5, 2, 1, 0, 3, 4], [5, 2, 1, 0, 3, 4], [6, 7, 5, 2, 1, 0, 3, 4], [8, 4, 3, 0, 1, 2, 5, 7, 6], [9, 6, 7, 8, 5, 2, 1, 0, 3, 4], [10, 4, 3, 0, 1, 2, 5, 8, 7, 6, 9], [10, 4, 3, 0, 1, 2, 5, 8, 7, 6, 9], [11, 12, 10, 4, 3, 0, 1, 2, 5, 8, 7, 6, 9], [13, 9, 6, 7, 8, 5, 2, 1, 0, 3, 4, 10, 12, 11], [14, 11, 12, 13, 10, 4, 3, 0, 1, 2, 5, 8, 7, 6, 9], [15, 9, 6, 7, 8, 5, 2, 1, 0, 3, 4, 10, 13, 12, 11, 14], [15, 9, 6, 7, 8, 5, 2, 1, 0, 3, 4, 10, 13, 12, 11, 14], [16, 17, 15, 9, 6, 7, 8, 5, 2, 1, 0, 3, 4, 10, 13, 12, 11, 14], [18, 14, 11, 12, 13, 10, 4, 3, 0, 1, 2, 5, 8, 7, 6, 9, 15, 17, 16], [19, 16, 17, 18, 15, 9, 6, 7, 8, 5, 2, 1, 0, 3, 4, 10, 13, 12, 11, 14], [20, 14, 11, 12, 13, 10, 4, 3, 0, 1, 2, 5, 8, 7, 6, 9, 15, 18, 17, 16, 19], [20, 14, 11, 12, 13, 10, 4, 3, 0, 1, 2, 5, 8, 7, 6, 9, 15, 18, 17, 16, 19], [21, 22, 20, 14, 11, 12, 13, 10, 4, 3, 0, 1, 2, 5, 8, 7, 6, 9, 15, 18, 17, 16, 19], [23, 19, 16, 17, 18, 15, 9, 6, 7, 8, 5, 2, 1, 0, 3, 4, 10, 13, 12, 11, 14, 20, 22, 21], [24, 23, 19, 16, 17, 18, 15, 9, 6, 7, 8, 5, 2, 1, 0, 3, 4, 10, 13, 12, 11, 14, 20, 22, 21], [25, 21, 22, 20, 14, 11, 12, 13, 10, 4, 3, 0, 1, 2, 5, 8, 7, 6, 9, 15, 18, 17, 16, 19, 23, 24], [25, 21, 22, 20, 14, 11, 12, 13, 10, 4, 3, 0, 1, 2, 5, 8, 7, 6, 9, 15, 18, 17, 16, 19, 23, 24], [26, 27, 25, 21, 22, 20, 14, 11, 12, 13, 10, 4, 3, 0, 1, 2, 5, 8, 7, 6, 9, 15, 18, 17, 16, 19, 23, 24], [28, 24, 23, 19, 16, 17, 18, 15, 9, 6, 7, 8, 5, 2, 1, 0, 3, 4, 10, 13, 12, 11, 14, 20, 22, 21, 25, 27, 26], [29, 28, 24, 23, 19, 16, 17, 18, 15, 9, 6, 7, 8, 5, 2, 1, 0, 3, 4, 10, 13, 12, 11, 14, 20, 22, 21, 25, 27, 26], [30, 26, 27, 25, 21, 22, 20, 14, 11, 12, 13, 10, 4, 3, 0, 1, 2, 5, 8, 7, 6, 9, 15, 18, 17, 16, 19, 23, 24, 28, 29], [30, 26, 27, 25, 21, 22, 20, 14, 11, 12, 13, 10, 4, 3, 0, 1, 2, 5, 8, 7, 6, 9, 15, 18, 17, 16, 19, 23, 24, 28, 29], [31, 32, 30, 26, 27, 25, 21, 22, 20, 14, 11, 12, 13, 10, 4, 3, 0, 1, 2, 5, 8, 7, 6, 9, 15, 18, 17, 16, 19, 23, 24, 28, 29], [33, 29, 28, 24, 23, 19, 16, 17, 18, 15, 9, 6, 7, 8, 5, 2, 1, 0, 3, 4, 10, 13, 12, 11, 14, 20, 22, 21, 25, 27, 26, 30, 32, 31], [34, 33, 29, 28, 24, 23, 19, 16, 17, 18, 15, 9, 6, 7, 8, 5, 2, 1, 0, 3, 4, 10, 13, 12, 11, 14, 20, 22, 21, 25, 27, 26, 30, 32, 31], [35, 31, 32, 30, 26, 27, 25, 21, 22, 20, 14, 11, 12, 13, 10, 4, 3, 0, 1, 2, 5, 8, 7, 6, 9, 15, 18, 17, 16, 19, 23, 24, 28, 29, 33, 34], [36, 35, 31, 32, 30, 26, 27, 25, 21, 22, 20, 14, 11, 12, 13, 10, 4, 3, 0, 1, 2, 5, 8, 7, 6, 9, 15, 18, 17, 16, 19, 23, 24, 28, 29, 33, 34], [35, 31, 32, 30, 26, 27, 25, 21, 22, 20, 14, 11, 12, 13, 10, 4, 3, 0, 1, 2, 5, 8, 7, 6, 9, 15, 18, 17, 16, 19, 23, 24, 28, 29, 33, 34], [38, 37, 36, 35, 31, 32, 30, 26, 27, 25, 21, 22, 20, 14, 11, 12, 13, 10, 4, 3, 0, 1, 2, 5, 8, 7, 6, 9, 15, 18, 17, 16, 19, 23, 24, 28, 29, 33, 34], [39, 36, 37, 38, 35, 31, 32, 30, 26, 27, 25, 21, 22, 20, 14, 11, 12, 13, 10, 4, 3, 0, 1, 2, 5, 8, 7, 6, 9, 15, 18, 17, 16, 19, 23, 24, 28, 29, 33, 34], [40, 34, 33, 29, 28, 24, 23, 19, 16, 17, 18, 15, 9, 6, 7, 8, 5, 2, 1, 0, 3, 4, 10, 13, 12, 11, 14, 20, 22, 21, 25, 27, 26, 30, 32, 31, 35, 38, 37, 36, 39], [41, 40, 34, 33, 29, 28, 24, 23, 19, 16, 17, 18, 15, 9, 6, 7, 8, 5, 2, 1, 0, 3, 4, 10, 13, 12, 11, 14, 20, 22, 21, 25, 27, 26, 30, 32, 31, 35, 38, 37, 36, 39], [42, 39, 36, 37, 38, 35, 31, 32, 30, 26, 27, 25, 21, 22, 20, 14, 11, 12, 13, 10, 4, 3, 0, 1, 2, 5, 8, 7, 6, 9, 15, 18, 17, 16, 19, 23, 24, 28, 29, 33, 34, 40, 41], [43, 41, 40, 34, 33, 29, 28, 24, 23, 19, 16, 17, 18, 15, 9, 6, 7, 8, 5, 2, 1, 0, 3, 4, 10, 13, 12, 11, 14, 20, 22, 21, 25, 27, 26, 30, 32, 31, 35, 38, 37, 36, 39, 42], [44, 42, 39, 36, 37, 38, 35, 31, 32, 30, 26, 27, 25, 21, 22, 20, 14, 11, 12, 13, 10, 4, 3, 0, 1, 2, 5, 8, 7, 6, 9, 15, 18, 17, 16, 19, 23, 24, 28, 29, 33, 34, 40, 41, 43]] [14336, 14352, 14368, 14384, 14400, 14416, 14432, 14448, 14464, 14480, 14496, 14512, 14528, 14544, 14560, 14576, 14592, 14608, 14624, 14640, 14656, 14672, 14688, 14704, 14720, 14736, 14752, 14768, 14784, 14800, 14816, 14832, 14848, 14864, 14880, 14896, 14912, 14928, 14944, 14960, 14976, 14992, 15008, 15024, 15040, 15056])
  .ret)))))))))))))
theorem rcq9 : resC Go.Proofs.Try.prog Go.Proofs.Try.f9.ntmps ((Go.Proofs.Try.f9.body).getD .skip) = some (strip rc9) := by kernel_rfl
def rv9 : List RV := [(.tmp 2)]
theorem rvq9 : Go.Proofs.Try.f9.results.toList.mapM (resRV Go.Proofs.Try.prog) = some rv9 := by kernel_rfl

/- pagecache/pagecachelaw08.LruScans -/
def rc10 : RC :=
  (.seq
  (.reg [⟨(some 4), none, (.mv (.c (.bool false)))⟩] [])
  (.seq
  (.reg [⟨(some 13), none, (.mv (.t 0))⟩,
    ⟨(some 14), none, (.build [(.lst 0 true []), (.int .i64 0)] [(0, (1, (.t 13)))])⟩,
    ⟨(some 15), none, (.box (.t 14))⟩,
    ⟨(some 5), none, (.mv (.t 15))⟩] [13, 14, 15])
  (.seq
  (.reg [⟨(some 16), none, (.mv (.t 5))⟩,
    ⟨(some 17), none, (.call 35 [(.t 16)])⟩,
    ⟨(some 6), none, (.alloc [(.lst 0 true []), (.lst 0 true []), (.lst 0 true [])])⟩,
    ⟨none, none, (.st 3 (.t 6) (.t 17))⟩] [16, 17])
  (.seq
  (.reg [⟨(some 18), none, (.mv (.t 5))⟩,
    ⟨(some 19), none, (.call 48 [(.t 18), (.c (.int .i64 4)), (.c (.int .i64 1)), (.c (.int .i64 10))])⟩,
    ⟨(some 7), none, (.mv (.t 19))⟩] [18, 19])
  (.seq
  (.reg [⟨(some 20), none, (.mv (.t 1))⟩,
    ⟨(some 21), none, (.call 49 [(.t 20), (.c (.int .i64 12))])⟩,
    ⟨(some 22), none, (.bin .sub (.t 21) (.c (.int .i64 1)))⟩,
    ⟨(some 8), none, (.mv (.t 22))⟩] [20, 21, 22])
  (.seq
  (.reg [⟨(some 24), none, (.ld true 3 (.t 6))⟩,
    ⟨(some 25), none, (.mv (.t 8))⟩,
    ⟨(some 26), none, (.mv (.t 7))⟩,
    ⟨(some 27), none, (.call 50 [(.t 24), (.t 25), (.t 26)])⟩,
    ⟨(some 23), none, (.mv (.t 27))⟩,
    ⟨(some 28), none, (.extr 0 (.t 23))⟩,
    ⟨(some 29), none, (.extr 1 (.t 23))⟩,
    ⟨(some 9), none, (.alloc [(.lst 0 true []), (.lst 0 true []), (.lst 0 true [])])⟩,
    ⟨none, none, (.st 3 (.t 9) (.t 28))⟩,
    ⟨(some 10), none, (.mv (.t 29))⟩] [24, 25, 26, 27, 23, 28, 29])
  (.seq
  (.reg [⟨(some 31), none, (.ld true 3 (.t 6))⟩,
    ⟨(some 32), none, (.mv (.t 8))⟩,
    ⟨(some 33), none, (.mv (.t 7))⟩,
    ⟨(some 34), none, (.call 51 [(.t 31), (.t 32), (.t 33)])⟩,
    ⟨(some 30), none, (.mv (.t 34))⟩,
    ⟨(some 35), none, (.extr 0 (.t 30))⟩,
    ⟨(some 36), none, (.extr 1 (.t 30))⟩,
    ⟨(some 11), none, (.alloc [(.lst 0 true []), (.lst 0 true []), (.lst 0 true [])])⟩,
    ⟨none, none, (.st 3 (.t 11) (.t 35))⟩,
    ⟨(some 12), none, (.mv (.t 36))⟩] [31, 32, 33, 34, 30, 35, 36])
  (.seq
  (.reg [⟨(some 37), none, (.ld true 3 (.t 9))⟩,
    ⟨(some 38), none, (.ld true 3 (.t 11))⟩,
    ⟨(some 39), none, (.call 44 [(.t 37), (.t 38)])⟩,
    ⟨(some 40), none, (.mv (.t 39))⟩,
    ⟨(some 41), (some (40, true)), (.mv (.t 10))⟩,
    ⟨(some 42), (some (40, true)), (.mv (.t 12))⟩,
    ⟨(some 43), (some (40, true)), (.call 52 [(.t 41), (.t 42)])⟩,
    ⟨(some 44), none, (.pick (.t 40) (.t 43) (.c (.bool false)))⟩,
    ⟨(some 45), none, (.mv (.t 44))⟩,
    ⟨(some 46), (some (45, true)), (.call 47 [])⟩,
    ⟨(some 47), none, (.pick (.t 45) (.t 46) (.c (.bool false)))⟩,
    ⟨(some 4), none, (.mv (.t 47))⟩] [37, 38, 39, 40, 41, 42, 43, 44, 45, 46, 47])
  .ret))))))))
theorem rcq10 : resC Go.Proofs.Try.prog Go.Proofs.Try.f10.ntmps ((Go.Proofs.Try.f10.body).getD .skip) = some (strip rc10) := by kernel_rfl
def rv10 : List RV := [(.tmp 4)]
theorem rvq10 : Go.Proofs.Try.f10.results.toList.mapM (resRV Go.Proofs.Try.prog) = some rv10 := by kernel_rfl

theorem addP_eq' (l : Ls) (f : Int) (act : Bool) : addP l f act = addF l f act := by
  by_cases h : chkL l = true
  · exact addP_eq ((chk_iff' l).1 h) f act
  · rw [addP, addF, addG, addG, show chkL l = false by simpa using h]; rfl
theorem addF_small {l : Ls} (hl : SmallL l) (f : Int) (act : Bool) : SmallL (addF l f act).1 := by
  by_cases h : chkL l = true
  · exact (((chk_iff' l).1 h).add f act).small
  · rw [addF, addG, show chkL l = false by simpa using h]; exact hl
theorem remF_small {l : Ls} (hl : SmallL l) (f : Int) : SmallL (remF l f).1 := by
  by_cases h : chkL l = true
  · exact (((chk_iff' l).1 h).rem f).small
  · rw [remF, show chkL l = false by simpa using h]; exact hl
theorem touF_small {l : Ls} (hl : SmallL l) (f : Int) : SmallL (touF l f).1 := by
  by_cases h : chkL l = true
  · exact (((chk_iff' l).1 h).tou f).1.small
  · rw [touF, show chkL l = false by simpa using h]; exact hl
theorem ChkP.balN {l : Ls} (h : ChkP l) : ∀ n, ChkP (balN n l) ∧ ((Ytcifhjkodbaghaa.balN n l).A ++ (Ytcifhjkodbaghaa.balN n l).I).Perm (l.A ++ l.I) := fun n => by
  induction n generalizing l with
  | zero => exact ⟨h, List.Perm.refl _⟩
  | succ n ih =>
    rw [Ytcifhjkodbaghaa.balN]
    by_cases hc : (l.A.length : Int) ≤ l.I.length
    · rw [show decide ((l.A.length : Int) ≤ l.I.length) = true by simpa using hc]; exact ⟨h, List.Perm.refl _⟩
    · rw [show decide ((l.A.length : Int) ≤ l.I.length) = false by simpa using hc]
      have h0 : 0 < l.A.length := by omega
      have := ih (h.bal h0)
      exact ⟨this.1, this.2.trans (balS_perm h0)⟩
theorem ChkP.balF {l : Ls} (h : ChkP l) : ChkP (balF l) ∧ ((Ytcifhjkodbaghaa.balF l).A ++ (Ytcifhjkodbaghaa.balF l).I).Perm (l.A ++ l.I) := by
  rw [Ytcifhjkodbaghaa.balF, (chk_iff' l).2 h]
  exact h.balN _
theorem balF_small {l : Ls} (hl : SmallL l) : SmallL (balF l) := by
  by_cases h : chkL l = true
  · exact ((chk_iff' l).1 h).balF.1.small
  · rw [balF, show chkL l = false by simpa using h]; exact hl
/-- What a scan keeps. -/
structure ScK (l : Ls) (s : ScS) : Prop where
  perm : s.I.Perm l.I
  asc : s.R.Pairwise (· < ·)
  sub : ∀ x ∈ s.R, x ∈ l.R
theorem ScK.next {l : Ls} (h : ChkP l) {s : ScS} (k : ScK l s) (held : List Int) {f : Int} (hf : f ∈ l.I) : ScK l (scanS l.R held s f) := by
  unfold scanS
  cases decide (f ∈ held) with
  | true => exact k
  | false =>
    cases decide (f ∈ l.R) with
    | true =>
      have hnd := k.perm.nodup_iff.2 (List.nodup_append.1 h.nodup).2.1
      have hfm := k.perm.mem_iff.2 hf
      refine ⟨?_, wo_asc k.asc f, fun x hx => k.sub x (mem_wo.1 hx).1⟩
      show (f :: wo s.I f).Perm l.I
      rw [show wo s.I f = s.I.erase f from (List.Nodup.erase_eq_filter hnd f).symm]
      exact (List.perm_cons_erase hfm).symm.trans k.perm
    | false => exact ⟨k.perm, k.asc, k.sub⟩
theorem ScK.scan {l : Ls} (h : ChkP l) (held : List Int) (n : Int) : ∀ (r : List Int) (s : ScS), (∀ x ∈ r, x ∈ l.I) → ScK l s → ScK l (scanG l.R held n r s)
  | [], _, _, k => k
  | f :: r, s, hr, k => by
    rw [scanG]
    cases decide ((s.v.length : Int) < n) with
    | true => exact ScK.scan h held n r _ (fun x hx => hr x (by simp [hx])) (k.next h held (hr f (by simp)))
    | false => exact k
theorem ScK.start {l : Ls} (h : ChkP l) : ScK l ⟨l.I, l.R, []⟩ := ⟨List.Perm.refl _, h.asc, fun x hx => hx⟩
theorem ChkP.scan {l : Ls} (h : ChkP l) (n : Int) (held : List Int) : ChkP (scanF l n held).1 ∧ ((scanF l n held).1.A ++ (scanF l n held).1.I).Perm (l.A ++ l.I) := by
  have k := ScK.scan h held n l.I.reverse _ (fun x hx => List.mem_reverse.1 hx) (ScK.start h)
  rw [scanF, (chk_iff' l).2 h]
  simp only [Bool.not_true, cond_false]
  generalize scanG l.R held n l.I.reverse ⟨l.I, l.R, []⟩ = s at k ⊢
  have hp : (l.A ++ s.I).Perm (l.A ++ l.I) := List.Perm.append_left _ k.perm
  exact ⟨h.of_perm hp k.asc fun x hx => h.sub x (k.sub x hx), hp⟩
theorem scanF_small {l : Ls} (hl : SmallL l) (n : Int) (held : List Int) : SmallL (scanF l n held).1 := by
  by_cases h : chkL l = true
  · exact (((chk_iff' l).1 h).scan n held).1.small
  · rw [scanF, show chkL l = false by simpa using h]; exact hl
theorem scanG_vlen (R0 held : List Int) (n : Int) : ∀ (r : List Int) (s : ScS), (scanG R0 held n r s).v.length ≤ s.v.length + r.length
  | [], s => Nat.le_refl _
  | f :: r, s => by
    rw [scanG]
    cases decide ((s.v.length : Int) < n) with
    | false => simp
    | true =>
      have := scanG_vlen R0 held n r (scanS R0 held s f)
      have h2 : (scanS R0 held s f).v.length ≤ s.v.length + 1 := by
        unfold scanS
        cases decide (f ∈ held) <;> cases decide (f ∈ R0) <;> simp
      simp only [cond_true, List.length_cons]
      omega
theorem scanF_vlen {l : Ls} (hl : SmallL l) (n : Int) (held : List Int) : (scanF l n held).2.length ≤ 10000 := by
  have := hl.i
  rw [scanF]
  cases !chkL l with
  | true => simp
  | false =>
    have h := scanG_vlen l.R held n l.I.reverse ⟨l.I, l.R, []⟩
    simp only [List.length_nil, Nat.zero_add, List.length_reverse] at h
    simp only [cond_false]; omega
theorem sameL_refl (a : Ls) : sameL a a = true := by simp [sameL]
set_option maxRecDepth 20000 in
set_option maxHeartbeats 1000000 in
theorem ok9 (L : List Int) (hL : (L.length : Int) < 2 ^ 62) : FnC Try.prog 9 [] [.lst 1 false (rowsI L)] (.bool true) [] := by
  refine fn_okC (ob0 := []) (rc := rc9) (rvs := rv9) Try.func9 rfl rcq9 rvq9 (show 1 ≤ _ by decide) ?_
  obtain ⟨b1, b2⟩ := drF_ok L 0 (by omega)
  repeat ((conv => whnf); first | refine Cd.seq ?_ | refine Cd.cut ?_ | refine Cd.reg ?_ | refine Cd.block ?_ | refine Cd.cond ?_ | refine Cd.dreg ?_ | refine Cd.skip ?_ | refine Cd.ret ?_ | refine Cd.exit ?_ | refine Cd.loop ?_ | refine ⟨rfl, ?_⟩ | refine ⟨Nat.le_of_ble_eq_true rfl, ?_⟩ | refine ⟨.inl rfl, ?_⟩ | refine ⟨fun h => Bool.noConfusion h, ?_⟩ | refine .inr ⟨fun _ => ⟨[0], _, _, _, ok16n L _ _ hL (by omega) (by omega) (by omega), ⟨rfl, rfl, trivial⟩, rfl, rfl, rfl, rfl, ?_⟩, (by intro h; cases h)⟩ | refine .inr ⟨fun _ => ⟨[0], _, _, _, ok35 L _ hL (by omega), ⟨rfl, rfl, trivial⟩, rfl, rfl, rfl, rfl, ?_⟩, (by intro h; cases h)⟩ | refine .inr ⟨fun _ => ⟨[0], _, _, _, ok17 L _ hL (by omega), ⟨rfl, rfl, trivial⟩, rfl, rfl, rfl, rfl, ?_⟩, (by intro h; cases h)⟩)
  conv => whnf
  refine .inr ⟨fun _ => ⟨[0], _, _, _, ok35 L 0 hL (by omega), ⟨rfl, rfl, trivial⟩, rfl, rfl, rfl, rfl, ?_⟩, (by intro h; cases h)⟩
  revert b1 b2
  generalize (drF L 0).1 = x
  generalize (drF L 0).2 = J
  intro b1 b2
  have hJ1 := nxI_in L J b2
  have hJ2 := nxI_in L _ hJ1
  have hJ3 := nxI_in L _ hJ2
  repeat ((conv => whnf); first | refine Cd.seq ?_ | refine Cd.cut ?_ | refine Cd.reg ?_ | refine Cd.block ?_ | refine Cd.cond ?_ | refine Cd.dreg ?_ | refine Cd.skip ?_ | refine Cd.ret ?_ | refine Cd.exit ?_ | refine Cd.loop ?_ | refine ⟨rfl, ?_⟩ | refine ⟨Nat.le_of_ble_eq_true rfl, ?_⟩ | refine ⟨.inl rfl, ?_⟩ | refine ⟨fun h => Bool.noConfusion h, ?_⟩ | refine .inr ⟨fun _ => ⟨[0], _, _, _, ok16n L _ _ hL (by omega) (by omega) (by omega), ⟨rfl, rfl, trivial⟩, rfl, rfl, rfl, rfl, ?_⟩, (by intro h; cases h)⟩ | refine .inr ⟨fun _ => ⟨[0], _, _, _, ok35 L _ hL (by omega), ⟨rfl, rfl, trivial⟩, rfl, rfl, rfl, rfl, ?_⟩, (by intro h; cases h)⟩ | refine .inr ⟨fun _ => ⟨[0], _, _, _, ok17 L _ hL (by omega), ⟨rfl, rfl, trivial⟩, rfl, rfl, rfl, rfl, ?_⟩, (by intro h; cases h)⟩)
  conv => whnf
  refine ⟨Int × Nat, fun p => p.2 ≤ L.length, fun p => ⟨[(3, ⟨[], true, .ptr 0 0 0⟩), (4, ⟨[], true, .ptr 1 0 0⟩), (5, ⟨[], true, .int .i64 p.1⟩)], [(0, tpO L p.2), (1, .box x.c)], 2⟩, ?_, fun p hp => ?_⟩
  · repeat ((conv => whnf); first | refine Cd.seq ?_ | refine Cd.cut ?_ | refine Cd.reg ?_ | refine Cd.block ?_ | refine Cd.cond ?_ | refine Cd.dreg ?_ | refine Cd.skip ?_ | refine Cd.ret ?_ | refine Cd.exit ?_ | refine Cd.loop ?_ | refine ⟨rfl, ?_⟩ | refine ⟨Nat.le_of_ble_eq_true rfl, ?_⟩ | refine ⟨.inl rfl, ?_⟩ | refine ⟨fun h => Bool.noConfusion h, ?_⟩ | refine .inr ⟨fun _ => ⟨[0], _, _, _, ok16n L _ _ hL (by omega) (by omega) (by omega), ⟨rfl, rfl, trivial⟩, rfl, rfl, rfl, rfl, ?_⟩, (by intro h; cases h)⟩ | refine .inr ⟨fun _ => ⟨[0], _, _, _, ok35 L _ hL (by omega), ⟨rfl, rfl, trivial⟩, rfl, rfl, rfl, rfl, ?_⟩, (by intro h; cases h)⟩ | refine .inr ⟨fun _ => ⟨[0], _, _, _, ok17 L _ hL (by omega), ⟨rfl, rfl, trivial⟩, rfl, rfl, rfl, rfl, ?_⟩, (by intro h; cases h)⟩)
    conv => whnf
    refine ⟨fun h1 => ?_, fun h1 => ?_⟩ <;> try simp only [Bool.cond_true_left, Bool.cond_false_right, Bool.not_eq_true', Bool.not_eq_false', Bool.not_not] at h1
    · repeat ((conv => whnf); first | refine Cd.seq ?_ | refine Cd.cut ?_ | refine Cd.reg ?_ | refine Cd.block ?_ | refine Cd.cond ?_ | refine Cd.dreg ?_ | refine Cd.skip ?_ | refine Cd.ret ?_ | refine Cd.exit ?_ | refine Cd.loop ?_ | refine ⟨rfl, ?_⟩ | refine ⟨Nat.le_of_ble_eq_true rfl, ?_⟩ | refine ⟨.inl rfl, ?_⟩ | refine ⟨fun h => Bool.noConfusion h, ?_⟩ | refine .inr ⟨fun _ => ⟨[0], _, _, _, ok16n L _ _ hL (by omega) (by omega) (by omega), ⟨rfl, rfl, trivial⟩, rfl, rfl, rfl, rfl, ?_⟩, (by intro h; cases h)⟩ | refine .inr ⟨fun _ => ⟨[0], _, _, _, ok35 L _ hL (by omega), ⟨rfl, rfl, trivial⟩, rfl, rfl, rfl, rfl, ?_⟩, (by intro h; cases h)⟩ | refine .inr ⟨fun _ => ⟨[0], _, _, _, ok17 L _ hL (by omega), ⟨rfl, rfl, trivial⟩, rfl, rfl, rfl, rfl, ?_⟩, (by intro h; cases h)⟩)
      conv => whnf
      refine ⟨(oddF L (nxI L (nxI L J)), nxI L (nxI L (nxI L J))), hJ3, ?_⟩
      refine viewI [some 0, some 17] rfl rfl ?_ rfl ?_ rfl ?_
      repeat' (first | exact trivial | rfl | exact .inl rfl | exact .inr rfl | exact id | exact (fun h => Bool.noConfusion h) | refine And.intro ?_ ?_)
    repeat ((conv => whnf); first | refine Cd.seq ?_ | refine Cd.cut ?_ | refine Cd.reg ?_ | refine Cd.block ?_ | refine Cd.cond ?_ | refine Cd.dreg ?_ | refine Cd.skip ?_ | refine Cd.ret ?_ | refine Cd.exit ?_ | refine Cd.loop ?_ | refine ⟨rfl, ?_⟩ | refine ⟨Nat.le_of_ble_eq_true rfl, ?_⟩ | refine ⟨.inl rfl, ?_⟩ | refine ⟨fun h => Bool.noConfusion h, ?_⟩ | refine .inr ⟨fun _ => ⟨[0], _, _, _, ok16n L _ _ hL (by omega) (by omega) (by omega), ⟨rfl, rfl, trivial⟩, rfl, rfl, rfl, rfl, ?_⟩, (by intro h; cases h)⟩ | refine .inr ⟨fun _ => ⟨[0], _, _, _, ok35 L _ hL (by omega), ⟨rfl, rfl, trivial⟩, rfl, rfl, rfl, rfl, ?_⟩, (by intro h; cases h)⟩ | refine .inr ⟨fun _ => ⟨[0], _, _, _, ok17 L _ hL (by omega), ⟨rfl, rfl, trivial⟩, rfl, rfl, rfl, rfl, ?_⟩, (by intro h; cases h)⟩)
    conv => whnf
    refine ⟨(IntKind.i64.wrap (1 + nxV L J 11), nxI L (nxI L J)), hJ2, ?_⟩
    refine viewI [some 0, some 17] rfl rfl ?_ rfl ?_ rfl ?_
    repeat' (first | exact trivial | rfl | exact .inl rfl | exact .inr rfl | exact id | exact (fun h => Bool.noConfusion h) | refine And.intro ?_ ?_)
  obtain ⟨f, J'⟩ := p
  have hp : J' ≤ L.length := hp
  have hJ4 := nxI_in L J' hp
  dsimp only
  repeat ((conv => whnf); first | refine Cd.seq ?_ | refine Cd.cut ?_ | refine Cd.reg ?_ | refine Cd.block ?_ | refine Cd.cond ?_ | refine Cd.dreg ?_ | refine Cd.skip ?_ | refine Cd.ret ?_ | refine Cd.exit ?_ | refine Cd.loop ?_ | refine ⟨rfl, ?_⟩ | refine ⟨Nat.le_of_ble_eq_true rfl, ?_⟩ | refine ⟨.inl rfl, ?_⟩ | refine ⟨fun h => Bool.noConfusion h, ?_⟩ | refine .inr ⟨fun _ => ⟨[0], _, _, _, ok16n L _ _ hL (by omega) (by omega) (by omega), ⟨rfl, rfl, trivial⟩, rfl, rfl, rfl, rfl, ?_⟩, (by intro h; cases h)⟩ | refine .inr ⟨fun _ => ⟨[0], _, _, _, ok35 L _ hL (by omega), ⟨rfl, rfl, trivial⟩, rfl, rfl, rfl, rfl, ?_⟩, (by intro h; cases h)⟩ | refine .inr ⟨fun _ => ⟨[0], _, _, _, ok17 L _ hL (by omega), ⟨rfl, rfl, trivial⟩, rfl, rfl, rfl, rfl, ?_⟩, (by intro h; cases h)⟩)
  conv => whnf
  generalize (nxV L J' 2 == 0) = act
  have s1 := addF_small b1 f act
  have s2 := remF_small b1 f
  have s3 := touF_small b1 f
  have s4 := balF_small b1
  repeat ((conv => whnf); first | refine Cd.seq ?_ | refine Cd.cut ?_ | refine Cd.reg ?_ | refine Cd.block ?_ | refine Cd.cond ?_ | refine Cd.dreg ?_ | refine Cd.skip ?_ | refine Cd.ret ?_ | refine Cd.exit ?_ | refine Cd.loop ?_ | refine ⟨rfl, ?_⟩ | refine ⟨Nat.le_of_ble_eq_true rfl, ?_⟩ | refine ⟨.inl rfl, ?_⟩ | refine ⟨fun h => Bool.noConfusion h, ?_⟩ | refine .inl ⟨_, fun _ => ⟨purA rfl, (by first | exact ok36 x f act b1)⟩, .inl rfl, ?_⟩ | refine .inr ⟨fun _ => ⟨[0], _, _, _, ok16n L _ _ hL (by omega) (by omega) (by omega), ⟨rfl, rfl, trivial⟩, rfl, rfl, rfl, rfl, ?_⟩, (by intro h; cases h)⟩ | refine .inr ⟨fun _ => ⟨[0], _, _, _, ok35 L _ hL (by omega), ⟨rfl, rfl, trivial⟩, rfl, rfl, rfl, rfl, ?_⟩, (by intro h; cases h)⟩ | refine .inr ⟨fun _ => ⟨[0], _, _, _, ok17 L _ hL (by omega), ⟨rfl, rfl, trivial⟩, rfl, rfl, rfl, rfl, ?_⟩, (by intro h; cases h)⟩)
  conv => whnf
  rw [addP_eq']
  repeat ((conv => whnf); first | refine Cd.seq ?_ | refine Cd.cut ?_ | refine Cd.reg ?_ | refine Cd.block ?_ | refine Cd.cond ?_ | refine Cd.dreg ?_ | refine Cd.skip ?_ | refine Cd.ret ?_ | refine Cd.exit ?_ | refine Cd.loop ?_ | refine ⟨rfl, ?_⟩ | refine ⟨Nat.le_of_ble_eq_true rfl, ?_⟩ | refine ⟨.inl rfl, ?_⟩ | refine ⟨fun h => Bool.noConfusion h, ?_⟩ | refine .inl ⟨_, fun _ => ⟨purA rfl, (by first | exact ok37 x f act b1 | exact ok38 x f b1 | exact ok39 x f b1 | exact ok40 x f b1 | exact ok41 x f b1 | exact ok42 x b1 | exact ok43 x b1 | exact ok44 _ _ s1 s1 | exact ok44 _ _ s2 s2 | exact ok44 _ _ s3 s3 | exact ok44 _ _ s4 s4 | exact ok45 x b1 | exact ok46 x b1 | exact ok47)⟩, .inl rfl, ?_⟩ | refine .inr ⟨fun _ => ⟨[0], _, _, _, ok16n L _ _ hL (by omega) (by omega) (by omega), ⟨rfl, rfl, trivial⟩, rfl, rfl, rfl, rfl, ?_⟩, (by intro h; cases h)⟩ | refine .inr ⟨fun _ => ⟨[0], _, _, _, ok35 L _ hL (by omega), ⟨rfl, rfl, trivial⟩, rfl, rfl, rfl, rfl, ?_⟩, (by intro h; cases h)⟩ | refine .inr ⟨fun _ => ⟨[0], _, _, _, ok17 L _ hL (by omega), ⟨rfl, rfl, trivial⟩, rfl, rfl, rfl, rfl, ?_⟩, (by intro h; cases h)⟩)
  conv => whnf
  rw [sameL_refl, sameL_refl, sameL_refl, sameL_refl]
  refine ⟨[], ?_, rfl, trivial, rfl, ?_⟩
  · exact trivial
  try subst hk
  simp only [beq_self_eq_true, cond_true, cond_false, Bool.not_true, Bool.not_false]
  repeat' (first | exact trivial | rfl | exact .inl rfl | exact .inr rfl | exact id | exact (fun h => Bool.noConfusion h) | refine And.intro ?_ ?_)
set_option maxRecDepth 20000 in
set_option maxHeartbeats 1000000 in
theorem ok10 (L : List Int) (n : Int) (hL : (L.length : Int) < 2 ^ 62) : FnC Try.prog 10 [] [.lst 1 false (rowsI L), .int .i64 n] (.bool true) [] := by
  refine fn_okC (ob0 := []) (rc := rc10) (rvs := rv10) Try.func10 rfl rcq10 rvq10 (show 2 ≤ _ by decide) ?_
  obtain ⟨b1, b2⟩ := drF_ok L 0 (by omega)
  repeat ((conv => whnf); first | refine Cd.seq ?_ | refine Cd.cut ?_ | refine Cd.reg ?_ | refine Cd.block ?_ | refine Cd.cond ?_ | refine Cd.dreg ?_ | refine Cd.skip ?_ | refine Cd.ret ?_ | refine Cd.exit ?_ | refine Cd.loop ?_ | refine ⟨rfl, ?_⟩ | refine ⟨Nat.le_of_ble_eq_true rfl, ?_⟩ | refine ⟨.inl rfl, ?_⟩ | refine ⟨fun h => Bool.noConfusion h, ?_⟩ | refine .inr ⟨fun _ => ⟨[0], _, _, _, ok16n L _ _ hL (by omega) (by omega) (by omega), ⟨rfl, rfl, trivial⟩, rfl, rfl, rfl, rfl, ?_⟩, (by intro h; cases h)⟩ | refine .inr ⟨fun _ => ⟨[0], _, _, _, ok35 L _ hL (by omega), ⟨rfl, rfl, trivial⟩, rfl, rfl, rfl, rfl, ?_⟩, (by intro h; cases h)⟩ | refine .inr ⟨fun _ => ⟨[0], _, _, _, ok48 L _ hL (by omega), ⟨rfl, rfl, trivial⟩, rfl, rfl, rfl, rfl, ?_⟩, (by intro h; cases h)⟩)
  conv => whnf
  refine .inr ⟨fun _ => ⟨[0], _, _, _, ok35 L 0 hL (by omega), ⟨rfl, rfl, trivial⟩, rfl, rfl, rfl, rfl, ?_⟩, (by intro h; cases h)⟩
  revert b1 b2
  generalize (drF L 0).1 = x
  generalize (drF L 0).2 = J
  intro b1 b2
  obtain ⟨hh, hJ⟩ := intsF_ok L J b2
  repeat ((conv => whnf); first | refine Cd.seq ?_ | refine Cd.cut ?_ | refine Cd.reg ?_ | refine Cd.block ?_ | refine Cd.cond ?_ | refine Cd.dreg ?_ | refine Cd.skip ?_ | refine Cd.ret ?_ | refine Cd.exit ?_ | refine Cd.loop ?_ | refine ⟨rfl, ?_⟩ | refine ⟨Nat.le_of_ble_eq_true rfl, ?_⟩ | refine ⟨.inl rfl, ?_⟩ | refine ⟨fun h => Bool.noConfusion h, ?_⟩ | refine .inr ⟨fun _ => ⟨[0], _, _, _, ok16n L _ _ hL (by omega) (by omega) (by omega), ⟨rfl, rfl, trivial⟩, rfl, rfl, rfl, rfl, ?_⟩, (by intro h; cases h)⟩ | refine .inr ⟨fun _ => ⟨[0], _, _, _, ok35 L _ hL (by omega), ⟨rfl, rfl, trivial⟩, rfl, rfl, rfl, rfl, ?_⟩, (by intro h; cases h)⟩ | refine .inr ⟨fun _ => ⟨[0], _, _, _, ok48 L _ hL (by omega), ⟨rfl, rfl, trivial⟩, rfl, rfl, rfl, rfl, ?_⟩, (by intro h; cases h)⟩)
  conv => whnf
  revert hh
  generalize (intsF L J).1 = held
  intro hh
  repeat ((conv => whnf); first | refine Cd.seq ?_ | refine Cd.cut ?_ | refine Cd.reg ?_ | refine Cd.block ?_ | refine Cd.cond ?_ | refine Cd.dreg ?_ | refine Cd.skip ?_ | refine Cd.ret ?_ | refine Cd.exit ?_ | refine Cd.loop ?_ | refine ⟨rfl, ?_⟩ | refine ⟨Nat.le_of_ble_eq_true rfl, ?_⟩ | refine ⟨.inl rfl, ?_⟩ | refine ⟨fun h => Bool.noConfusion h, ?_⟩ | refine .inl ⟨_, fun _ => ⟨purA rfl, (by first | exact ok49 n 12 (by decide))⟩, .inl rfl, ?_⟩ | refine .inr ⟨fun _ => ⟨[0], _, _, _, ok16n L _ _ hL (by omega) (by omega) (by omega), ⟨rfl, rfl, trivial⟩, rfl, rfl, rfl, rfl, ?_⟩, (by intro h; cases h)⟩ | refine .inr ⟨fun _ => ⟨[0], _, _, _, ok35 L _ hL (by omega), ⟨rfl, rfl, trivial⟩, rfl, rfl, rfl, rfl, ?_⟩, (by intro h; cases h)⟩ | refine .inr ⟨fun _ => ⟨[0], _, _, _, ok48 L _ hL (by omega), ⟨rfl, rfl, trivial⟩, rfl, rfl, rfl, rfl, ?_⟩, (by intro h; cases h)⟩)
  conv => whnf
  generalize IntKind.i64.wrap (cutF n 12 - 1) = k
  have s1 := scanF_small b1 k held
  have s2 := scanF_vlen b1 k held
  repeat ((conv => whnf); first | refine Cd.seq ?_ | refine Cd.cut ?_ | refine Cd.reg ?_ | refine Cd.block ?_ | refine Cd.cond ?_ | refine Cd.dreg ?_ | refine Cd.skip ?_ | refine Cd.ret ?_ | refine Cd.exit ?_ | refine Cd.loop ?_ | refine ⟨rfl, ?_⟩ | refine ⟨Nat.le_of_ble_eq_true rfl, ?_⟩ | refine ⟨.inl rfl, ?_⟩ | refine ⟨fun h => Bool.noConfusion h, ?_⟩ | refine .inl ⟨_, fun _ => ⟨purA rfl, (by first | exact ok50 x k held false b1 (by omega) | exact ok51 x k held false b1 (by omega))⟩, .inl rfl, ?_⟩ | refine .inr ⟨fun _ => ⟨[0], _, _, _, ok16n L _ _ hL (by omega) (by omega) (by omega), ⟨rfl, rfl, trivial⟩, rfl, rfl, rfl, rfl, ?_⟩, (by intro h; cases h)⟩ | refine .inr ⟨fun _ => ⟨[0], _, _, _, ok35 L _ hL (by omega), ⟨rfl, rfl, trivial⟩, rfl, rfl, rfl, rfl, ?_⟩, (by intro h; cases h)⟩ | refine .inr ⟨fun _ => ⟨[0], _, _, _, ok48 L _ hL (by omega), ⟨rfl, rfl, trivial⟩, rfl, rfl, rfl, rfl, ?_⟩, (by intro h; cases h)⟩)
  conv => whnf
  generalize scanF x k held = r at s1 s2 ⊢
  repeat ((conv => whnf); first | refine Cd.seq ?_ | refine Cd.cut ?_ | refine Cd.reg ?_ | refine Cd.block ?_ | refine Cd.cond ?_ | refine Cd.dreg ?_ | refine Cd.skip ?_ | refine Cd.ret ?_ | refine Cd.exit ?_ | refine Cd.loop ?_ | refine ⟨rfl, ?_⟩ | refine ⟨Nat.le_of_ble_eq_true rfl, ?_⟩ | refine ⟨.inl rfl, ?_⟩ | refine ⟨fun h => Bool.noConfusion h, ?_⟩ | refine .inl ⟨_, fun _ => ⟨purA rfl, (by first | exact ok44 r.1 r.1 s1 s1 | exact ok52 r.2 r.2 false false (by omega) (by omega) | exact ok47)⟩, .inl rfl, ?_⟩ | refine .inr ⟨fun _ => ⟨[0], _, _, _, ok16n L _ _ hL (by omega) (by omega) (by omega), ⟨rfl, rfl, trivial⟩, rfl, rfl, rfl, rfl, ?_⟩, (by intro h; cases h)⟩ | refine .inr ⟨fun _ => ⟨[0], _, _, _, ok35 L _ hL (by omega), ⟨rfl, rfl, trivial⟩, rfl, rfl, rfl, rfl, ?_⟩, (by intro h; cases h)⟩ | refine .inr ⟨fun _ => ⟨[0], _, _, _, ok48 L _ hL (by omega), ⟨rfl, rfl, trivial⟩, rfl, rfl, rfl, rfl, ?_⟩, (by intro h; cases h)⟩)
  conv => whnf
  rw [sameL_refl, show decide (r.2 = r.2) = true by simp]
  refine ⟨[], ?_, rfl, trivial, rfl, ?_⟩
  · exact trivial
  try subst hk
  repeat' (first | exact trivial | rfl | exact .inl rfl | exact .inr rfl | exact id | exact (fun h => Bool.noConfusion h) | refine And.intro ?_ ?_)
end Go.Proofs.Ytcifhjkodbaghaa

