/- Zone: the zones that are made. -/
import Derived.Test.YtcifhjkodbaghaaB17
set_option linter.unusedSimpArgs false
set_option linter.unusedVariables false
namespace Go.Proofs.Ytcifhjkodbaghaa
open Go Go.Sk Go.RowKit

/- pagecache/pagecachemade.Zones -/
def rc34 : RC :=
  (.seq
  (.reg [⟨(some 2), none, (.mv (.c (.lst 0 true [])))⟩] [])
  (.seq
  (.regc [⟨(some 7), none, (.mv (.t 0))⟩,
    ⟨(some 8), none, (.call 16 [(.t 7), (.c (.int .i64 12))])⟩,
    ⟨(some 9), none, (.bin .add (.c (.int .i64 1)) (.t 8))⟩,
    ⟨(some 10), none, (.mv (.t 0))⟩,
    ⟨(some 11), none, (.call 16 [(.t 10), (.c (.int .i64 12))])⟩,
    ⟨(some 12), none, (.bin .add (.c (.int .i64 1)) (.t 11))⟩,
    ⟨(some 13), none, (.mv (.t 0))⟩,
    ⟨(some 14), none, (.call 16 [(.t 13), (.c (.int .i64 8))])⟩,
    ⟨(some 15), none, (.bin .add (.c (.int .i64 1)) (.t 14))⟩,
    ⟨(some 16), none, (.bslice 1 [(.int .i64 0)] 3 [(0, (.t 9)), (1, (.t 12)), (2, (.t 15))])⟩,
    ⟨(some 17), none, (.mv (.t 0))⟩,
    ⟨(some 18), none, (.call 16 [(.t 17), (.c (.int .i64 3))])⟩,
    ⟨(some 19), none, (.bin .add (.c (.int .i64 1)) (.t 18))⟩,
    ⟨(some 20), none, (.slc 1 (.t 16) none (some (.t 19)))⟩] [⟨(some 21), none, (.call 33 [(.t 20)])⟩,
    ⟨(some 6), none, (.mv (.t 21))⟩,
    ⟨(some 22), none, (.extr 0 (.t 6))⟩,
    ⟨(some 23), none, (.extr 1 (.t 6))⟩,
    ⟨(some 3), none, (.mv (.t 22))⟩,
    ⟨(some 4), none, (.mv (.t 23))⟩] [7, 8, 9, 10, 11, 12, 13, 14, 15, 16, 17, 18, 19, 20, 21, 6, 22, 23, 4])
  (.seq
  (.seq
  (.reg [⟨(some 24), none, (.mv (.t 0))⟩,
    ⟨(some 25), none, (.call 16 [(.t 24), (.c (.int .i64 20))])⟩,
    ⟨(some 5), none, (.mv (.t 25))⟩] [24, 25])
  (.block 0
   (.loop
    (.seq
    (.seq
    (.reg [⟨(some 26), none, (.mv (.t 5))⟩,
      ⟨(some 27), none, (.bin .gtr (.t 26) (.c (.int .i64 0)))⟩] [26])
    (.cond (.t 27)
     .skip
     (.exit 0)))
    (.seq
    (.block 1
     (.reg [⟨(some 31), none, (.mv (.t 3))⟩,
       ⟨(some 32), none, (.mv (.t 0))⟩,
       ⟨(some 33), none, (.mv (.t 3))⟩,
       ⟨(some 34), none, (.len (.t 33))⟩,
       ⟨(some 35), none, (.call 16 [(.t 32), (.t 34)])⟩,
       ⟨(some 36), none, (.mv (.t 0))⟩,
       ⟨(some 37), none, (.call 16 [(.t 36), (.c (.int .i64 2))])⟩,
       ⟨(some 38), none, (.bin .eql (.t 37) (.c (.int .i64 0)))⟩,
       ⟨(some 39), none, (.call 19 [(.t 31), (.t 35), (.t 38)])⟩,
       ⟨(some 30), none, (.mv (.t 39))⟩,
       ⟨(some 40), none, (.extr 0 (.t 30))⟩,
       ⟨(some 41), none, (.extr 1 (.t 30))⟩,
       ⟨(some 42), none, (.extr 2 (.t 30))⟩,
       ⟨(some 3), none, (.mv (.t 40))⟩] [31, 32, 33, 34, 35, 36, 37, 38, 39, 30, 40, 41, 42]))
    (.reg [⟨(some 28), none, (.mv (.t 5))⟩,
      ⟨(some 29), none, (.bin .sub (.t 28) (.c (.int .i64 1)))⟩,
      ⟨(some 5), none, (.mv (.t 29))⟩] [28, 29]))))))
  (.seq
  (.reg [⟨(some 43), none, (.mv (.t 3))⟩,
    ⟨(some 2), none, (.mv (.t 43))⟩] [43])
  .ret))))
theorem rcq34 : resC Go.Proofs.Try.prog Go.Proofs.Try.f34.ntmps ((Go.Proofs.Try.f34.body).getD .skip) = some (strip rc34) := by kernel_rfl
def rv34 : List RV := [(.tmp 2)]
theorem rvq34 : Go.Proofs.Try.f34.results.toList.mapM (resRV Go.Proofs.Try.prog) = some rv34 := by kernel_rfl

def zsAll (L : List Int) (I : Nat) : List Int := [1 + nxV L I 12, 1 + nxV L (nxI L I) 12, 1 + nxV L (nxI L (nxI L I)) 8]
def zs0 (L : List Int) (I : Nat) : List Int := (zsAll L I).take (1 + nxV L (nxI L (nxI L (nxI L I))) 3).toNat
def iterN {α : Type} (f : α → α) : Nat → α → α
  | 0, a => a
  | n + 1, a => iterN f n (f a)
def zstep (L : List Int) (p : List Zn × Nat) : List Zn × Nat := ((takeG p.1 p.1 (nxV L p.2 p.1.length) (nxV L (nxI L p.2) 2 == 0)).1, nxI L (nxI L p.2))
def zonesF (L : List Int) (I : Nat) : List Zn × Nat :=
  iterN (zstep L) (nxV L (nxI L (nxI L (nxI L (nxI L I)))) 20).toNat ((newF (zs0 L I)).1, nxI L (nxI L (nxI L (nxI L (nxI L I)))))
theorem newR_some : ∀ (s : List Int) (f : Int), 1 ≤ f → (∀ n ∈ s, 1 ≤ n) → f + s.foldr (· + ·) 0 ≤ 65 → ∃ l, newR f s = some l
  | [], _, _, _, _ => ⟨[], rfl⟩
  | n :: r, f, hf, h, hs => by
    have hn := h n (by simp)
    have hr : ∀ x ∈ r, 1 ≤ x := fun x hx => h x (by simp [hx])
    have hpos : ∀ r : List Int, (∀ x ∈ r, 1 ≤ x) → 0 ≤ r.foldr (· + ·) 0 := by
      intro r
      induction r with
      | nil => intro _; simp
      | cons a t ih => intro h; have := ih fun x hx => h x (by simp [hx]); have := h a (by simp); simp only [List.foldr_cons]; omega
    have h0 := hpos r hr
    simp only [List.foldr_cons] at hs
    have hb : badN f n = false := by
      simp only [badN, Bool.or_eq_false_iff, decide_eq_false_iff_not]
      rw [wrapI (by omega) (by omega)]; omega
    obtain ⟨l, hl⟩ := newR_some r (f + n) (by omega) hr (by omega)
    exact ⟨mkZ f n :: l, by rw [newR, hb, cond_false, hl]; rfl⟩
theorem newF_of {s : List Int} (h0 : s ≠ []) (h : ∀ n ∈ s, 1 ≤ n) (hs : 1 + s.foldr (· + ·) 0 ≤ 65) : (newF s).2 = 0 := by
  obtain ⟨l, hl⟩ := newR_some s 1 (by decide) h hs
  rw [newF]
  have : ((s.length : Int) == 0) = false := by simpa using h0
  rw [this, cond_false, hl]
theorem zs0_ok (L : List Int) (I : Nat) : (newF (zs0 L I)).2 = 0 := by
  have a := nxV_in L I 12 (by decide) (by decide)
  have b := nxV_in L (nxI L I) 12 (by decide) (by decide)
  have c := nxV_in L (nxI L (nxI L I)) 8 (by decide) (by decide)
  have d := nxV_in L (nxI L (nxI L (nxI L I))) 3 (by decide) (by decide)
  rw [zs0, zsAll]
  generalize nxV L I 12 = x at *
  generalize nxV L (nxI L I) 12 = y at *
  generalize nxV L (nxI L (nxI L I)) 8 = z at *
  generalize nxV L (nxI L (nxI L (nxI L I))) 3 = m at *
  obtain h | h | h : (1 + m).toNat = 1 ∨ (1 + m).toNat = 2 ∨ (1 + m).toNat = 3 := by omega
  all_goals
    rw [h]
    refine newF_of (by simp) (fun n hn => ?_) ?_
    · simp at hn; omega
    · simp [List.foldr]; omega
theorem iterN_ind {α : Type} {P : α → Prop} {f : α → α} (h : ∀ a, P a → P (f a)) : ∀ n a, P a → P (iterN f n a)
  | 0, _, ha => ha
  | n + 1, a, ha => iterN_ind h n (f a) (h a ha)
def ZI (L : List Int) (p : List Zn × Nat) : Prop := checkZ p.1 = true ∧ p.2 ≤ L.length
theorem zstep_ok {L : List Int} (p : List Zn × Nat) (h : ZI L p) : ZI L (zstep L p) := ⟨takeG_check (SimZ.refl _) h.1, nxI_in _ _ (nxI_in _ _ h.2)⟩
theorem zonesF_ok (L : List Int) (I : Nat) (hI : I ≤ L.length) : ZI L (zonesF L I) :=
  iterN_ind zstep_ok _ _ ⟨(newF_ok (zs0_ok L I)).1, nxI_in _ _ (nxI_in _ _ (nxI_in _ _ (nxI_in _ _ (nxI_in _ _ hI))))⟩
set_option maxRecDepth 20000 in
set_option maxHeartbeats 1000000 in
theorem ok34 (L : List Int) (I : Nat) (hL : (L.length : Int) < 2 ^ 62) (hI : I ≤ L.length) : FnC Try.prog 34 [tpO L I] [.ptr 0 0 0] (.lst 6 false (rowsZ (zonesF L I).1)) [tpO L (zonesF L I).2] := by
  have hI1 := nxI_in L I hI
  have hI2 := nxI_in L _ hI1
  have hI3 := nxI_in L _ hI2
  have hI4 := nxI_in L _ hI3
  have hI5 := nxI_in L _ hI4
  have a := nxV_in L I 12 (by decide) (by decide)
  have b := nxV_in L (nxI L I) 12 (by decide) (by decide)
  have c := nxV_in L (nxI L (nxI L I)) 8 (by decide) (by decide)
  have d := nxV_in L (nxI L (nxI L (nxI L I))) 3 (by decide) (by decide)
  have e := nxV_in L (nxI L (nxI L (nxI L (nxI L I)))) 20 (by decide) (by decide)
  have hz := newF_ok (zs0_ok L I)
  have hsl : (zs0 L I).length ≤ 3 := by rw [zs0, List.length_take, zsAll]; simp; omega
  refine fn_okC (ob0 := [tpO L I]) (rc := rc34) (rvs := rv34) Try.func34 rfl rcq34 rvq34 (show 1 ≤ _ by decide) ?_
  generalize hk : zonesF L I = q
  repeat ((conv => whnf); first | refine Cd.seq ?_ | refine Cd.cut ?_ | refine Cd.reg ?_ | refine Cd.block ?_ | refine Cd.cond ?_ | refine Cd.dreg ?_ | refine Cd.skip ?_ | refine Cd.ret ?_ | refine Cd.exit ?_ | refine Cd.loop ?_ | refine ⟨rfl, ?_⟩ | refine ⟨Nat.le_of_ble_eq_true rfl, ?_⟩ | refine ⟨.inl rfl, ?_⟩ | refine ⟨fun h => Bool.noConfusion h, ?_⟩ | refine .inr ⟨fun _ => ⟨[0], _, _, _, ok16n L _ _ hL (by omega) (by omega) (by omega), ⟨rfl, rfl, trivial⟩, rfl, rfl, rfl, rfl, ?_⟩, (by intro h; cases h)⟩)
  conv => whnf
  refine ⟨Unit, fun _ => True, fun _ => ⟨[(0, ⟨[], true, .ptr 0 0 0⟩), (20, ⟨[], true, .lst 1 false (rowsI (zs0 L I))⟩)], [(0, tpO L (nxI L (nxI L (nxI L (nxI L I)))))], 1⟩, ?_, fun _ _ => ?_⟩
  · repeat ((conv => whnf); first | refine Cd.seq ?_ | refine Cd.cut ?_ | refine Cd.reg ?_ | refine Cd.block ?_ | refine Cd.cond ?_ | refine Cd.dreg ?_ | refine Cd.skip ?_ | refine Cd.ret ?_ | refine Cd.exit ?_ | refine Cd.loop ?_ | refine ⟨rfl, ?_⟩ | refine ⟨Nat.le_of_ble_eq_true rfl, ?_⟩ | refine ⟨.inl rfl, ?_⟩ | refine ⟨fun h => Bool.noConfusion h, ?_⟩ | refine .inr ⟨fun _ => ⟨[0], _, _, _, ok16n L _ _ hL (by omega) (by omega) (by omega), ⟨rfl, rfl, trivial⟩, rfl, rfl, rfl, rfl, ?_⟩, (by intro h; cases h)⟩)
    conv => whnf
    rw [wrapI (n := 1 + nxV L I 12) (by omega) (by omega)]
    rw [wrapI (n := 1 + nxV L (nxI L I) 12) (by omega) (by omega)]
    rw [wrapI (n := 1 + nxV L (nxI L (nxI L I)) 8) (by omega) (by omega)]
    rw [wrapI (n := 1 + nxV L (nxI L (nxI L (nxI L I))) 3) (by omega) (by omega)]
    refine ⟨fun _ => ⟨by decide, by omega, by show _ ≤ (3 : Int); omega⟩, ?_⟩
    repeat ((conv => whnf); first | refine Cd.seq ?_ | refine Cd.cut ?_ | refine Cd.reg ?_ | refine Cd.block ?_ | refine Cd.cond ?_ | refine Cd.dreg ?_ | refine Cd.skip ?_ | refine Cd.ret ?_ | refine Cd.exit ?_ | refine Cd.loop ?_ | refine ⟨rfl, ?_⟩ | refine ⟨Nat.le_of_ble_eq_true rfl, ?_⟩ | refine ⟨.inl rfl, ?_⟩ | refine ⟨fun h => Bool.noConfusion h, ?_⟩ | refine .inr ⟨fun _ => ⟨[0], _, _, _, ok16n L _ _ hL (by omega) (by omega) (by omega), ⟨rfl, rfl, trivial⟩, rfl, rfl, rfl, rfl, ?_⟩, (by intro h; cases h)⟩)
    conv => whnf
    refine ⟨(), trivial, ?_⟩
    refine viewI [some 0] rfl rfl ?_ rfl ?_ rfl ?_
    repeat' (first | exact trivial | rfl | exact .inl rfl | exact .inr rfl | exact id | exact (fun h => Bool.noConfusion h) | refine And.intro ?_ ?_)
    · show 0 + 0 + ((1 + nxV L (nxI L (nxI L (nxI L I))) 3).toNat - 0) ≤ 3
      omega
    · show List.take ((1 + nxV L (nxI L (nxI L (nxI L I))) 3).toNat - 0) (rowsI (zsAll L I)) = rowsI ((zsAll L I).take _)
      rw [Nat.sub_zero, rowsI, rowsI, List.map_take]
  repeat ((conv => whnf); first | refine Cd.seq ?_ | refine Cd.cut ?_ | refine Cd.reg ?_ | refine Cd.block ?_ | refine Cd.cond ?_ | refine Cd.dreg ?_ | refine Cd.skip ?_ | refine Cd.ret ?_ | refine Cd.exit ?_ | refine Cd.loop ?_ | refine ⟨rfl, ?_⟩ | refine ⟨Nat.le_of_ble_eq_true rfl, ?_⟩ | refine ⟨.inl rfl, ?_⟩ | refine ⟨fun h => Bool.noConfusion h, ?_⟩ | refine .inl ⟨_, fun _ => ⟨purA rfl, (by first | exact ok33 (zs0 L I) false (by omega))⟩, .inl rfl, ?_⟩ | refine .inr ⟨fun _ => ⟨[0], _, _, _, ok16n L _ _ hL (by omega) (by omega) (by omega), ⟨rfl, rfl, trivial⟩, rfl, rfl, rfl, rfl, ?_⟩, (by intro h; cases h)⟩)
  conv => whnf
  generalize hl0 : (newF (zs0 L I)).1 = l0 at hz hk
  refine ⟨Nat × List Zn × Nat, fun p => (iterN (zstep L) p.1 p.2 = q ∧ p.1 ≤ 20) ∧ ZI L p.2, fun p => ⟨[(0, ⟨[], true, .ptr 0 0 0⟩), (3, ⟨[], true, .lst 6 false (rowsZ p.2.1)⟩), (5, ⟨[], true, .int .i64 (p.1 : Int)⟩)], [(0, tpO L p.2.2)], 1⟩, fun p => p.1,
    ⟨((nxV L (nxI L (nxI L (nxI L (nxI L I)))) 20).toNat, (newF (zs0 L I)).1, nxI L (nxI L (nxI L (nxI L (nxI L I))))), ⟨⟨hk, by show Int.toNat _ ≤ 20; omega⟩, by rw [hl0]; exact hz.1, hI5⟩, ?_⟩, fun p hp => ?_⟩
  · refine viewI [some 0] rfl rfl ?_ rfl ?_ rfl ?_
    repeat' (first | exact trivial | rfl | exact .inl rfl | exact .inr rfl | exact id | exact (fun h => Bool.noConfusion h) | refine And.intro ?_ ?_)
    · rw [← hl0]
    · show nxV L _ 20 = (((nxV L (nxI L (nxI L (nxI L (nxI L I)))) 20).toNat : Nat) : Int)
      omega
  obtain ⟨n, l, J⟩ := p
  obtain ⟨⟨hp1, hp2⟩, hp3, hp4⟩ := hp
  dsimp only at hp1 hp2 hp3 hp4 ⊢
  have hll := check_len hp3
  have hJ1 := nxI_in L J hp4
  have hJ2 := nxI_in L _ hJ1
  repeat ((conv => whnf); first | refine Cd.seq ?_ | refine Cd.cut ?_ | refine Cd.reg ?_ | refine Cd.block ?_ | refine Cd.cond ?_ | refine Cd.dreg ?_ | refine Cd.skip ?_ | refine Cd.ret ?_ | refine Cd.exit ?_ | refine Cd.loop ?_ | refine ⟨rfl, ?_⟩ | refine ⟨Nat.le_of_ble_eq_true rfl, ?_⟩ | refine ⟨.inl rfl, ?_⟩ | refine ⟨fun h => Bool.noConfusion h, ?_⟩ | refine .inr ⟨fun _ => ⟨[0], _, _, _, ok16n L _ _ hL (by omega) (by omega) (by omega), ⟨rfl, rfl, trivial⟩, rfl, rfl, rfl, rfl, ?_⟩, (by intro h; cases h)⟩)
  conv => whnf
  refine ⟨fun h3 => ?_, fun h3 => ?_⟩ <;> try simp only [Bool.cond_true_left, Bool.cond_false_right, Bool.not_eq_true', Bool.not_eq_false', Bool.not_not] at h3
  · have h3 : 0 < n := by simpa using h3
    repeat ((conv => whnf); first | refine Cd.seq ?_ | refine Cd.cut ?_ | refine Cd.reg ?_ | refine Cd.block ?_ | refine Cd.cond ?_ | refine Cd.dreg ?_ | refine Cd.skip ?_ | refine Cd.ret ?_ | refine Cd.exit ?_ | refine Cd.loop ?_ | refine ⟨rfl, ?_⟩ | refine ⟨Nat.le_of_ble_eq_true rfl, ?_⟩ | refine ⟨.inl rfl, ?_⟩ | refine ⟨fun h => Bool.noConfusion h, ?_⟩ | refine .inr ⟨fun _ => ⟨[0], _, _, _, ok16n L _ _ hL (by omega) (by omega) (by omega), ⟨rfl, rfl, trivial⟩, rfl, rfl, rfl, rfl, ?_⟩, (by intro h; cases h)⟩)
    conv => whnf
    rw [rowsZ_len]
    repeat ((conv => whnf); first | refine Cd.seq ?_ | refine Cd.cut ?_ | refine Cd.reg ?_ | refine Cd.block ?_ | refine Cd.cond ?_ | refine Cd.dreg ?_ | refine Cd.skip ?_ | refine Cd.ret ?_ | refine Cd.exit ?_ | refine Cd.loop ?_ | refine ⟨rfl, ?_⟩ | refine ⟨Nat.le_of_ble_eq_true rfl, ?_⟩ | refine ⟨.inl rfl, ?_⟩ | refine ⟨fun h => Bool.noConfusion h, ?_⟩ | refine .inl ⟨_, fun _ => ⟨purA rfl, (by first | exact ok19 l false _ _ (check_small hp3))⟩, .inl rfl, ?_⟩ | refine .inr ⟨fun _ => ⟨[0], _, _, _, ok16n L _ _ hL (by omega) (by omega) (by omega), ⟨rfl, rfl, trivial⟩, rfl, rfl, rfl, rfl, ?_⟩, (by intro h; cases h)⟩)
    conv => whnf
    obtain ⟨m, rfl⟩ : ∃ m, n = m + 1 := ⟨n - 1, by omega⟩
    rw [wrapI (n := ((m + 1 : Nat) : Int) - 1) (by omega) (by omega), show (((m + 1 : Nat) : Int) - 1) = (m : Int) by omega]
    refine ⟨(m, zstep L (l, J)), ⟨⟨hp1, by show m ≤ 20; omega⟩, zstep_ok (l, J) ⟨hp3, hp4⟩⟩, ?_, Nat.lt_succ_self m⟩
    refine viewI [some 0] rfl rfl ?_ rfl ?_ rfl ?_
    repeat' (first | exact trivial | rfl | exact .inl rfl | exact .inr rfl | exact id | exact (fun h => Bool.noConfusion h) | refine And.intro ?_ ?_)
  have h3 : n = 0 := by simp at h3; omega
  subst h3
  have hp1 : (l, J) = q := hp1
  subst hp1
  repeat ((conv => whnf); first | refine Cd.seq ?_ | refine Cd.cut ?_ | refine Cd.reg ?_ | refine Cd.block ?_ | refine Cd.cond ?_ | refine Cd.dreg ?_ | refine Cd.skip ?_ | refine Cd.ret ?_ | refine Cd.exit ?_ | refine Cd.loop ?_ | refine ⟨rfl, ?_⟩ | refine ⟨Nat.le_of_ble_eq_true rfl, ?_⟩ | refine ⟨.inl rfl, ?_⟩ | refine ⟨fun h => Bool.noConfusion h, ?_⟩ | refine .inr ⟨fun _ => ⟨[0], _, _, _, ok16n L _ _ hL (by omega) (by omega) (by omega), ⟨rfl, rfl, trivial⟩, rfl, rfl, rfl, rfl, ?_⟩, (by intro h; cases h)⟩)
  conv => whnf
  try subst hk
  refine ⟨[some 0], ?_, rfl, ?_, rfl, ?_⟩
  all_goals repeat' (first | exact trivial | rfl | exact .inl rfl | exact .inr rfl | exact id | exact (fun h => Bool.noConfusion h) | refine And.intro ?_ ?_)
end Go.Proofs.Ytcifhjkodbaghaa
