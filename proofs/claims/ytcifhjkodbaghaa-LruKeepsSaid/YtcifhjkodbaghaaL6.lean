/- Lru: what is made and drawn. -/
import Derived.Test.YtcifhjkodbaghaaL5
set_option linter.unusedSimpArgs false
set_option linter.unusedVariables false
namespace Go.Proofs.Ytcifhjkodbaghaa
open Go Go.Sk Go.RowKit

/- pagecache/pagecachemade.Ints -/
def rc48 : RC :=
  (.seq
  (.reg [⟨(some 8), none, (.mv (.c (.lst 0 true [])))⟩] [])
  (.seq
  (.reg [⟨(some 9), none, (.mv (.c (.lst 0 true [])))⟩] [])
  (.seq
  (.seq
  (.reg [⟨(some 11), none, (.mv (.t 0))⟩,
    ⟨(some 12), none, (.mv (.t 1))⟩,
    ⟨(some 13), none, (.bin .add (.t 12) (.c (.int .i64 1)))⟩,
    ⟨(some 14), none, (.call 16 [(.t 11), (.t 13)])⟩,
    ⟨(some 10), none, (.mv (.t 14))⟩] [11, 12, 13, 14])
  (.block 0
   (.loop
    (.seq
    (.seq
    (.reg [⟨(some 15), none, (.mv (.t 10))⟩,
      ⟨(some 16), none, (.bin .gtr (.t 15) (.c (.int .i64 0)))⟩] [15])
    (.cond (.t 16)
     .skip
     (.exit 0)))
    (.seq
    (.block 1
     (.reg [⟨(some 19), none, (.mv (.t 9))⟩,
       ⟨(some 20), none, (.mv (.t 2))⟩,
       ⟨(some 21), none, (.mv (.t 0))⟩,
       ⟨(some 22), none, (.mv (.t 3))⟩,
       ⟨(some 23), none, (.call 16 [(.t 21), (.t 22)])⟩,
       ⟨(some 24), none, (.bin .add (.t 20) (.t 23))⟩,
       ⟨(some 25), none, (.bslice 1 [(.int .i64 0)] 1 [(0, (.t 24))])⟩,
       ⟨(some 26), none, (.app 1 8 (.t 19) (.t 25))⟩,
       ⟨(some 9), none, (.mv (.t 26))⟩] [19, 20, 21, 22, 23, 24, 25, 26]))
    (.reg [⟨(some 17), none, (.mv (.t 10))⟩,
      ⟨(some 18), none, (.bin .sub (.t 17) (.c (.int .i64 1)))⟩,
      ⟨(some 10), none, (.mv (.t 18))⟩] [17, 18]))))))
  (.seq
  (.reg [⟨(some 27), none, (.mv (.t 9))⟩,
    ⟨(some 8), none, (.mv (.t 27))⟩] [27])
  .ret))))
theorem rcq48 : resC Go.Proofs.Try.prog Go.Proofs.Try.f48.ntmps ((Go.Proofs.Try.f48.body).getD .skip) = some (strip rc48) := by kernel_rfl
def rv48 : List RV := [(.tmp 8)]
theorem rvq48 : Go.Proofs.Try.f48.results.toList.mapM (resRV Go.Proofs.Try.prog) = some rv48 := by kernel_rfl

def repN {α : Type} (f : α → α) : Nat → α → α
  | 0, a => a
  | n + 1, a => repN f n (f a)
theorem repN_ind {α : Type} {P : α → Prop} {f : α → α} (h : ∀ a, P a → P (f a)) : ∀ n a, P a → P (repN f n a)
  | 0, _, ha => ha
  | n + 1, a, ha => repN_ind h n (f a) (h a ha)
def intsS (L : List Int) (p : List Int × Nat) : List Int × Nat := (p.1 ++ [1 + nxV L p.2 10], nxI L p.2)
def intsF (L : List Int) (I : Nat) : List Int × Nat := repN (intsS L) (nxV L I 5).toNat ([], nxI L I)
set_option maxRecDepth 20000 in
theorem ok48 (L : List Int) (I : Nat) (hL : (L.length : Int) < 2 ^ 62) (hI : I ≤ L.length) : FnC Try.prog 48 [tpO L I] [.ptr 0 0 0, .int .i64 4, .int .i64 1, .int .i64 10] (.lst 1 false (rowsI (intsF L I).1)) [tpO L (intsF L I).2] := by
  have hI1 := nxI_in L I hI
  have e := nxV_in L I 5 (by decide) (by decide)
  have h5 : IntKind.i64.wrap (4 + 1) = 5 := by decide
  refine fn_okC (ob0 := [tpO L I]) (rc := rc48) (rvs := rv48) Try.func48 rfl rcq48 rvq48 (show 4 ≤ _ by decide) ?_
  generalize hk : intsF L I = q
  rw [intsF] at hk
  repeat ((conv => whnf); first | refine Cd.seq ?_ | refine Cd.cut ?_ | refine Cd.reg ?_ | refine Cd.block ?_ | refine Cd.cond ?_ | refine Cd.dreg ?_ | refine Cd.skip ?_ | refine Cd.ret ?_ | refine Cd.exit ?_ | refine Cd.loop ?_ | refine ⟨rfl, ?_⟩ | refine ⟨Nat.le_of_ble_eq_true rfl, ?_⟩ | refine ⟨.inl rfl, ?_⟩ | refine ⟨fun h => Bool.noConfusion h, ?_⟩ | refine .inr ⟨fun _ => ⟨[0], _, _, _, ok16n L _ _ hL (by omega) (by omega) (by omega), ⟨rfl, rfl, trivial⟩, rfl, rfl, rfl, rfl, ?_⟩, (by intro h; cases h)⟩)
  conv => whnf
  rw [h5]
  repeat ((conv => whnf); first | refine Cd.seq ?_ | refine Cd.cut ?_ | refine Cd.reg ?_ | refine Cd.block ?_ | refine Cd.cond ?_ | refine Cd.dreg ?_ | refine Cd.skip ?_ | refine Cd.ret ?_ | refine Cd.exit ?_ | refine Cd.loop ?_ | refine ⟨rfl, ?_⟩ | refine ⟨Nat.le_of_ble_eq_true rfl, ?_⟩ | refine ⟨.inl rfl, ?_⟩ | refine ⟨fun h => Bool.noConfusion h, ?_⟩ | refine .inr ⟨fun _ => ⟨[0], _, _, _, ok16n L _ _ hL (by omega) (by omega) (by omega), ⟨rfl, rfl, trivial⟩, rfl, rfl, rfl, rfl, ?_⟩, (by intro h; cases h)⟩)
  conv => whnf
  generalize nxV L I 5 = n0 at e hk ⊢
  obtain ⟨n, rfl⟩ : ∃ n : Nat, n0 = n := ⟨n0.toNat, by omega⟩
  rw [Int.toNat_natCast] at hk
  refine ⟨Nat × List Int × Nat, fun p => (p.1 + p.2.1.length ≤ 5 ∧ p.2.2 ≤ L.length) ∧ repN (intsS L) p.1 p.2 = q, fun p => ⟨[(0, ⟨[], true, .ptr 0 0 0⟩), (2, ⟨[], true, .int .i64 1⟩), (3, ⟨[], true, .int .i64 10⟩), (9, ⟨[], true, .sl 1 0 p.2.1.length⟩), (10, ⟨[], true, .int .i64 (p.1 : Int)⟩)], [(0, tpO L p.2.2), (1, .row 1 (rowsI p.2.1))], 2⟩, fun p => p.1,
    ⟨(n, [], nxI L I), ⟨⟨by show n + 0 ≤ 5; omega, hI1⟩, hk⟩, ?_⟩, fun p hp => ?_⟩
  · refine viewI [some 0, none] rfl rfl ?_ rfl ?_ rfl ?_
    repeat' (first | exact trivial | rfl | exact .inl rfl | exact .inr rfl | exact id | exact (fun h => Bool.noConfusion h) | refine And.intro ?_ ?_)
  obtain ⟨k, out, J⟩ := p
  obtain ⟨⟨hp1, hp2⟩, hp3⟩ := hp
  dsimp only at hp1 hp2 hp3 ⊢
  have hJ1 := nxI_in L J hp2
  have hv := nxV_in L J 10 (by decide) (by decide)
  repeat ((conv => whnf); first | refine Cd.seq ?_ | refine Cd.cut ?_ | refine Cd.reg ?_ | refine Cd.block ?_ | refine Cd.cond ?_ | refine Cd.dreg ?_ | refine Cd.skip ?_ | refine Cd.ret ?_ | refine Cd.exit ?_ | refine Cd.loop ?_ | refine ⟨rfl, ?_⟩ | refine ⟨Nat.le_of_ble_eq_true rfl, ?_⟩ | refine ⟨.inl rfl, ?_⟩ | refine ⟨fun h => Bool.noConfusion h, ?_⟩ | refine .inr ⟨fun _ => ⟨[0], _, _, _, ok16n L _ _ hL (by omega) (by omega) (by omega), ⟨rfl, rfl, trivial⟩, rfl, rfl, rfl, rfl, ?_⟩, (by intro h; cases h)⟩)
  conv => whnf
  refine ⟨fun h1 => ?_, fun h1 => ?_⟩ <;> try simp only [Bool.cond_true_left, Bool.cond_false_right, Bool.not_eq_true', Bool.not_eq_false', Bool.not_not] at h1
  · have h1 : 0 < k := by simpa using h1
    obtain ⟨m, rfl⟩ : ∃ m, k = m + 1 := ⟨k - 1, by omega⟩
    rw [repN] at hp3
    repeat ((conv => whnf); first | refine Cd.seq ?_ | refine Cd.cut ?_ | refine Cd.reg ?_ | refine Cd.block ?_ | refine Cd.cond ?_ | refine Cd.dreg ?_ | refine Cd.skip ?_ | refine Cd.ret ?_ | refine Cd.exit ?_ | refine Cd.loop ?_ | refine ⟨rfl, ?_⟩ | refine ⟨Nat.le_of_ble_eq_true rfl, ?_⟩ | refine ⟨.inl rfl, ?_⟩ | refine ⟨fun h => Bool.noConfusion h, ?_⟩ | refine .inr ⟨fun _ => ⟨[0], _, _, _, ok16n L _ _ hL (by omega) (by omega) (by omega), ⟨rfl, rfl, trivial⟩, rfl, rfl, rfl, rfl, ?_⟩, (by intro h; cases h)⟩)
    conv => whnf
    rw [wrapI (n := 1 + nxV L J 10) (by omega) (by omega)]
    refine ⟨(rowsI_len out).symm, by show (((rowsI out).length + 1 : Nat) : Int) ≤ _; rw [rowsI_len]; omega, by show ((rowsI out).length + 1) * 8 ≤ _; rw [rowsI_len]; omega, ?_⟩
    repeat ((conv => whnf); first | refine Cd.seq ?_ | refine Cd.cut ?_ | refine Cd.reg ?_ | refine Cd.block ?_ | refine Cd.cond ?_ | refine Cd.dreg ?_ | refine Cd.skip ?_ | refine Cd.ret ?_ | refine Cd.exit ?_ | refine Cd.loop ?_ | refine ⟨rfl, ?_⟩ | refine ⟨Nat.le_of_ble_eq_true rfl, ?_⟩ | refine ⟨.inl rfl, ?_⟩ | refine ⟨fun h => Bool.noConfusion h, ?_⟩ | refine .inr ⟨fun _ => ⟨[0], _, _, _, ok16n L _ _ hL (by omega) (by omega) (by omega), ⟨rfl, rfl, trivial⟩, rfl, rfl, rfl, rfl, ?_⟩, (by intro h; cases h)⟩)
    conv => whnf
    rw [wrapI (n := ((m + 1 : Nat) : Int) - 1) (by omega) (by omega), show (((m + 1 : Nat) : Int) - 1) = (m : Int) by omega]
    refine ⟨(m, intsS L (out, J)), ⟨⟨by show m + (out ++ [_]).length ≤ 5; rw [List.length_append, List.length_singleton]; omega, hJ1⟩, hp3⟩, ?_, Nat.lt_succ_self m⟩
    refine viewI [some 0, some ?k53_1] rfl rfl ?h3_53 ?h4_53 ?h5_53 ?h6_53 ?h7_53
    case' h7_53 => repeat' (first | exact trivial | rfl | exact .inl rfl | exact .inr rfl | exact id | exact (fun h => Bool.noConfusion h) | refine And.intro ?_ ?_)
    case' h4_53 => rfl
    case' h6_53 => rfl
    case' h3_53 => repeat' (first | exact trivial | rfl | exact .inl rfl | exact .inr rfl | exact id | exact (fun h => Bool.noConfusion h) | refine And.intro ?_ ?_)
    case' h5_53 => repeat' (first | exact trivial | rfl | exact .inl rfl | exact .inr rfl | exact id | exact (fun h => Bool.noConfusion h) | refine And.intro ?_ ?_)
    · exact rowsI_snoc out _
    · show (rowsI out).length + 1 = (out ++ [_]).length
      rw [rowsI_len, List.length_append]; rfl
  have h1 : k = 0 := by simp at h1; omega
  subst h1
  have hp3 : (out, J) = q := hp3
  subst hp3
  repeat ((conv => whnf); first | refine Cd.seq ?_ | refine Cd.cut ?_ | refine Cd.reg ?_ | refine Cd.block ?_ | refine Cd.cond ?_ | refine Cd.dreg ?_ | refine Cd.skip ?_ | refine Cd.ret ?_ | refine Cd.exit ?_ | refine Cd.loop ?_ | refine ⟨rfl, ?_⟩ | refine ⟨Nat.le_of_ble_eq_true rfl, ?_⟩ | refine ⟨.inl rfl, ?_⟩ | refine ⟨fun h => Bool.noConfusion h, ?_⟩ | refine .inr ⟨fun _ => ⟨[0], _, _, _, ok16n L _ _ hL (by omega) (by omega) (by omega), ⟨rfl, rfl, trivial⟩, rfl, rfl, rfl, rfl, ?_⟩, (by intro h; cases h)⟩)
  conv => whnf
  try subst hk
  refine ⟨[some 0], ?_, rfl, ?_, rfl, ?_⟩
  all_goals repeat' (first | exact trivial | rfl | exact .inl rfl | exact .inr rfl | exact id | exact (fun h => Bool.noConfusion h) | refine And.intro ?_ ?_)
  · show 0 + out.length ≤ _
    rw [rowsI_len]; omega
  · exact take0 (rowsI_len _)
theorem intsF_ok (L : List Int) (I : Nat) (hI : I ≤ L.length) : (intsF L I).1.length ≤ 5 ∧ (intsF L I).2 ≤ L.length := by
  have e := nxV_in L I 5 (by decide) (by decide)
  rw [intsF]
  have key : ∀ n (p : List Int × Nat), p.2 ≤ L.length → (repN (intsS L) n p).1.length = p.1.length + n ∧ (repN (intsS L) n p).2 ≤ L.length := by
    intro n
    induction n with
    | zero => exact fun p h => ⟨rfl, h⟩
    | succ n ih =>
      intro p h
      have := ih (intsS L p) (nxI_in L _ h)
      rw [repN]
      refine ⟨?_, this.2⟩
      rw [this.1]
      show (p.1 ++ [_]).length + n = _
      rw [List.length_append, List.length_singleton]; omega
  have := key (nxV L I 5).toNat ([], nxI L I) (nxI_in L I hI)
  refine ⟨?_, this.2⟩
  rw [this.1]; simp; omega
/-! Right lists stay right. -/
theorem ChkP.add {l : Ls} (h : ChkP l) (f : Int) (act : Bool) : ChkP (addF l f act).1 := by
  rw [addF, addG, (chk_iff' l).2 h, Bool.not_true, cond_false]
  cases hk : knownB f with
  | false => exact h
  | true =>
    cases hh : hasL l f with
    | true => exact h
    | false =>
      have hk := (known_iff f).1 hk
      simp only [hasL, Bool.or_eq_false_iff, decide_eq_false_iff_not] at hh
      have hn : f ∉ l.A ++ l.I := by rw [List.mem_append]; rintro (h | h); exact hh.1 h; exact hh.2 h
      have key : ∀ m : Ls, (m.A ++ m.I).Perm (f :: (l.A ++ l.I)) → m.R = l.R → ChkP m := fun m hp hr =>
        ⟨hp.nodup_iff.2 (List.nodup_cons.2 ⟨hn, h.nodup⟩), fun x hx => by
          rcases List.mem_cons.1 (hp.mem_iff.1 hx) with rfl | hx
          · exact hk
          · exact h.known x hx, by rw [hr]; exact h.asc, fun x hx => hp.mem_iff.2 (List.mem_cons_of_mem _ (h.sub x (by rw [← hr]; exact hx)))⟩
      cases act with
      | true => exact key _ (List.Perm.refl _) rfl
      | false => exact key _ List.perm_middle rfl
theorem addP_eq {l : Ls} (h : ChkP l) (f : Int) (act : Bool) : addP l f act = addF l f act := by
  rw [addP, addF, addG, addG]
  cases hh : hasL l f with
  | true => rfl
  | false =>
    simp only [hasL, Bool.or_eq_false_iff, decide_eq_false_iff_not] at hh
    rw [wo_none hh.1, wo_none hh.2]
theorem ChkP.rem {l : Ls} (h : ChkP l) (f : Int) : ChkP (remF l f).1 := by
  rw [remF, (chk_iff' l).2 h, Bool.not_true, cond_false]
  cases knownB f with
  | false => exact h
  | true =>
    cases hasL l f with
    | false => exact h
    | true =>
      have e : wo l.A f ++ wo l.I f = wo (l.A ++ l.I) f := by rw [wo, wo, wo, List.filter_append]
      refine ⟨by show (wo l.A f ++ wo l.I f).Nodup; rw [e]; exact wo_nodup h.nodup f, fun x hx => ?_, wo_asc h.asc f, fun x hx => ?_⟩
      · have hx : x ∈ wo l.A f ++ wo l.I f := hx
        rw [e] at hx
        exact h.known x (mem_wo.1 hx).1
      · show x ∈ wo l.A f ++ wo l.I f
        rw [e]
        have := mem_wo.1 hx
        exact mem_wo.2 ⟨h.sub x this.1, this.2⟩
theorem insI_asc {l : List Int} (h : l.Pairwise (· < ·)) {f : Int} (hn : f ∉ l) : (insI l (atI l f) f).Pairwise (· < ·) := by
  obtain ⟨lo, hlo⟩ : ∃ lo, ∀ x ∈ l, lo ≤ x := by
    refine ⟨l.foldr min 0, ?_⟩
    induction l with
    | nil => simp
    | cons a r ih =>
      have ih := ih (List.pairwise_cons.1 h).2 (fun h => hn (by simp [h]))
      intro x hx
      simp only [List.foldr_cons]
      rcases List.mem_cons.1 hx with rfl | hx
      · omega
      · have := ih x hx; omega
  obtain ⟨hi, hhi⟩ : ∃ hi, ∀ x ∈ l, x < hi := by
    refine ⟨l.foldr max 0 + 1, ?_⟩
    clear hlo
    induction l with
    | nil => simp
    | cons a r ih =>
      have ih := ih (List.pairwise_cons.1 h).2 (fun h => hn (by simp [h]))
      intro x hx
      simp only [List.foldr_cons]
      rcases List.mem_cons.1 hx with rfl | hx
      · omega
      · have := ih x hx; omega
  exact (FreeOk.ins (lo := min lo f) (hi := max hi (f + 1)) ⟨h, fun x hx => by have := hlo x hx; have := hhi x hx; omega⟩ (by omega) hn).asc
theorem has_mem {l : Ls} {f : Int} (h : hasL l f = true) : f ∈ l.A ++ l.I := by
  simp only [hasL, Bool.or_eq_true, decide_eq_true_eq] at h
  exact List.mem_append.2 h
theorem touA_perm {l : Ls} (h : ChkP l) {f : Int} (hf : f ∈ l.I) : ((f :: wo l.A f) ++ wo l.I f).Perm (l.A ++ l.I) := by
  rw [wo_none (h.notA hf)]
  have hnd := (List.nodup_append.1 h.nodup).2.1
  have e : (wo l.I f) = l.I.erase f := (List.Nodup.erase_eq_filter hnd f).symm
  rw [e]
  refine (List.perm_middle (l₁ := l.A) (l₂ := l.I.erase f) (a := f)).symm.trans ?_
  exact List.Perm.append_left _ (List.perm_cons_erase hf).symm
theorem ChkP.tou {l : Ls} (h : ChkP l) (f : Int) : ChkP (touF l f).1 ∧ ((touF l f).1.A ++ (touF l f).1.I).Perm (l.A ++ l.I) := by
  rw [touF, (chk_iff' l).2 h, Bool.not_true, cond_false]
  cases knownB f with
  | false => exact ⟨h, List.Perm.refl _⟩
  | true =>
    cases hh : hasL l f with
    | false => exact ⟨h, List.Perm.refl _⟩
    | true =>
      have hm := has_mem hh
      by_cases hr : f ∈ l.R
      · rw [show (!decide (f ∈ l.R)) = false by simpa using hr]
        by_cases hi : f ∈ l.I
        · rw [show decide (f ∈ l.I) = true by simpa using hi]
          have hp := touA_perm h hi
          exact ⟨h.of_perm hp (wo_asc h.asc f) fun x hx => h.sub x (mem_wo.1 hx).1, hp⟩
        · rw [show decide (f ∈ l.I) = false by simpa using hi]
          exact ⟨h, List.Perm.refl _⟩
      · rw [show (!decide (f ∈ l.R)) = true by simpa using hr]
        exact ⟨h.of_perm (List.Perm.refl _) (insI_asc h.asc hr) fun x hx => by
          rcases mem_insI.1 hx with rfl | hx
          · exact hm
          · exact h.sub x hx, List.Perm.refl _⟩
end Go.Proofs.Ytcifhjkodbaghaa

namespace Go.Proofs.Ytcifhjkodbaghaa
open Go Go.Sk Go.RowKit

/- pagecache/pagecachemade.Lru -/
def rc53 : RC :=
  (.seq
  (.reg [⟨(some 2), none, (.alloc [(.lst 0 true []), (.lst 0 true []), (.lst 0 true [])])⟩] [])
  (.seq
  (.reg [⟨(some 3), none, (.alloc [(.lst 0 true []), (.lst 0 true []), (.lst 0 true [])])⟩] [])
  (.seq
  (.seq
  (.reg [⟨(some 6), none, (.mv (.t 0))⟩,
    ⟨(some 7), none, (.call 16 [(.t 6), (.c (.int .i64 12))])⟩,
    ⟨(some 4), none, (.mv (.t 7))⟩] [6, 7])
  (.block 0
   (.loop
    (.seq
    (.seq
    (.reg [⟨(some 8), none, (.mv (.t 4))⟩,
      ⟨(some 9), none, (.bin .gtr (.t 8) (.c (.int .i64 0)))⟩] [8])
    (.cond (.t 9)
     .skip
     (.exit 0)))
    (.seq
    (.block 1
     (.seq
     (.reg [⟨(some 12), none, (.mv (.t 0))⟩,
       ⟨(some 13), none, (.call 16 [(.t 12), (.c (.int .i64 10))])⟩,
       ⟨(some 14), none, (.bin .add (.c (.int .i64 1)) (.t 13))⟩,
       ⟨(some 5), none, (.mv (.t 14))⟩] [12, 13, 14])
     (.seq
     (.reg [⟨(some 15), none, (.mv (.t 0))⟩,
       ⟨(some 16), none, (.call 16 [(.t 15), (.c (.int .i64 5))])⟩] [15])
     (.block 2
      (.seq
      (.seq
      (.reg [⟨(some 18), none, (.bin .eql (.t 16) (.c (.int .i64 0)))⟩,
        ⟨(some 17), none, (.mv (.t 18))⟩] [18])
      (.cond (.t 17)
       .skip
       (.reg [⟨(some 19), none, (.bin .eql (.t 16) (.c (.int .i64 1)))⟩,
         ⟨(some 17), none, (.mv (.t 19))⟩] [19])))
      (.cond (.t 17)
       (.reg [⟨(some 21), none, (.ld true 3 (.t 3))⟩,
         ⟨(some 22), none, (.mv (.t 5))⟩,
         ⟨(some 23), none, (.call 37 [(.t 21), (.t 22), (.c (.bool false))])⟩,
         ⟨(some 20), none, (.mv (.t 23))⟩,
         ⟨(some 24), none, (.extr 0 (.t 20))⟩,
         ⟨(some 25), none, (.extr 1 (.t 20))⟩,
         ⟨none, none, (.st 3 (.t 3) (.t 24))⟩] [21, 22, 23, 20, 24, 25])
       (.seq
       (.reg [⟨(some 27), none, (.bin .eql (.t 16) (.c (.int .i64 2)))⟩,
         ⟨(some 26), none, (.mv (.t 27))⟩] [27])
       (.cond (.t 26)
        (.reg [⟨(some 29), none, (.ld true 3 (.t 3))⟩,
          ⟨(some 30), none, (.mv (.t 5))⟩,
          ⟨(some 31), none, (.call 37 [(.t 29), (.t 30), (.c (.bool true))])⟩,
          ⟨(some 28), none, (.mv (.t 31))⟩,
          ⟨(some 32), none, (.extr 0 (.t 28))⟩,
          ⟨(some 33), none, (.extr 1 (.t 28))⟩,
          ⟨none, none, (.st 3 (.t 3) (.t 32))⟩] [29, 30, 31, 28, 32, 33])
        (.seq
        (.reg [⟨(some 35), none, (.bin .eql (.t 16) (.c (.int .i64 3)))⟩,
          ⟨(some 34), none, (.mv (.t 35))⟩] [35])
        (.cond (.t 34)
         (.reg [⟨(some 37), none, (.ld true 3 (.t 3))⟩,
           ⟨(some 38), none, (.mv (.t 5))⟩,
           ⟨(some 39), none, (.call 41 [(.t 37), (.t 38)])⟩,
           ⟨(some 36), none, (.mv (.t 39))⟩,
           ⟨(some 40), none, (.extr 0 (.t 36))⟩,
           ⟨(some 41), none, (.extr 1 (.t 36))⟩,
           ⟨none, none, (.st 3 (.t 3) (.t 40))⟩] [37, 38, 39, 36, 40, 41])
         (.seq
         (.reg [⟨(some 43), none, (.bin .eql (.t 16) (.c (.int .i64 4)))⟩,
           ⟨(some 42), none, (.mv (.t 43))⟩] [43])
         (.cond (.t 42)
          (.reg [⟨(some 45), none, (.ld true 3 (.t 3))⟩,
            ⟨(some 46), none, (.mv (.t 5))⟩,
            ⟨(some 47), none, (.call 39 [(.t 45), (.t 46)])⟩,
            ⟨(some 44), none, (.mv (.t 47))⟩,
            ⟨(some 48), none, (.extr 0 (.t 44))⟩,
            ⟨(some 49), none, (.extr 1 (.t 44))⟩,
            ⟨none, none, (.st 3 (.t 3) (.t 48))⟩] [45, 46, 47, 44, 48, 49])
          .skip))))))))))))
    (.reg [⟨(some 10), none, (.mv (.t 4))⟩,
      ⟨(some 11), none, (.bin .sub (.t 10) (.c (.int .i64 1)))⟩,
      ⟨(some 4), none, (.mv (.t 11))⟩] [10, 11]))))))
  (.seq
  (.reg [⟨(some 50), none, (.ld true 3 (.t 3))⟩,
    ⟨none, none, (.st 3 (.t 2) (.t 50))⟩] [50])
  .ret))))
theorem rcq53 : resC Go.Proofs.Try.prog Go.Proofs.Try.f53.ntmps ((Go.Proofs.Try.f53.body).getD .skip) = some (strip rc53) := by kernel_rfl
def rv53 : List RV := [(.cell 2 true 3)]
theorem rvq53 : Go.Proofs.Try.f53.results.toList.mapM (resRV Go.Proofs.Try.prog) = some rv53 := by kernel_rfl

/- pagecache/pagecachelaw08.drawn -/
def rc35 : RC :=
  (.seq
  (.reg [⟨(some 2), none, (.alloc [(.lst 0 true []), (.lst 0 true []), (.lst 0 true [])])⟩] [])
  (.seq
  (.reg [⟨(some 4), none, (.mv (.t 0))⟩,
    ⟨(some 5), none, (.call 53 [(.t 4)])⟩,
    ⟨(some 3), none, (.alloc [(.lst 0 true []), (.lst 0 true []), (.lst 0 true [])])⟩,
    ⟨none, none, (.st 3 (.t 3) (.t 5))⟩] [4, 5])
  (.seq
  (.dreg 3072 3248 [⟨(some 6), none, (.faddr 0 (.t 3))⟩,
    ⟨(some 7), none, (.ld false 1 (.t 6))⟩,
    ⟨(some 8), none, (.app 1 8 (.c (.lst 0 true [])) (.t 7))⟩,
    ⟨(some 9), none, (.faddr 1 (.t 3))⟩,
    ⟨(some 10), none, (.ld false 1 (.t 9))⟩,
    ⟨(some 11), none, (.app 1 8 (.c (.lst 0 true [])) (.t 10))⟩,
    ⟨(some 12), none, (.faddr 2 (.t 3))⟩,
    ⟨(some 13), none, (.ld false 1 (.t 12))⟩,
    ⟨(some 14), none, (.app 1 8 (.c (.lst 0 true [])) (.t 13))⟩,
    ⟨(some 15), none, (.build [(.lst 0 true []), (.lst 0 true []), (.lst 0 true [])] [(0, (1, (.t 8))), (1, (1, (.t 11))), (2, (1, (.t 14)))])⟩,
    ⟨none, none, (.st 3 (.t 3) (.t 15))⟩] [6, 7, 8, 9, 10, 11, 12, 13, 14, 15] [[], [0], [1, 0], [], [3], [4, 3, 2, 0, 1], [], [6], [7, 6, 5, 1, 0, 2, 3, 4], [8, 4, 3, 2, 0, 1, 5, 6, 7], [9, 7, 6, 5, 1, 0, 2, 3, 4, 8]] [3072, 3088, 3104, 3120, 3136, 3152, 3168, 3184, 3200, 3216, 3232])
  (.seq
  (.seq
  (.reg [⟨(some 16), none, (.mv (.t 0))⟩,
    ⟨(some 17), none, (.call 16 [(.t 16), (.c (.int .i64 12))])⟩] [16])
  (.block 0
   (.seq
   (.reg [⟨(some 19), none, (.bin .eql (.t 17) (.c (.int .i64 0)))⟩,
     ⟨(some 18), none, (.mv (.t 19))⟩] [19])
   (.cond (.t 18)
    (.dreg 6144 6288 [⟨(some 20), none, (.faddr 2 (.t 3))⟩,
      ⟨(some 21), none, (.ld false 1 (.t 20))⟩,
      ⟨(some 22), none, (.mv (.t 0))⟩,
      ⟨(some 23), none, (.call 16 [(.t 22), (.c (.int .i64 12))])⟩,
      ⟨(some 24), none, (.bin .add (.c (.int .i64 1)) (.t 23))⟩,
      ⟨(some 25), none, (.bslice 1 [(.int .i64 0)] 1 [(0, (.t 24))])⟩,
      ⟨(some 26), none, (.app 1 8 (.t 21) (.t 25))⟩,
      ⟨(some 27), none, (.faddr 2 (.t 3))⟩,
      ⟨none, none, (.st 1 (.t 27) (.t 26))⟩] [20, 21, 22, 23, 24, 25, 26, 27] [[], [0], [], [2], [3, 2], [4, 2, 3], [1, 0, 5, 4, 3, 2], [6, 2, 3, 4, 5, 0, 1], [7, 6, 2, 3, 4, 5, 0, 1]] [6144, 6160, 6176, 6192, 6208, 6224, 6240, 6256, 6272])
    (.seq
    (.reg [⟨(some 29), none, (.bin .eql (.t 17) (.c (.int .i64 1)))⟩,
      ⟨(some 28), none, (.mv (.t 29))⟩] [29])
    (.cond (.t 28)
     (.dreg 8192 8320 [⟨(some 30), none, (.faddr 0 (.t 3))⟩,
       ⟨(some 31), none, (.ld false 1 (.t 30))⟩,
       ⟨(some 32), none, (.mv (.t 0))⟩,
       ⟨(some 33), none, (.call 17 [(.t 32)])⟩,
       ⟨(some 34), none, (.bslice 1 [(.int .i64 0)] 1 [(0, (.t 33))])⟩,
       ⟨(some 35), none, (.app 1 8 (.t 31) (.t 34))⟩,
       ⟨(some 36), none, (.faddr 0 (.t 3))⟩,
       ⟨none, none, (.st 1 (.t 36) (.t 35))⟩] [30, 31, 32, 33, 34, 35, 36] [[], [0], [], [2], [3, 2], [1, 0, 4, 3, 2], [5, 2, 3, 4, 0, 1], [6, 5, 2, 3, 4, 0, 1]] [8192, 8208, 8224, 8240, 8256, 8272, 8288, 8304])
     (.seq
     (.reg [⟨(some 38), none, (.bin .eql (.t 17) (.c (.int .i64 2)))⟩,
       ⟨(some 37), none, (.mv (.t 38))⟩] [38])
     (.cond (.t 37)
      (.dreg 10240 10384 [⟨(some 39), none, (.faddr 1 (.t 3))⟩,
        ⟨(some 40), none, (.ld false 1 (.t 39))⟩,
        ⟨(some 41), none, (.mv (.t 0))⟩,
        ⟨(some 42), none, (.call 16 [(.t 41), (.c (.int .i64 10))])⟩,
        ⟨(some 43), none, (.bin .add (.c (.int .i64 1)) (.t 42))⟩,
        ⟨(some 44), none, (.bslice 1 [(.int .i64 0)] 1 [(0, (.t 43))])⟩,
        ⟨(some 45), none, (.app 1 8 (.t 40) (.t 44))⟩,
        ⟨(some 46), none, (.faddr 1 (.t 3))⟩,
        ⟨none, none, (.st 1 (.t 46) (.t 45))⟩] [39, 40, 41, 42, 43, 44, 45, 46] [[], [0], [], [2], [3, 2], [4, 2, 3], [1, 0, 5, 4, 3, 2], [6, 2, 3, 4, 5, 0, 1], [7, 6, 2, 3, 4, 5, 0, 1]] [10240, 10256, 10272, 10288, 10304, 10320, 10336, 10352, 10368])
      .skip))))))))
  (.seq
  (.reg [⟨(some 47), none, (.ld true 3 (.t 3))⟩,
    ⟨none, none, (.st 3 (.t 2) (.t 47))⟩] [47])
  .ret)))))
theorem rcq35 : resC Go.Proofs.Try.prog Go.Proofs.Try.f35.ntmps ((Go.Proofs.Try.f35.body).getD .skip) = some (strip rc35) := by kernel_rfl
def rv35 : List RV := [(.cell 2 true 3)]
theorem rvq35 : Go.Proofs.Try.f35.results.toList.mapM (resRV Go.Proofs.Try.prog) = some rv35 := by kernel_rfl

def mkL (l : Ls) (f c : Int) : Ls :=
  bif c == 0 then (addF l f false).1 else bif c == 1 then (addF l f false).1 else bif c == 2 then (addF l f true).1 else bif c == 3 then (touF l f).1 else (remF l f).1
def mkStep (L : List Int) (p : Ls × Nat) : Ls × Nat := (mkL p.1 (1 + nxV L p.2 10) (nxV L (nxI L p.2) 5), nxI L (nxI L p.2))
def zeroL : Ls := ⟨[], [], []⟩
def lruF (L : List Int) (I : Nat) : Ls × Nat := repN (mkStep L) (nxV L I 12).toNat (zeroL, nxI L I)
theorem zeroL_ok : ChkP zeroL := ⟨List.nodup_nil, (fun x h => by cases h), List.Pairwise.nil, (fun x h => by cases h)⟩
theorem mkL_ok {l : Ls} (h : ChkP l) (f c : Int) : ChkP (mkL l f c) := by
  unfold mkL
  cases c == 0 <;> cases c == 1 <;> cases c == 2 <;> cases c == 3 <;> simp only [cond_true, cond_false] <;> first | exact h.add f _ | exact (h.tou f).1 | exact h.rem f
def LI (L : List Int) (p : Ls × Nat) : Prop := ChkP p.1 ∧ p.2 ≤ L.length
theorem mkStep_ok {L : List Int} (p : Ls × Nat) (h : LI L p) : LI L (mkStep L p) := ⟨mkL_ok h.1 _ _, nxI_in _ _ (nxI_in _ _ h.2)⟩
theorem lruF_ok (L : List Int) (I : Nat) (hI : I ≤ L.length) : LI L (lruF L I) := repN_ind mkStep_ok _ _ ⟨zeroL_ok, nxI_in _ _ hI⟩
set_option maxRecDepth 20000 in
set_option maxHeartbeats 1000000 in
theorem ok53 (L : List Int) (I : Nat) (hL : (L.length : Int) < 2 ^ 62) (hI : I ≤ L.length) : FnC Try.prog 53 [tpO L I] [.ptr 0 0 0] (.agg (lruF L I).1.c) [tpO L (lruF L I).2] := by
  have hI1 := nxI_in L I hI
  have e := nxV_in L I 12 (by decide) (by decide)
  refine fn_okC (ob0 := [tpO L I]) (rc := rc53) (rvs := rv53) Try.func53 rfl rcq53 rvq53 (show 1 ≤ _ by decide) ?_
  generalize hk : lruF L I = q
  rw [lruF] at hk
  repeat ((conv => whnf); first | refine Cd.seq ?_ | refine Cd.cut ?_ | refine Cd.reg ?_ | refine Cd.block ?_ | refine Cd.cond ?_ | refine Cd.dreg ?_ | refine Cd.skip ?_ | refine Cd.ret ?_ | refine Cd.exit ?_ | refine Cd.loop ?_ | refine ⟨rfl, ?_⟩ | refine ⟨Nat.le_of_ble_eq_true rfl, ?_⟩ | refine ⟨.inl rfl, ?_⟩ | refine ⟨fun h => Bool.noConfusion h, ?_⟩ | refine .inr ⟨fun _ => ⟨[0], _, _, _, ok16n L _ _ hL (by omega) (by omega) (by omega), ⟨rfl, rfl, trivial⟩, rfl, rfl, rfl, rfl, ?_⟩, (by intro h; cases h)⟩)
  conv => whnf
  generalize nxV L I 12 = n0 at e hk ⊢
  obtain ⟨n, rfl⟩ : ∃ n : Nat, n0 = n := ⟨n0.toNat, by omega⟩
  rw [Int.toNat_natCast] at hk
  refine ⟨Nat × Ls × Nat, fun p => (p.1 ≤ 12 ∧ LI L p.2) ∧ repN (mkStep L) p.1 p.2 = q, fun p => ⟨[(0, ⟨[], true, .ptr 0 0 0⟩), (2, ⟨[], true, .ptr 1 0 0⟩), (3, ⟨[], true, .ptr 2 0 0⟩), (4, ⟨[], true, .int .i64 (p.1 : Int)⟩)], [(0, tpO L p.2.2), (1, .box [.lst 0 true [], .lst 0 true [], .lst 0 true []]), (2, .box p.2.1.c)], 3⟩, fun p => p.1,
    ⟨(n, zeroL, nxI L I), ⟨⟨by show n ≤ 12; omega, zeroL_ok, hI1⟩, hk⟩, ?_⟩, fun p hp => ?_⟩
  · refine viewI [some 0, some 1, some 2] rfl rfl ?_ rfl ?_ rfl ?_
    repeat' (first | exact trivial | rfl | exact .inl rfl | exact .inr rfl | exact id | exact (fun h => Bool.noConfusion h) | refine And.intro ?_ ?_)
  obtain ⟨k, l, J⟩ := p
  obtain ⟨⟨hp1, hp2, hp2'⟩, hp3⟩ := hp
  dsimp only at hp1 hp2 hp2' hp3 ⊢
  have hsm := hp2.small
  have hJ1 := nxI_in L J hp2'
  have hJ2 := nxI_in L _ hJ1
  have hv := nxV_in L J 10 (by decide) (by decide)
  have hc := nxV_in L (nxI L J) 5 (by decide) (by decide)
  repeat ((conv => whnf); first | refine Cd.seq ?_ | refine Cd.cut ?_ | refine Cd.reg ?_ | refine Cd.block ?_ | refine Cd.cond ?_ | refine Cd.dreg ?_ | refine Cd.skip ?_ | refine Cd.ret ?_ | refine Cd.exit ?_ | refine Cd.loop ?_ | refine ⟨rfl, ?_⟩ | refine ⟨Nat.le_of_ble_eq_true rfl, ?_⟩ | refine ⟨.inl rfl, ?_⟩ | refine ⟨fun h => Bool.noConfusion h, ?_⟩ | refine .inr ⟨fun _ => ⟨[0], _, _, _, ok16n L _ _ hL (by omega) (by omega) (by omega), ⟨rfl, rfl, trivial⟩, rfl, rfl, rfl, rfl, ?_⟩, (by intro h; cases h)⟩)
  conv => whnf
  refine ⟨fun h1 => ?_, fun h1 => ?_⟩ <;> try simp only [Bool.cond_true_left, Bool.cond_false_right, Bool.not_eq_true', Bool.not_eq_false', Bool.not_not] at h1
  · have h1 : 0 < k := by simpa using h1
    obtain ⟨k, rfl⟩ : ∃ m, k = m + 1 := ⟨k - 1, by omega⟩
    rw [repN] at hp3
    have hn1 : IntKind.i64.wrap (((k + 1 : Nat) : Int) - 1) = (k : Int) := by rw [wrapI (by omega) (by omega)]; omega
    have hst := mkStep_ok (l, J) ⟨hp2, hp2'⟩
    rw [mkStep] at hp3 hst
    dsimp only at hp3 hst
    repeat ((conv => whnf); first | refine Cd.seq ?_ | refine Cd.cut ?_ | refine Cd.reg ?_ | refine Cd.block ?_ | refine Cd.cond ?_ | refine Cd.dreg ?_ | refine Cd.skip ?_ | refine Cd.ret ?_ | refine Cd.exit ?_ | refine Cd.loop ?_ | refine ⟨rfl, ?_⟩ | refine ⟨Nat.le_of_ble_eq_true rfl, ?_⟩ | refine ⟨.inl rfl, ?_⟩ | refine ⟨fun h => Bool.noConfusion h, ?_⟩ | refine .inr ⟨fun _ => ⟨[0], _, _, _, ok16n L _ _ hL (by omega) (by omega) (by omega), ⟨rfl, rfl, trivial⟩, rfl, rfl, rfl, rfl, ?_⟩, (by intro h; cases h)⟩)
    conv => whnf
    rw [wrapI (n := 1 + nxV L J 10) (by omega) (by omega)]
    generalize 1 + nxV L J 10 = f at hp3 hst ⊢
    generalize nxV L (nxI L J) 5 = c at hc hp3 hst ⊢
    obtain rfl | rfl | rfl | rfl | rfl : c = 0 ∨ c = 1 ∨ c = 2 ∨ c = 3 ∨ c = 4 := by omega
    · have hm : mkL l f 0 = (addF l f false).1 := rfl
      rw [hm] at hp3 hst
      repeat ((conv => whnf); first | refine Cd.seq ?_ | refine Cd.cut ?_ | refine Cd.reg ?_ | refine Cd.block ?_ | refine Cd.cond ?_ | refine Cd.dreg ?_ | refine Cd.skip ?_ | refine Cd.ret ?_ | refine Cd.exit ?_ | refine Cd.loop ?_ | refine ⟨rfl, ?_⟩ | refine ⟨Nat.le_of_ble_eq_true rfl, ?_⟩ | refine ⟨.inl rfl, ?_⟩ | refine ⟨fun h => Bool.noConfusion h, ?_⟩ | refine ⟨?_, fun h => Bool.noConfusion h⟩ | refine fun (_ : false = false) => ?_ | refine fun (_ : true = true) => ?_ | refine .inl ⟨_, fun _ => ⟨purA rfl, (by first | exact ok37 l f false hsm)⟩, .inl rfl, ?_⟩ | refine .inr ⟨fun _ => ⟨[0], _, _, _, ok16n L _ _ hL (by omega) (by omega) (by omega), ⟨rfl, rfl, trivial⟩, rfl, rfl, rfl, rfl, ?_⟩, (by intro h; cases h)⟩)
      conv => whnf
      rw [hn1]
      refine ⟨(k, _, nxI L (nxI L J)), ⟨⟨by show k ≤ 12; omega, hst⟩, hp3⟩, ?_, Nat.lt_succ_self k⟩
      refine viewI [some 0, some 1, some 2] rfl rfl ?_ rfl ?_ rfl ?_
      repeat' (first | exact trivial | rfl | exact .inl rfl | exact .inr rfl | exact id | exact (fun h => Bool.noConfusion h) | refine And.intro ?_ ?_)
    · have hm : mkL l f 1 = (addF l f false).1 := rfl
      rw [hm] at hp3 hst
      repeat ((conv => whnf); first | refine Cd.seq ?_ | refine Cd.cut ?_ | refine Cd.reg ?_ | refine Cd.block ?_ | refine Cd.cond ?_ | refine Cd.dreg ?_ | refine Cd.skip ?_ | refine Cd.ret ?_ | refine Cd.exit ?_ | refine Cd.loop ?_ | refine ⟨rfl, ?_⟩ | refine ⟨Nat.le_of_ble_eq_true rfl, ?_⟩ | refine ⟨.inl rfl, ?_⟩ | refine ⟨fun h => Bool.noConfusion h, ?_⟩ | refine ⟨?_, fun h => Bool.noConfusion h⟩ | refine fun (_ : false = false) => ?_ | refine fun (_ : true = true) => ?_ | refine .inl ⟨_, fun _ => ⟨purA rfl, (by first | exact ok37 l f false hsm)⟩, .inl rfl, ?_⟩ | refine .inr ⟨fun _ => ⟨[0], _, _, _, ok16n L _ _ hL (by omega) (by omega) (by omega), ⟨rfl, rfl, trivial⟩, rfl, rfl, rfl, rfl, ?_⟩, (by intro h; cases h)⟩)
      conv => whnf
      rw [hn1]
      refine ⟨(k, _, nxI L (nxI L J)), ⟨⟨by show k ≤ 12; omega, hst⟩, hp3⟩, ?_, Nat.lt_succ_self k⟩
      refine viewI [some 0, some 1, some 2] rfl rfl ?_ rfl ?_ rfl ?_
      repeat' (first | exact trivial | rfl | exact .inl rfl | exact .inr rfl | exact id | exact (fun h => Bool.noConfusion h) | refine And.intro ?_ ?_)
    · have hm : mkL l f 2 = (addF l f true).1 := rfl
      rw [hm] at hp3 hst
      repeat ((conv => whnf); first | refine Cd.seq ?_ | refine Cd.cut ?_ | refine Cd.reg ?_ | refine Cd.block ?_ | refine Cd.cond ?_ | refine Cd.dreg ?_ | refine Cd.skip ?_ | refine Cd.ret ?_ | refine Cd.exit ?_ | refine Cd.loop ?_ | refine ⟨rfl, ?_⟩ | refine ⟨Nat.le_of_ble_eq_true rfl, ?_⟩ | refine ⟨.inl rfl, ?_⟩ | refine ⟨fun h => Bool.noConfusion h, ?_⟩ | refine ⟨?_, fun h => Bool.noConfusion h⟩ | refine fun (_ : false = false) => ?_ | refine fun (_ : true = true) => ?_ | refine .inl ⟨_, fun _ => ⟨purA rfl, (by first | exact ok37 l f true hsm)⟩, .inl rfl, ?_⟩ | refine .inr ⟨fun _ => ⟨[0], _, _, _, ok16n L _ _ hL (by omega) (by omega) (by omega), ⟨rfl, rfl, trivial⟩, rfl, rfl, rfl, rfl, ?_⟩, (by intro h; cases h)⟩)
      conv => whnf
      rw [hn1]
      refine ⟨(k, _, nxI L (nxI L J)), ⟨⟨by show k ≤ 12; omega, hst⟩, hp3⟩, ?_, Nat.lt_succ_self k⟩
      refine viewI [some 0, some 1, some 2] rfl rfl ?_ rfl ?_ rfl ?_
      repeat' (first | exact trivial | rfl | exact .inl rfl | exact .inr rfl | exact id | exact (fun h => Bool.noConfusion h) | refine And.intro ?_ ?_)
    · have hm : mkL l f 3 = (touF l f).1 := rfl
      rw [hm] at hp3 hst
      repeat ((conv => whnf); first | refine Cd.seq ?_ | refine Cd.cut ?_ | refine Cd.reg ?_ | refine Cd.block ?_ | refine Cd.cond ?_ | refine Cd.dreg ?_ | refine Cd.skip ?_ | refine Cd.ret ?_ | refine Cd.exit ?_ | refine Cd.loop ?_ | refine ⟨rfl, ?_⟩ | refine ⟨Nat.le_of_ble_eq_true rfl, ?_⟩ | refine ⟨.inl rfl, ?_⟩ | refine ⟨fun h => Bool.noConfusion h, ?_⟩ | refine ⟨?_, fun h => Bool.noConfusion h⟩ | refine fun (_ : false = false) => ?_ | refine fun (_ : true = true) => ?_ | refine .inl ⟨_, fun _ => ⟨purA rfl, (by first | exact ok41 l f hsm)⟩, .inl rfl, ?_⟩ | refine .inr ⟨fun _ => ⟨[0], _, _, _, ok16n L _ _ hL (by omega) (by omega) (by omega), ⟨rfl, rfl, trivial⟩, rfl, rfl, rfl, rfl, ?_⟩, (by intro h; cases h)⟩)
      conv => whnf
      rw [hn1]
      refine ⟨(k, _, nxI L (nxI L J)), ⟨⟨by show k ≤ 12; omega, hst⟩, hp3⟩, ?_, Nat.lt_succ_self k⟩
      refine viewI [some 0, some 1, some 2] rfl rfl ?_ rfl ?_ rfl ?_
      repeat' (first | exact trivial | rfl | exact .inl rfl | exact .inr rfl | exact id | exact (fun h => Bool.noConfusion h) | refine And.intro ?_ ?_)
    · have hm : mkL l f 4 = (remF l f).1 := rfl
      rw [hm] at hp3 hst
      repeat ((conv => whnf); first | refine Cd.seq ?_ | refine Cd.cut ?_ | refine Cd.reg ?_ | refine Cd.block ?_ | refine Cd.cond ?_ | refine Cd.dreg ?_ | refine Cd.skip ?_ | refine Cd.ret ?_ | refine Cd.exit ?_ | refine Cd.loop ?_ | refine ⟨rfl, ?_⟩ | refine ⟨Nat.le_of_ble_eq_true rfl, ?_⟩ | refine ⟨.inl rfl, ?_⟩ | refine ⟨fun h => Bool.noConfusion h, ?_⟩ | refine ⟨?_, fun h => Bool.noConfusion h⟩ | refine fun (_ : false = false) => ?_ | refine fun (_ : true = true) => ?_ | refine .inl ⟨_, fun _ => ⟨purA rfl, (by first | exact ok39 l f hsm)⟩, .inl rfl, ?_⟩ | refine .inr ⟨fun _ => ⟨[0], _, _, _, ok16n L _ _ hL (by omega) (by omega) (by omega), ⟨rfl, rfl, trivial⟩, rfl, rfl, rfl, rfl, ?_⟩, (by intro h; cases h)⟩)
      conv => whnf
      rw [hn1]
      refine ⟨(k, _, nxI L (nxI L J)), ⟨⟨by show k ≤ 12; omega, hst⟩, hp3⟩, ?_, Nat.lt_succ_self k⟩
      refine viewI [some 0, some 1, some 2] rfl rfl ?_ rfl ?_ rfl ?_
      repeat' (first | exact trivial | rfl | exact .inl rfl | exact .inr rfl | exact id | exact (fun h => Bool.noConfusion h) | refine And.intro ?_ ?_)
  have h1 : k = 0 := by simp at h1; omega
  subst h1
  have hp3 : (l, J) = q := hp3
  subst hp3
  repeat ((conv => whnf); first | refine Cd.seq ?_ | refine Cd.cut ?_ | refine Cd.reg ?_ | refine Cd.block ?_ | refine Cd.cond ?_ | refine Cd.dreg ?_ | refine Cd.skip ?_ | refine Cd.ret ?_ | refine Cd.exit ?_ | refine Cd.loop ?_ | refine ⟨rfl, ?_⟩ | refine ⟨Nat.le_of_ble_eq_true rfl, ?_⟩ | refine ⟨.inl rfl, ?_⟩ | refine ⟨fun h => Bool.noConfusion h, ?_⟩ | refine .inr ⟨fun _ => ⟨[0], _, _, _, ok16n L _ _ hL (by omega) (by omega) (by omega), ⟨rfl, rfl, trivial⟩, rfl, rfl, rfl, rfl, ?_⟩, (by intro h; cases h)⟩)
  conv => whnf
  try subst hk
  refine ⟨[some 0], ?_, rfl, ?_, rfl, ?_⟩
  all_goals repeat' (first | exact trivial | rfl | exact .inl rfl | exact .inr rfl | exact id | exact (fun h => Bool.noConfusion h) | refine And.intro ?_ ?_)
def drG (L : List Int) (l : Ls) (J : Nat) : Ls × Nat :=
  bif nxV L J 12 == 0 then (⟨l.A, l.I, l.R ++ [1 + nxV L (nxI L J) 12]⟩, nxI L (nxI L J)) else
  bif nxV L J 12 == 1 then (⟨l.A ++ [oddF L (nxI L J)], l.I, l.R⟩, nxI L (nxI L J)) else
  bif nxV L J 12 == 2 then (⟨l.A, l.I ++ [1 + nxV L (nxI L J) 10], l.R⟩, nxI L (nxI L J)) else (l, nxI L J)
def drF (L : List Int) (I : Nat) : Ls × Nat := drG L (lruF L I).1 (lruF L I).2
theorem drF_ok (L : List Int) (I : Nat) (hI : I ≤ L.length) : SmallL (drF L I).1 ∧ (drF L I).2 ≤ L.length := by
  obtain ⟨h1, h2⟩ := lruF_ok L I hI
  rw [drF]
  generalize (lruF L I).1 = l at h1 ⊢
  generalize (lruF L I).2 = J at h2 ⊢
  have ha := h1.len; have hr := h1.lenR
  rw [List.length_append] at ha
  have n1 := nxI_in L J h2
  have n2 := nxI_in L _ n1
  rw [drG]
  cases nxV L J 12 == 0 <;> cases nxV L J 12 == 1 <;> cases nxV L J 12 == 2 <;> simp only [cond_true, cond_false] <;> refine ⟨⟨?_, ?_, ?_⟩, by assumption⟩ <;> (try dsimp only) <;> (try rw [List.length_append, List.length_singleton]) <;> omega
theorem snoc_take' (l : List Int) (v : Int) : ((rowsI l ++ [[V.int .i64 v]]).drop 0).take ((rowsI l).length + 1) = rowsI (l ++ [v]) := by
  rw [rowsI_snoc]; exact take0 (by rw [rowsI_len, rowsI_len]; simp)
set_option maxRecDepth 20000 in
set_option maxHeartbeats 1000000 in
theorem ok35 (L : List Int) (I : Nat) (hL : (L.length : Int) < 2 ^ 62) (hI : I ≤ L.length) : FnC Try.prog 35 [tpO L I] [.ptr 0 0 0] (.agg (drF L I).1.c) [tpO L (drF L I).2] := by
  obtain ⟨hc, hJ⟩ := lruF_ok L I hI
  refine fn_okC (ob0 := [tpO L I]) (rc := rc35) (rvs := rv35) Try.func35 rfl rcq35 rvq35 (show 1 ≤ _ by decide) ?_
  generalize hk : drF L I = q
  rw [drF] at hk
  repeat ((conv => whnf); first | refine Cd.seq ?_ | refine Cd.cut ?_ | refine Cd.reg ?_ | refine Cd.block ?_ | refine Cd.cond ?_ | refine Cd.dreg ?_ | refine Cd.skip ?_ | refine Cd.ret ?_ | refine Cd.exit ?_ | refine Cd.loop ?_ | refine ⟨rfl, ?_⟩ | refine ⟨Nat.le_of_ble_eq_true rfl, ?_⟩ | refine ⟨.inl rfl, ?_⟩ | refine ⟨fun h => Bool.noConfusion h, ?_⟩ | refine .inr ⟨fun _ => ⟨[0], _, _, _, ok16n L _ _ hL (by omega) (by omega) (by omega), ⟨rfl, rfl, trivial⟩, rfl, rfl, rfl, rfl, ?_⟩, (by intro h; cases h)⟩ | refine .inr ⟨fun _ => ⟨[0], _, _, _, ok53 L _ hL (by omega), ⟨rfl, rfl, trivial⟩, rfl, rfl, rfl, rfl, ?_⟩, (by intro h; cases h)⟩ | refine .inr ⟨fun _ => ⟨[0], _, _, _, ok17 L _ hL (by omega), ⟨rfl, rfl, trivial⟩, rfl, rfl, rfl, rfl, ?_⟩, (by intro h; cases h)⟩)
  conv => whnf
  generalize (lruF L I).1 = l at hc hk ⊢
  generalize (lruF L I).2 = J at hJ hk ⊢
  have ha := hc.len; have hr := hc.lenR
  rw [List.length_append] at ha
  have hJ1 := nxI_in L J hJ
  have hJ2 := nxI_in L _ hJ1
  rw [rowsI_len]
  refine ⟨by omega, by omega, ?_⟩
  repeat ((conv => whnf); first | refine Cd.seq ?_ | refine Cd.cut ?_ | refine Cd.reg ?_ | refine Cd.block ?_ | refine Cd.cond ?_ | refine Cd.dreg ?_ | refine Cd.skip ?_ | refine Cd.ret ?_ | refine Cd.exit ?_ | refine Cd.loop ?_ | refine ⟨rfl, ?_⟩ | refine ⟨Nat.le_of_ble_eq_true rfl, ?_⟩ | refine ⟨.inl rfl, ?_⟩ | refine ⟨fun h => Bool.noConfusion h, ?_⟩ | refine .inr ⟨fun _ => ⟨[0], _, _, _, ok16n L _ _ hL (by omega) (by omega) (by omega), ⟨rfl, rfl, trivial⟩, rfl, rfl, rfl, rfl, ?_⟩, (by intro h; cases h)⟩ | refine .inr ⟨fun _ => ⟨[0], _, _, _, ok53 L _ hL (by omega), ⟨rfl, rfl, trivial⟩, rfl, rfl, rfl, rfl, ?_⟩, (by intro h; cases h)⟩ | refine .inr ⟨fun _ => ⟨[0], _, _, _, ok17 L _ hL (by omega), ⟨rfl, rfl, trivial⟩, rfl, rfl, rfl, rfl, ?_⟩, (by intro h; cases h)⟩)
  conv => whnf
  rw [rowsI_len]
  refine ⟨by omega, by omega, ?_⟩
  repeat ((conv => whnf); first | refine Cd.seq ?_ | refine Cd.cut ?_ | refine Cd.reg ?_ | refine Cd.block ?_ | refine Cd.cond ?_ | refine Cd.dreg ?_ | refine Cd.skip ?_ | refine Cd.ret ?_ | refine Cd.exit ?_ | refine Cd.loop ?_ | refine ⟨rfl, ?_⟩ | refine ⟨Nat.le_of_ble_eq_true rfl, ?_⟩ | refine ⟨.inl rfl, ?_⟩ | refine ⟨fun h => Bool.noConfusion h, ?_⟩ | refine .inr ⟨fun _ => ⟨[0], _, _, _, ok16n L _ _ hL (by omega) (by omega) (by omega), ⟨rfl, rfl, trivial⟩, rfl, rfl, rfl, rfl, ?_⟩, (by intro h; cases h)⟩ | refine .inr ⟨fun _ => ⟨[0], _, _, _, ok53 L _ hL (by omega), ⟨rfl, rfl, trivial⟩, rfl, rfl, rfl, rfl, ?_⟩, (by intro h; cases h)⟩ | refine .inr ⟨fun _ => ⟨[0], _, _, _, ok17 L _ hL (by omega), ⟨rfl, rfl, trivial⟩, rfl, rfl, rfl, rfl, ?_⟩, (by intro h; cases h)⟩)
  conv => whnf
  rw [rowsI_len]
  refine ⟨by omega, by omega, ?_⟩
  repeat ((conv => whnf); first | refine Cd.seq ?_ | refine Cd.cut ?_ | refine Cd.reg ?_ | refine Cd.block ?_ | refine Cd.cond ?_ | refine Cd.dreg ?_ | refine Cd.skip ?_ | refine Cd.ret ?_ | refine Cd.exit ?_ | refine Cd.loop ?_ | refine ⟨rfl, ?_⟩ | refine ⟨Nat.le_of_ble_eq_true rfl, ?_⟩ | refine ⟨.inl rfl, ?_⟩ | refine ⟨fun h => Bool.noConfusion h, ?_⟩ | refine .inr ⟨fun _ => ⟨[0], _, _, _, ok16n L _ _ hL (by omega) (by omega) (by omega), ⟨rfl, rfl, trivial⟩, rfl, rfl, rfl, rfl, ?_⟩, (by intro h; cases h)⟩ | refine .inr ⟨fun _ => ⟨[0], _, _, _, ok53 L _ hL (by omega), ⟨rfl, rfl, trivial⟩, rfl, rfl, rfl, rfl, ?_⟩, (by intro h; cases h)⟩ | refine .inr ⟨fun _ => ⟨[0], _, _, _, ok17 L _ hL (by omega), ⟨rfl, rfl, trivial⟩, rfl, rfl, rfl, rfl, ?_⟩, (by intro h; cases h)⟩)
  conv => whnf
  rw [drG] at hk
  refine ⟨fun c0 => ?_, fun c0 => ?_⟩ <;> try simp only [Bool.cond_true_left, Bool.cond_false_right, Bool.not_eq_true', Bool.not_eq_false', Bool.not_not] at c0
  · rw [c0, cond_true] at hk
    subst hk
    have hv := nxV_in L (nxI L J) 12 (by decide) (by decide)
    repeat ((conv => whnf); first | refine Cd.seq ?_ | refine Cd.cut ?_ | refine Cd.reg ?_ | refine Cd.block ?_ | refine Cd.cond ?_ | refine Cd.dreg ?_ | refine Cd.skip ?_ | refine Cd.ret ?_ | refine Cd.exit ?_ | refine Cd.loop ?_ | refine ⟨rfl, ?_⟩ | refine ⟨Nat.le_of_ble_eq_true rfl, ?_⟩ | refine ⟨.inl rfl, ?_⟩ | refine ⟨fun h => Bool.noConfusion h, ?_⟩ | refine .inr ⟨fun _ => ⟨[0], _, _, _, ok16n L _ _ hL (by omega) (by omega) (by omega), ⟨rfl, rfl, trivial⟩, rfl, rfl, rfl, rfl, ?_⟩, (by intro h; cases h)⟩ | refine .inr ⟨fun _ => ⟨[0], _, _, _, ok53 L _ hL (by omega), ⟨rfl, rfl, trivial⟩, rfl, rfl, rfl, rfl, ?_⟩, (by intro h; cases h)⟩ | refine .inr ⟨fun _ => ⟨[0], _, _, _, ok17 L _ hL (by omega), ⟨rfl, rfl, trivial⟩, rfl, rfl, rfl, rfl, ?_⟩, (by intro h; cases h)⟩)
    conv => whnf
    rw [wrapI (n := 1 + nxV L (nxI L J) 12) (by omega) (by omega)]
    refine ⟨(rowsI_len _).symm, by show (((rowsI l.R).length + 1 : Nat) : Int) ≤ _; rw [rowsI_len]; omega, by show ((rowsI l.R).length + 1) * 8 ≤ _; rw [rowsI_len]; omega, ?_⟩
    repeat ((conv => whnf); first | refine Cd.seq ?_ | refine Cd.cut ?_ | refine Cd.reg ?_ | refine Cd.block ?_ | refine Cd.cond ?_ | refine Cd.dreg ?_ | refine Cd.skip ?_ | refine Cd.ret ?_ | refine Cd.exit ?_ | refine Cd.loop ?_ | refine ⟨rfl, ?_⟩ | refine ⟨Nat.le_of_ble_eq_true rfl, ?_⟩ | refine ⟨.inl rfl, ?_⟩ | refine ⟨fun h => Bool.noConfusion h, ?_⟩ | refine .inr ⟨fun _ => ⟨[0], _, _, _, ok16n L _ _ hL (by omega) (by omega) (by omega), ⟨rfl, rfl, trivial⟩, rfl, rfl, rfl, rfl, ?_⟩, (by intro h; cases h)⟩ | refine .inr ⟨fun _ => ⟨[0], _, _, _, ok53 L _ hL (by omega), ⟨rfl, rfl, trivial⟩, rfl, rfl, rfl, rfl, ?_⟩, (by intro h; cases h)⟩ | refine .inr ⟨fun _ => ⟨[0], _, _, _, ok17 L _ hL (by omega), ⟨rfl, rfl, trivial⟩, rfl, rfl, rfl, rfl, ?_⟩, (by intro h; cases h)⟩)
    conv => whnf
    try subst hk
    refine ⟨[some 0], ?_, rfl, ?_, rfl, ?_⟩
    all_goals repeat' (first | exact trivial | rfl | exact .inl rfl | exact .inr rfl | exact id | exact (fun h => Bool.noConfusion h) | refine And.intro ?_ ?_)
    · show 0 + (l.A).length ≤ _
      rw [rowsI_len]; omega
    · exact take0 (rowsI_len _)
    · show 0 + (l.I).length ≤ _
      rw [rowsI_len]; omega
    · exact take0 (rowsI_len _)
    · show 0 + ((rowsI (l.R)).length + 1) ≤ (rowsI (l.R) ++ [[V.int .i64 _]]).length
      rw [List.length_append]; simp
    · exact snoc_take' (l.R) _
  rw [c0, cond_false] at hk
  repeat ((conv => whnf); first | refine Cd.seq ?_ | refine Cd.cut ?_ | refine Cd.reg ?_ | refine Cd.block ?_ | refine Cd.cond ?_ | refine Cd.dreg ?_ | refine Cd.skip ?_ | refine Cd.ret ?_ | refine Cd.exit ?_ | refine Cd.loop ?_ | refine ⟨rfl, ?_⟩ | refine ⟨Nat.le_of_ble_eq_true rfl, ?_⟩ | refine ⟨.inl rfl, ?_⟩ | refine ⟨fun h => Bool.noConfusion h, ?_⟩ | refine .inr ⟨fun _ => ⟨[0], _, _, _, ok16n L _ _ hL (by omega) (by omega) (by omega), ⟨rfl, rfl, trivial⟩, rfl, rfl, rfl, rfl, ?_⟩, (by intro h; cases h)⟩ | refine .inr ⟨fun _ => ⟨[0], _, _, _, ok53 L _ hL (by omega), ⟨rfl, rfl, trivial⟩, rfl, rfl, rfl, rfl, ?_⟩, (by intro h; cases h)⟩ | refine .inr ⟨fun _ => ⟨[0], _, _, _, ok17 L _ hL (by omega), ⟨rfl, rfl, trivial⟩, rfl, rfl, rfl, rfl, ?_⟩, (by intro h; cases h)⟩)
  conv => whnf
  refine ⟨fun c1 => ?_, fun c1 => ?_⟩ <;> try simp only [Bool.cond_true_left, Bool.cond_false_right, Bool.not_eq_true', Bool.not_eq_false', Bool.not_not] at c1
  · rw [c1, cond_true] at hk
    subst hk
    repeat ((conv => whnf); first | refine Cd.seq ?_ | refine Cd.cut ?_ | refine Cd.reg ?_ | refine Cd.block ?_ | refine Cd.cond ?_ | refine Cd.dreg ?_ | refine Cd.skip ?_ | refine Cd.ret ?_ | refine Cd.exit ?_ | refine Cd.loop ?_ | refine ⟨rfl, ?_⟩ | refine ⟨Nat.le_of_ble_eq_true rfl, ?_⟩ | refine ⟨.inl rfl, ?_⟩ | refine ⟨fun h => Bool.noConfusion h, ?_⟩ | refine .inr ⟨fun _ => ⟨[0], _, _, _, ok16n L _ _ hL (by omega) (by omega) (by omega), ⟨rfl, rfl, trivial⟩, rfl, rfl, rfl, rfl, ?_⟩, (by intro h; cases h)⟩ | refine .inr ⟨fun _ => ⟨[0], _, _, _, ok53 L _ hL (by omega), ⟨rfl, rfl, trivial⟩, rfl, rfl, rfl, rfl, ?_⟩, (by intro h; cases h)⟩ | refine .inr ⟨fun _ => ⟨[0], _, _, _, ok17 L _ hL (by omega), ⟨rfl, rfl, trivial⟩, rfl, rfl, rfl, rfl, ?_⟩, (by intro h; cases h)⟩)
    conv => whnf
    rw [← Int.add_zero (oddF L (nxI L J)), Int.add_zero]
    refine ⟨(rowsI_len _).symm, by show (((rowsI l.A).length + 1 : Nat) : Int) ≤ _; rw [rowsI_len]; omega, by show ((rowsI l.A).length + 1) * 8 ≤ _; rw [rowsI_len]; omega, ?_⟩
    repeat ((conv => whnf); first | refine Cd.seq ?_ | refine Cd.cut ?_ | refine Cd.reg ?_ | refine Cd.block ?_ | refine Cd.cond ?_ | refine Cd.dreg ?_ | refine Cd.skip ?_ | refine Cd.ret ?_ | refine Cd.exit ?_ | refine Cd.loop ?_ | refine ⟨rfl, ?_⟩ | refine ⟨Nat.le_of_ble_eq_true rfl, ?_⟩ | refine ⟨.inl rfl, ?_⟩ | refine ⟨fun h => Bool.noConfusion h, ?_⟩ | refine .inr ⟨fun _ => ⟨[0], _, _, _, ok16n L _ _ hL (by omega) (by omega) (by omega), ⟨rfl, rfl, trivial⟩, rfl, rfl, rfl, rfl, ?_⟩, (by intro h; cases h)⟩ | refine .inr ⟨fun _ => ⟨[0], _, _, _, ok53 L _ hL (by omega), ⟨rfl, rfl, trivial⟩, rfl, rfl, rfl, rfl, ?_⟩, (by intro h; cases h)⟩ | refine .inr ⟨fun _ => ⟨[0], _, _, _, ok17 L _ hL (by omega), ⟨rfl, rfl, trivial⟩, rfl, rfl, rfl, rfl, ?_⟩, (by intro h; cases h)⟩)
    conv => whnf
    try subst hk
    refine ⟨[some 0], ?_, rfl, ?_, rfl, ?_⟩
    all_goals repeat' (first | exact trivial | rfl | exact .inl rfl | exact .inr rfl | exact id | exact (fun h => Bool.noConfusion h) | refine And.intro ?_ ?_)
    · show 0 + ((rowsI (l.A)).length + 1) ≤ (rowsI (l.A) ++ [[V.int .i64 _]]).length
      rw [List.length_append]; simp
    · exact snoc_take' (l.A) _
    · show 0 + (l.I).length ≤ _
      rw [rowsI_len]; omega
    · exact take0 (rowsI_len _)
    · show 0 + (l.R).length ≤ _
      rw [rowsI_len]; omega
    · exact take0 (rowsI_len _)
  rw [c1, cond_false] at hk
  repeat ((conv => whnf); first | refine Cd.seq ?_ | refine Cd.cut ?_ | refine Cd.reg ?_ | refine Cd.block ?_ | refine Cd.cond ?_ | refine Cd.dreg ?_ | refine Cd.skip ?_ | refine Cd.ret ?_ | refine Cd.exit ?_ | refine Cd.loop ?_ | refine ⟨rfl, ?_⟩ | refine ⟨Nat.le_of_ble_eq_true rfl, ?_⟩ | refine ⟨.inl rfl, ?_⟩ | refine ⟨fun h => Bool.noConfusion h, ?_⟩ | refine .inr ⟨fun _ => ⟨[0], _, _, _, ok16n L _ _ hL (by omega) (by omega) (by omega), ⟨rfl, rfl, trivial⟩, rfl, rfl, rfl, rfl, ?_⟩, (by intro h; cases h)⟩ | refine .inr ⟨fun _ => ⟨[0], _, _, _, ok53 L _ hL (by omega), ⟨rfl, rfl, trivial⟩, rfl, rfl, rfl, rfl, ?_⟩, (by intro h; cases h)⟩ | refine .inr ⟨fun _ => ⟨[0], _, _, _, ok17 L _ hL (by omega), ⟨rfl, rfl, trivial⟩, rfl, rfl, rfl, rfl, ?_⟩, (by intro h; cases h)⟩)
  conv => whnf
  refine ⟨fun c2 => ?_, fun c2 => ?_⟩ <;> try simp only [Bool.cond_true_left, Bool.cond_false_right, Bool.not_eq_true', Bool.not_eq_false', Bool.not_not] at c2
  · rw [c2, cond_true] at hk
    subst hk
    have hv := nxV_in L (nxI L J) 10 (by decide) (by decide)
    repeat ((conv => whnf); first | refine Cd.seq ?_ | refine Cd.cut ?_ | refine Cd.reg ?_ | refine Cd.block ?_ | refine Cd.cond ?_ | refine Cd.dreg ?_ | refine Cd.skip ?_ | refine Cd.ret ?_ | refine Cd.exit ?_ | refine Cd.loop ?_ | refine ⟨rfl, ?_⟩ | refine ⟨Nat.le_of_ble_eq_true rfl, ?_⟩ | refine ⟨.inl rfl, ?_⟩ | refine ⟨fun h => Bool.noConfusion h, ?_⟩ | refine .inr ⟨fun _ => ⟨[0], _, _, _, ok16n L _ _ hL (by omega) (by omega) (by omega), ⟨rfl, rfl, trivial⟩, rfl, rfl, rfl, rfl, ?_⟩, (by intro h; cases h)⟩ | refine .inr ⟨fun _ => ⟨[0], _, _, _, ok53 L _ hL (by omega), ⟨rfl, rfl, trivial⟩, rfl, rfl, rfl, rfl, ?_⟩, (by intro h; cases h)⟩ | refine .inr ⟨fun _ => ⟨[0], _, _, _, ok17 L _ hL (by omega), ⟨rfl, rfl, trivial⟩, rfl, rfl, rfl, rfl, ?_⟩, (by intro h; cases h)⟩)
    conv => whnf
    rw [wrapI (n := 1 + nxV L (nxI L J) 10) (by omega) (by omega)]
    refine ⟨(rowsI_len _).symm, by show (((rowsI l.I).length + 1 : Nat) : Int) ≤ _; rw [rowsI_len]; omega, by show ((rowsI l.I).length + 1) * 8 ≤ _; rw [rowsI_len]; omega, ?_⟩
    repeat ((conv => whnf); first | refine Cd.seq ?_ | refine Cd.cut ?_ | refine Cd.reg ?_ | refine Cd.block ?_ | refine Cd.cond ?_ | refine Cd.dreg ?_ | refine Cd.skip ?_ | refine Cd.ret ?_ | refine Cd.exit ?_ | refine Cd.loop ?_ | refine ⟨rfl, ?_⟩ | refine ⟨Nat.le_of_ble_eq_true rfl, ?_⟩ | refine ⟨.inl rfl, ?_⟩ | refine ⟨fun h => Bool.noConfusion h, ?_⟩ | refine .inr ⟨fun _ => ⟨[0], _, _, _, ok16n L _ _ hL (by omega) (by omega) (by omega), ⟨rfl, rfl, trivial⟩, rfl, rfl, rfl, rfl, ?_⟩, (by intro h; cases h)⟩ | refine .inr ⟨fun _ => ⟨[0], _, _, _, ok53 L _ hL (by omega), ⟨rfl, rfl, trivial⟩, rfl, rfl, rfl, rfl, ?_⟩, (by intro h; cases h)⟩ | refine .inr ⟨fun _ => ⟨[0], _, _, _, ok17 L _ hL (by omega), ⟨rfl, rfl, trivial⟩, rfl, rfl, rfl, rfl, ?_⟩, (by intro h; cases h)⟩)
    conv => whnf
    try subst hk
    refine ⟨[some 0], ?_, rfl, ?_, rfl, ?_⟩
    all_goals repeat' (first | exact trivial | rfl | exact .inl rfl | exact .inr rfl | exact id | exact (fun h => Bool.noConfusion h) | refine And.intro ?_ ?_)
    · show 0 + (l.A).length ≤ _
      rw [rowsI_len]; omega
    · exact take0 (rowsI_len _)
    · show 0 + ((rowsI (l.I)).length + 1) ≤ (rowsI (l.I) ++ [[V.int .i64 _]]).length
      rw [List.length_append]; simp
    · exact snoc_take' (l.I) _
    · show 0 + (l.R).length ≤ _
      rw [rowsI_len]; omega
    · exact take0 (rowsI_len _)
  rw [c2, cond_false] at hk
  subst hk
  repeat ((conv => whnf); first | refine Cd.seq ?_ | refine Cd.cut ?_ | refine Cd.reg ?_ | refine Cd.block ?_ | refine Cd.cond ?_ | refine Cd.dreg ?_ | refine Cd.skip ?_ | refine Cd.ret ?_ | refine Cd.exit ?_ | refine Cd.loop ?_ | refine ⟨rfl, ?_⟩ | refine ⟨Nat.le_of_ble_eq_true rfl, ?_⟩ | refine ⟨.inl rfl, ?_⟩ | refine ⟨fun h => Bool.noConfusion h, ?_⟩ | refine .inr ⟨fun _ => ⟨[0], _, _, _, ok16n L _ _ hL (by omega) (by omega) (by omega), ⟨rfl, rfl, trivial⟩, rfl, rfl, rfl, rfl, ?_⟩, (by intro h; cases h)⟩ | refine .inr ⟨fun _ => ⟨[0], _, _, _, ok53 L _ hL (by omega), ⟨rfl, rfl, trivial⟩, rfl, rfl, rfl, rfl, ?_⟩, (by intro h; cases h)⟩ | refine .inr ⟨fun _ => ⟨[0], _, _, _, ok17 L _ hL (by omega), ⟨rfl, rfl, trivial⟩, rfl, rfl, rfl, rfl, ?_⟩, (by intro h; cases h)⟩)
  conv => whnf
  try subst hk
  refine ⟨[some 0], ?_, rfl, ?_, rfl, ?_⟩
  all_goals repeat' (first | exact trivial | rfl | exact .inl rfl | exact .inr rfl | exact id | exact (fun h => Bool.noConfusion h) | refine And.intro ?_ ?_)
  · show 0 + (l.A).length ≤ _
    rw [rowsI_len]; omega
  · exact take0 (rowsI_len _)
  · show 0 + (l.I).length ≤ _
    rw [rowsI_len]; omega
  · exact take0 (rowsI_len _)
  · show 0 + (l.R).length ≤ _
    rw [rowsI_len]; omega
  · exact take0 (rowsI_len _)
end Go.Proofs.Ytcifhjkodbaghaa

