/- Caches. -/
import Derived.Test.YtmhapcbjjpadnaaGreatGD
import Derived.Test.YtmhapcbjjpadnaaGreatGF
import Derived.Test.YtmhapcbjjpadnaaGreatGC
import Derived.Test.YtmhapcbjjpadnaaGreatXYA
set_option linter.unusedSimpArgs false
set_option linter.unusedVariables false
set_option maxRecDepth 40000
namespace Go.Proofs.YtmhapcbjjpadnaaGreat
open Go Go.Sk Go.RowKit

theorem r93 : FnC Tryz.prog 93 [] [.agg emT.c, .agg emT.c] (.bool true) [] := run_eq E1 40 (by kernel_rfl)
theorem sameR_refl (z : List Zn) : sameR z z = true := (sameR_iff z z).2 ⟨rfl, fun i h _ => (eqZ_iff _ _).2 ⟨rfl, rfl, rfl, rfl, rfl, rfl⟩⟩
theorem caN_small (l : List (Int × Int)) (s : List Int) (g : List Gr) (hl : l.length ≤ 100000) (hg : g.length ≤ 100000) : SmallC (caN l s g).1 ∧ ∀ f ∈ (caN l s g).1.fl, f.tr = emT := by
  have h0 : SmallC noC ∧ ∀ f ∈ noC.fl, f.tr = emT := ⟨⟨Nat.zero_le _, Nat.zero_le _, ⟨Nat.zero_le _, fun z hz => absurd hz (List.not_mem_nil)⟩, Nat.zero_le _, Nat.zero_le _, fun z hz => absurd hz (List.not_mem_nil), Nat.zero_le _, Nat.zero_le _⟩, fun f hf => absurd hf (List.not_mem_nil)⟩
  unfold caN
  cases (!locF l || !grF g) with
  | true => exact h0
  | false =>
    cases (!chg0 g) with
    | true => exact h0
    | false =>
      cases hz : ((newF s).2 != 0) with
      | true => exact h0
      | false =>
        have hN := newF_new (s := s) (by simpa using hz)
        have hn := hN.num
        refine ⟨⟨?_, ?_, check_small hN.chk, hg, ?_, ?_, ?_, Nat.zero_le _⟩, ?_⟩
        · show (l.map mkF).length ≤ _; rw [List.length_map]; exact hl
        · show (List.replicate _ fre).length ≤ _; rw [rep_len]; omega
        · show (List.replicate _ l0).length ≤ _; rw [rep_len]; exact hg
        · intro x hx
          obtain rfl := List.eq_of_mem_replicate (show x ∈ List.replicate g.length l0 from hx)
          exact ⟨by decide, by decide, by decide⟩
        · show (List.replicate _ (0 : Int)).length ≤ _; rw [rep_len]; exact hg
        · intro f hf
          obtain ⟨p, -, rfl⟩ := List.mem_map.1 (show f ∈ l.map mkF from hf)
          rfl
theorem caN_ok (l : List (Int × Int)) (s : List Int) (g : List Gr) (h : (caN l s g).2 = 0) : FnC Tryz.prog 37 [] [.agg (caN l s g).1.c] (.bool true) [] := by
  revert h
  unfold caN
  cases h1 : (!locF l || !grF g) with
  | true => exact fun h => absurd (show (1 : Int) = 0 from h) (by decide)
  | false =>
    cases h2 : (!chg0 g) with
    | true => exact fun h => absurd (show (1 : Int) = 0 from h) (by decide)
    | false =>
      cases hz : ((newF s).2 != 0) with
      | true => exact fun h => by have h : (newF s).2 = 0 := h; simp [h] at hz
      | false =>
        intro _
        simp only [Bool.or_eq_false_iff, Bool.not_eq_false'] at h1 h2
        exact ok37 l _ g ⟨h1.1, h1.2, h2, newF_new (by simpa using hz)⟩
theorem putChg (g : List Gr) (i : Nat) (h : i < g.length) : (rowsG g).set i (putCells 3 ((rowsG g).getD i []) 2 [.int .i64 0]) = rowsG (g.set i ⟨(g.getD i g0).lim, (g.getD i g0).pro, 0⟩) := by
  have e : (rowsG g).getD i [] = (g.getD i g0).c := by have := rowsG_getK g i h; rwa [Int.toNat_natCast] at this
  rw [e, ← rowsG_set]; rfl
theorem le_new {k : Nat} {l : List (Int × Int)} {s : List Int} {g : List Gr} {xs : List V} (h : FnC Tryz.prog k [] xs (.tup [(rawN l s g).1, .int .i64 (rawN l s g).2]) []) : FnC Tryz.prog k [] xs (.tup [.agg (caN l s g).1.c, .int .i64 (caN l s g).2]) [] := h.le (LeVs.refl' _ _ rfl) (raw_le l s g) (LeOs.refl _)
end Go.Proofs.YtmhapcbjjpadnaaGreat

set_option maxRecDepth 40000
namespace Go.Proofs.YtmhapcbjjpadnaaGreat
open Go Go.Sk Go.RowKit

set_option maxRecDepth 20000 in
set_option maxHeartbeats 4000000 in
theorem ok6 (L : List Int) (hL : (L.length : Int) < 2 ^ 62) : FnC Tryz.prog 6 [] [.lst 1 false (rowsI L)] (.bool true) [] := by
  refine fn_okX (ob0 := []) [.c 32, .s 50, .s 71] Tryz.func6 rfl rfl rfl rfl ?_
  have hJ0 := nxI_in L 0 (by omega)
  have a0 := nxV_in L 0 5 (by decide) (by decide)
  repeat ((conv => whnf); first | refine Cd.go ?_ | refine ⟨rfl, ?_⟩ | refine rq_dec ⟨.inl rfl, rfl⟩ ?_ | refine rq_dec rfl ?_ | refine ⟨Nat.le_of_ble_eq_true rfl, ?_⟩ | refine ⟨.inl rfl, ?_⟩ | refine ⟨fun _ => ⟨rfl, Nat.le_of_ble_eq_true rfl⟩, ?_⟩ | refine ⟨fun _ => Nat.le_of_ble_eq_true rfl, ?_⟩ | refine ⟨fun h => Bool.noConfusion h, ?_⟩ | refine .inr ⟨fun _ => ⟨[0], _, _, _, ok15n L _ _ hL (by omega) (by omega) (by omega), ⟨rfl, trivial⟩, rfl, rfl, rfl, ?_⟩, (by intro h; cases h)⟩)
  conv => whnf
  refine .inr ⟨fun _ => ⟨[0], _, _, _, ok15n L 0 5 hL (by omega) (by decide) (by decide), ⟨rfl, trivial⟩, rfl, rfl, rfl, ?_⟩, (by intro h; cases h)⟩
  generalize nxV L 0 5 = n0 at a0 ⊢
  obtain ⟨n, rfl⟩ : ∃ n : Nat, n0 = n := ⟨n0.toNat, by omega⟩
  generalize nxI L 0 = J0 at hJ0 ⊢
  repeat ((conv => whnf); first | refine Cd.go ?_ | refine ⟨rfl, ?_⟩ | refine rq_dec ⟨.inl rfl, rfl⟩ ?_ | refine rq_dec rfl ?_ | refine ⟨Nat.le_of_ble_eq_true rfl, ?_⟩ | refine ⟨.inl rfl, ?_⟩ | refine ⟨fun _ => ⟨rfl, Nat.le_of_ble_eq_true rfl⟩, ?_⟩ | refine ⟨fun _ => Nat.le_of_ble_eq_true rfl, ?_⟩ | refine ⟨fun h => Bool.noConfusion h, ?_⟩ | refine .inr ⟨fun _ => ⟨[0], _, _, _, ok15n L _ _ hL (by omega) (by omega) (by omega), ⟨rfl, trivial⟩, rfl, rfl, rfl, ?_⟩, (by intro h; cases h)⟩)
  conv => whnf
  refine ⟨Nat × Nat × List (Int × Int), fun p => p.2.1 ≤ L.length ∧ p.1 + p.2.2.length ≤ 5, fun p => ⟨[(3, ⟨[], true, .ptr 0 0 0⟩), (4, ⟨[], true, .sl 1 0 p.2.2.length⟩), (5, ⟨[], true, .int .i64 (p.1 : Int)⟩)], [(0, tpO L p.2.1), (1, .row 2 (rowsP p.2.2))], 2⟩, fun p => p.1, ⟨(n, J0, []), ⟨hJ0, by simp; omega⟩, ?_⟩, fun p hp => ?_⟩
  · refine viewI [some 0, none] rfl rfl ?_ rfl ?_ rfl ?_
    repeat' (first | exact trivial | rfl | exact .inl rfl | exact .inr rfl | exact id | exact (fun h => Bool.noConfusion h) | refine And.intro ?_ ?_)
  obtain ⟨m, J, l⟩ := p
  obtain ⟨hp1, hp2⟩ := hp
  dsimp only at hp1 hp2 ⊢
  have hJ1 := nxI_in L J hp1
  have hJ2 := nxI_in L _ hJ1
  repeat ((conv => whnf); first | refine Cd.go ?_ | refine ⟨rfl, ?_⟩ | refine rq_dec ⟨.inl rfl, rfl⟩ ?_ | refine rq_dec rfl ?_ | refine ⟨Nat.le_of_ble_eq_true rfl, ?_⟩ | refine ⟨.inl rfl, ?_⟩ | refine ⟨fun _ => ⟨rfl, Nat.le_of_ble_eq_true rfl⟩, ?_⟩ | refine ⟨fun _ => Nat.le_of_ble_eq_true rfl, ?_⟩ | refine ⟨fun h => Bool.noConfusion h, ?_⟩ | refine .inr ⟨fun _ => ⟨[0], _, _, _, ok15n L _ _ hL (by omega) (by omega) (by omega), ⟨rfl, trivial⟩, rfl, rfl, rfl, ?_⟩, (by intro h; cases h)⟩)
  conv => whnf
  refine cq_intro (fun h1 => ?_) (fun h1 => ?_) <;> try simp only [Bool.cond_true_left, Bool.cond_false_right, Bool.not_eq_true', Bool.not_eq_false', Bool.not_not] at h1
  · have h1 : 0 < m := by simpa using h1
    obtain ⟨m, rfl⟩ : ∃ m', m = m' + 1 := ⟨m - 1, by omega⟩
    repeat ((conv => whnf); first | refine Cd.go ?_ | refine ⟨rfl, ?_⟩ | refine rq_dec ⟨.inl rfl, rfl⟩ ?_ | refine rq_dec rfl ?_ | refine ⟨Nat.le_of_ble_eq_true rfl, ?_⟩ | refine ⟨.inl rfl, ?_⟩ | refine ⟨fun _ => ⟨rfl, Nat.le_of_ble_eq_true rfl⟩, ?_⟩ | refine ⟨fun _ => Nat.le_of_ble_eq_true rfl, ?_⟩ | refine ⟨fun h => Bool.noConfusion h, ?_⟩ | refine .inr ⟨fun _ => ⟨[0], _, _, _, ok15n L _ _ hL (by omega) (by omega) (by omega), ⟨rfl, trivial⟩, rfl, rfl, rfl, ?_⟩, (by intro h; cases h)⟩)
    conv => whnf
    refine rq_dec (rowsP_len l).symm (rq_app (by rw [rowsP_len]; show ((l.length + 1 : Nat) : Int) ≤ _; omega) (by rw [rowsP_len]; show (l.length + 1) * 16 ≤ _; omega) ?_)
    repeat ((conv => whnf); first | refine Cd.go ?_ | refine ⟨rfl, ?_⟩ | refine rq_dec ⟨.inl rfl, rfl⟩ ?_ | refine rq_dec rfl ?_ | refine ⟨Nat.le_of_ble_eq_true rfl, ?_⟩ | refine ⟨.inl rfl, ?_⟩ | refine ⟨fun _ => ⟨rfl, Nat.le_of_ble_eq_true rfl⟩, ?_⟩ | refine ⟨fun _ => Nat.le_of_ble_eq_true rfl, ?_⟩ | refine ⟨fun h => Bool.noConfusion h, ?_⟩ | refine .inr ⟨fun _ => ⟨[0], _, _, _, ok15n L _ _ hL (by omega) (by omega) (by omega), ⟨rfl, trivial⟩, rfl, rfl, rfl, ?_⟩, (by intro h; cases h)⟩)
    conv => whnf
    rw [wrapI (n := ((m + 1 : Nat) : Int) - 1) (by omega) (by omega), show (((m + 1 : Nat) : Int) - 1) = (m : Int) by omega]
    refine ⟨(m, nxI L (nxI L J), l ++ [(nxV L J 5, nxV L (nxI L J) 8)]), ⟨hJ2, by show m + (l ++ [_]).length ≤ 5; rw [List.length_append, List.length_singleton]; omega⟩, ?_, Nat.lt_succ_self m⟩
    refine viewI [some 0, some ?k39_1] rfl rfl ?h3_39 ?h4_39 ?h5_39 ?h6_39 ?h7_39
    case' h7_39 => repeat' (first | exact trivial | rfl | exact .inl rfl | exact .inr rfl | exact id | exact (fun h => Bool.noConfusion h) | refine And.intro ?_ ?_)
    case' h4_39 => rfl
    case' h6_39 => rfl
    case' h3_39 => repeat' (first | exact trivial | rfl | exact .inl rfl | exact .inr rfl | exact id | exact (fun h => Bool.noConfusion h) | refine And.intro ?_ ?_)
    case' h5_39 => repeat' (first | exact trivial | rfl | exact .inl rfl | exact .inr rfl | exact id | exact (fun h => Bool.noConfusion h) | refine And.intro ?_ ?_)
    · exact rowsP_snoc l (nxV L J 5, nxV L (nxI L J) 8)
    · show (rowsP l).length + 1 = (l ++ [_]).length
      rw [rowsP_len, List.length_append]; rfl
  clear h1
  repeat ((conv => whnf); first | refine Cd.go ?_ | refine ⟨rfl, ?_⟩ | refine rq_dec ⟨.inl rfl, rfl⟩ ?_ | refine rq_dec rfl ?_ | refine ⟨Nat.le_of_ble_eq_true rfl, ?_⟩ | refine ⟨.inl rfl, ?_⟩ | refine ⟨fun _ => ⟨rfl, Nat.le_of_ble_eq_true rfl⟩, ?_⟩ | refine ⟨fun _ => Nat.le_of_ble_eq_true rfl, ?_⟩ | refine ⟨fun h => Bool.noConfusion h, ?_⟩ | refine .inr ⟨fun _ => ⟨[0], _, _, _, ok15n L _ _ hL (by omega) (by omega) (by omega), ⟨rfl, trivial⟩, rfl, rfl, rfl, ?_⟩, (by intro h; cases h)⟩)
  conv => whnf
  refine ⟨Nat × List (Int × Int), fun p => p.1 ≤ L.length ∧ p.2.length ≤ 6, fun p => ⟨[(3, ⟨[], true, .ptr 0 0 0⟩), (4, ⟨[], true, .lst 2 false (rowsP p.2)⟩)], [(0, tpO L p.1)], 1⟩, ?_, fun p hp => ?_⟩
  · repeat ((conv => whnf); first | refine Cd.go ?_ | refine ⟨rfl, ?_⟩ | refine rq_dec ⟨.inl rfl, rfl⟩ ?_ | refine rq_dec rfl ?_ | refine ⟨Nat.le_of_ble_eq_true rfl, ?_⟩ | refine ⟨.inl rfl, ?_⟩ | refine ⟨fun _ => ⟨rfl, Nat.le_of_ble_eq_true rfl⟩, ?_⟩ | refine ⟨fun _ => Nat.le_of_ble_eq_true rfl, ?_⟩ | refine ⟨fun h => Bool.noConfusion h, ?_⟩ | refine .inr ⟨fun _ => ⟨[0], _, _, _, ok15n L _ _ hL (by omega) (by omega) (by omega), ⟨rfl, trivial⟩, rfl, rfl, rfl, ?_⟩, (by intro h; cases h)⟩)
    conv => whnf
    refine cq_intro (fun h2 => ?_) (fun h2 => ?_) <;> try simp only [Bool.cond_true_left, Bool.cond_false_right, Bool.not_eq_true', Bool.not_eq_false', Bool.not_not] at h2
    · have hJ3 := nxI_in L _ hJ2
      repeat ((conv => whnf); first | refine Cd.go ?_ | refine ⟨rfl, ?_⟩ | refine rq_dec ⟨.inl rfl, rfl⟩ ?_ | refine rq_dec rfl ?_ | refine ⟨Nat.le_of_ble_eq_true rfl, ?_⟩ | refine ⟨.inl rfl, ?_⟩ | refine ⟨fun _ => ⟨rfl, Nat.le_of_ble_eq_true rfl⟩, ?_⟩ | refine ⟨fun _ => Nat.le_of_ble_eq_true rfl, ?_⟩ | refine ⟨fun h => Bool.noConfusion h, ?_⟩ | refine .inr ⟨fun _ => ⟨[0], _, _, _, ok15n L _ _ hL (by omega) (by omega) (by omega), ⟨rfl, trivial⟩, rfl, rfl, rfl, ?_⟩, (by intro h; cases h)⟩)
      conv => whnf
      refine .inr ⟨fun _ => ⟨[0], _, _, _, ok34 L (nxI L J) hL hJ1, ⟨rfl, trivial⟩, rfl, rfl, rfl, ?_⟩, (by intro h; cases h)⟩
      repeat ((conv => whnf); first | refine Cd.go ?_ | refine ⟨rfl, ?_⟩ | refine rq_dec ⟨.inl rfl, rfl⟩ ?_ | refine rq_dec rfl ?_ | refine ⟨Nat.le_of_ble_eq_true rfl, ?_⟩ | refine ⟨.inl rfl, ?_⟩ | refine ⟨fun _ => ⟨rfl, Nat.le_of_ble_eq_true rfl⟩, ?_⟩ | refine ⟨fun _ => Nat.le_of_ble_eq_true rfl, ?_⟩ | refine ⟨fun h => Bool.noConfusion h, ?_⟩ | refine .inr ⟨fun _ => ⟨[0], _, _, _, ok15n L _ _ hL (by omega) (by omega) (by omega), ⟨rfl, trivial⟩, rfl, rfl, rfl, ?_⟩, (by intro h; cases h)⟩)
      conv => whnf
      refine .inr ⟨fun _ => ⟨[0], _, _, _, ok34 L (nxI L (nxI L J)) hL hJ2, ⟨rfl, trivial⟩, rfl, rfl, rfl, ?_⟩, (by intro h; cases h)⟩
      repeat ((conv => whnf); first | refine Cd.go ?_ | refine ⟨rfl, ?_⟩ | refine rq_dec ⟨.inl rfl, rfl⟩ ?_ | refine rq_dec rfl ?_ | refine ⟨Nat.le_of_ble_eq_true rfl, ?_⟩ | refine ⟨.inl rfl, ?_⟩ | refine ⟨fun _ => ⟨rfl, Nat.le_of_ble_eq_true rfl⟩, ?_⟩ | refine ⟨fun _ => Nat.le_of_ble_eq_true rfl, ?_⟩ | refine ⟨fun h => Bool.noConfusion h, ?_⟩ | refine .inr ⟨fun _ => ⟨[0], _, _, _, ok15n L _ _ hL (by omega) (by omega) (by omega), ⟨rfl, trivial⟩, rfl, rfl, rfl, ?_⟩, (by intro h; cases h)⟩)
      conv => whnf
      refine rq_dec (rowsP_len l).symm (rq_app (by rw [rowsP_len]; show ((l.length + 1 : Nat) : Int) ≤ _; omega) (by rw [rowsP_len]; show (l.length + 1) * 16 ≤ _; omega) ?_)
      repeat ((conv => whnf); first | refine Cd.go ?_ | refine ⟨rfl, ?_⟩ | refine rq_dec ⟨.inl rfl, rfl⟩ ?_ | refine rq_dec rfl ?_ | refine ⟨Nat.le_of_ble_eq_true rfl, ?_⟩ | refine ⟨.inl rfl, ?_⟩ | refine ⟨fun _ => ⟨rfl, Nat.le_of_ble_eq_true rfl⟩, ?_⟩ | refine ⟨fun _ => Nat.le_of_ble_eq_true rfl, ?_⟩ | refine ⟨fun h => Bool.noConfusion h, ?_⟩ | refine .inr ⟨fun _ => ⟨[0], _, _, _, ok15n L _ _ hL (by omega) (by omega) (by omega), ⟨rfl, trivial⟩, rfl, rfl, rfl, ?_⟩, (by intro h; cases h)⟩)
      conv => whnf
      refine ⟨(nxI L (nxI L (nxI L J)), l ++ [(oddF L (nxI L J), oddF L (nxI L (nxI L J)))]), ⟨hJ3, by show (l ++ [_]).length ≤ 6; rw [List.length_append, List.length_singleton]; omega⟩, ?_⟩
      refine viewI [some 0] rfl rfl ?_ rfl ?_ rfl ?_
      repeat' (first | exact trivial | rfl | exact .inl rfl | exact .inr rfl | exact id | exact (fun h => Bool.noConfusion h) | refine And.intro ?_ ?_)
      · show 0 + ((rowsP l).length + 1) ≤ (rowsP l ++ [[V.int .i64 (oddF L (nxI L J)), V.int .i64 (oddF L (nxI L (nxI L J)))]]).length
        rw [List.length_append, List.length_singleton]; omega
      · exact takeAll (rowsP_snoc l (oddF L (nxI L J), oddF L (nxI L (nxI L J)))) (List.length_append ..)
    repeat ((conv => whnf); first | refine Cd.go ?_ | refine ⟨rfl, ?_⟩ | refine rq_dec ⟨.inl rfl, rfl⟩ ?_ | refine rq_dec rfl ?_ | refine ⟨Nat.le_of_ble_eq_true rfl, ?_⟩ | refine ⟨.inl rfl, ?_⟩ | refine ⟨fun _ => ⟨rfl, Nat.le_of_ble_eq_true rfl⟩, ?_⟩ | refine ⟨fun _ => Nat.le_of_ble_eq_true rfl, ?_⟩ | refine ⟨fun h => Bool.noConfusion h, ?_⟩ | refine .inr ⟨fun _ => ⟨[0], _, _, _, ok15n L _ _ hL (by omega) (by omega) (by omega), ⟨rfl, trivial⟩, rfl, rfl, rfl, ?_⟩, (by intro h; cases h)⟩)
    conv => whnf
    refine ⟨(nxI L J, l), ⟨hJ1, by show l.length ≤ 6; omega⟩, ?_⟩
    refine viewI [some 0] rfl rfl ?_ rfl ?_ rfl ?_
    repeat' (first | exact trivial | rfl | exact .inl rfl | exact .inr rfl | exact id | exact (fun h => Bool.noConfusion h) | refine And.intro ?_ ?_)
    · rw [rowsP_len]; omega
    · rw [List.drop_zero, List.take_of_length_le (by rw [rowsP_len]; exact Nat.le_refl _)]
  clear hJ1 hJ2 hp1 hp2
  obtain ⟨J, l⟩ := p
  obtain ⟨hp1, hp2⟩ := hp
  dsimp only at hp1 hp2 ⊢
  have hJ1 := nxI_in L J hp1
  have hJ2 := nxI_in L _ hJ1
  have hJ3 := nxI_in L _ hJ2
  have v0 := nxV_in L J 20 (by decide) (by decide)
  have v2 := nxV_in L (nxI L (nxI L J)) 2 (by decide) (by decide)
  repeat ((conv => whnf); first | refine Cd.go ?_ | refine ⟨rfl, ?_⟩ | refine rq_dec ⟨.inl rfl, rfl⟩ ?_ | refine rq_dec rfl ?_ | refine ⟨Nat.le_of_ble_eq_true rfl, ?_⟩ | refine ⟨.inl rfl, ?_⟩ | refine ⟨fun _ => ⟨rfl, Nat.le_of_ble_eq_true rfl⟩, ?_⟩ | refine ⟨fun _ => Nat.le_of_ble_eq_true rfl, ?_⟩ | refine ⟨fun h => Bool.noConfusion h, ?_⟩ | refine .inr ⟨fun _ => ⟨[0], _, _, _, ok15n L _ _ hL (by omega) (by omega) (by omega), ⟨rfl, trivial⟩, rfl, rfl, rfl, ?_⟩, (by intro h; cases h)⟩)
  conv => whnf
  refine ⟨Nat × List Int, fun p => p.1 ≤ L.length ∧ p.2.length ≤ 2, fun p => ⟨[(3, ⟨[], true, .ptr 0 0 0⟩), (4, ⟨[], true, .lst 2 false (rowsP l)⟩), (50, ⟨[], true, .lst 1 false (rowsI p.2)⟩)], [(0, tpO L p.1)], 1⟩, ?_, fun p hp => ?_⟩
  · repeat ((conv => whnf); first | refine Cd.go ?_ | refine ⟨rfl, ?_⟩ | refine rq_dec ⟨.inl rfl, rfl⟩ ?_ | refine rq_dec rfl ?_ | refine ⟨Nat.le_of_ble_eq_true rfl, ?_⟩ | refine ⟨.inl rfl, ?_⟩ | refine ⟨fun _ => ⟨rfl, Nat.le_of_ble_eq_true rfl⟩, ?_⟩ | refine ⟨fun _ => Nat.le_of_ble_eq_true rfl, ?_⟩ | refine ⟨fun h => Bool.noConfusion h, ?_⟩ | refine .inr ⟨fun _ => ⟨[0], _, _, _, ok15n L _ _ hL (by omega) (by omega) (by omega), ⟨rfl, trivial⟩, rfl, rfl, rfl, ?_⟩, (by intro h; cases h)⟩)
    conv => whnf
    rw [wrapI (n := 1 + nxV L (nxI L (nxI L J)) 2) (by omega) (by omega), show decide ((0 : Int) ≤ 0 ∧ 0 ≤ 1 + nxV L (nxI L (nxI L J)) 2 ∧ 1 + nxV L (nxI L (nxI L J)) 2 ≤ ((2 : Nat) : Int)) = true from decide_eq_true ⟨by omega, by omega, by omega⟩]
    repeat ((conv => whnf); first | refine Cd.go ?_ | refine ⟨rfl, ?_⟩ | refine rq_dec ⟨.inl rfl, rfl⟩ ?_ | refine rq_dec rfl ?_ | refine ⟨Nat.le_of_ble_eq_true rfl, ?_⟩ | refine ⟨.inl rfl, ?_⟩ | refine ⟨fun _ => ⟨rfl, Nat.le_of_ble_eq_true rfl⟩, ?_⟩ | refine ⟨fun _ => Nat.le_of_ble_eq_true rfl, ?_⟩ | refine ⟨fun h => Bool.noConfusion h, ?_⟩ | refine .inr ⟨fun _ => ⟨[0], _, _, _, ok15n L _ _ hL (by omega) (by omega) (by omega), ⟨rfl, trivial⟩, rfl, rfl, rfl, ?_⟩, (by intro h; cases h)⟩)
    conv => whnf
    refine ⟨(nxI L (nxI L (nxI L J)), [IntKind.i64.wrap (1 + nxV L J 20), nxV L (nxI L J) 20].take (1 + nxV L (nxI L (nxI L J)) 2).toNat), ⟨hJ3, by show (List.take _ _).length ≤ 2; rw [List.length_take]; exact Nat.min_le_right _ _⟩, ?_⟩
    refine viewI [some 0] rfl rfl ?_ rfl ?_ rfl ?_
    repeat' (first | exact trivial | rfl | exact .inl rfl | exact .inr rfl | exact id | exact (fun h => Bool.noConfusion h) | refine And.intro ?_ ?_)
    · show 0 + ((1 + nxV L (nxI L (nxI L J)) 2).toNat - 0) ≤ 2
      omega
    · show List.take (1 + nxV L (nxI L (nxI L J)) 2).toNat [[V.int .i64 (IntKind.i64.wrap (1 + nxV L J 20))], [V.int .i64 (nxV L (nxI L J) 20)]] = rowsI (List.take (1 + nxV L (nxI L (nxI L J)) 2).toNat [IntKind.i64.wrap (1 + nxV L J 20), nxV L (nxI L J) 20])
      rw [rowsI, List.map_take]; rfl
  clear v0 v2 hJ1 hJ2 hJ3 hp1
  obtain ⟨J, s⟩ := p
  obtain ⟨hp1, hs⟩ := hp
  dsimp only at hp1 hs ⊢
  repeat ((conv => whnf); first | refine Cd.go ?_ | refine ⟨rfl, ?_⟩ | refine rq_dec ⟨.inl rfl, rfl⟩ ?_ | refine rq_dec rfl ?_ | refine ⟨Nat.le_of_ble_eq_true rfl, ?_⟩ | refine ⟨.inl rfl, ?_⟩ | refine ⟨fun _ => ⟨rfl, Nat.le_of_ble_eq_true rfl⟩, ?_⟩ | refine ⟨fun _ => Nat.le_of_ble_eq_true rfl, ?_⟩ | refine ⟨fun h => Bool.noConfusion h, ?_⟩ | refine .inr ⟨fun _ => ⟨[0], _, _, _, ok15n L _ _ hL (by omega) (by omega) (by omega), ⟨rfl, trivial⟩, rfl, rfl, rfl, ?_⟩, (by intro h; cases h)⟩)
  conv => whnf
  refine .inr ⟨fun _ => ⟨[0], _, _, _, ok35 L J hL hp1, ⟨rfl, trivial⟩, rfl, rfl, rfl, ?_⟩, (by intro h; cases h)⟩
  obtain ⟨⟨g1, g2⟩, hJ0⟩ := grpF_ok L J hp1
  generalize grpF L J = q at g1 g2 hJ0 ⊢
  obtain ⟨g, J⟩ := q
  dsimp only at g1 g2 hJ0 ⊢
  repeat ((conv => whnf); first | refine Cd.go ?_ | refine ⟨rfl, ?_⟩ | refine rq_dec ⟨.inl rfl, rfl⟩ ?_ | refine rq_dec rfl ?_ | refine ⟨Nat.le_of_ble_eq_true rfl, ?_⟩ | refine ⟨.inl rfl, ?_⟩ | refine ⟨fun _ => ⟨rfl, Nat.le_of_ble_eq_true rfl⟩, ?_⟩ | refine ⟨fun _ => Nat.le_of_ble_eq_true rfl, ?_⟩ | refine ⟨fun h => Bool.noConfusion h, ?_⟩ | refine .inr ⟨fun _ => ⟨[0], _, _, _, ok15n L _ _ hL (by omega) (by omega) (by omega), ⟨rfl, trivial⟩, rfl, rfl, rfl, ?_⟩, (by intro h; cases h)⟩)
  conv => whnf
  generalize hn : g.length = n at g1 g2 ⊢
  refine ⟨Nat × Nat × List Gr, fun p => (p.1 ≤ L.length ∧ p.2.1 ≤ n) ∧ p.2.2.length = n, fun p => ⟨[(3, ⟨[], true, .ptr 0 0 0⟩), (4, ⟨[], true, .lst 2 false (rowsP l)⟩), (6, ⟨[], true, .lst 1 false (rowsI s)⟩), (7, ⟨[], true, .sl 1 0 n⟩), (8, ⟨[], true, .int .i64 (p.2.1 : Int)⟩)], [(0, tpO L p.1), (1, .row 3 (rowsG p.2.2))], 2⟩, fun p => n - p.2.1, ⟨(J, 0, g), ⟨⟨hJ0, Nat.zero_le _⟩, hn⟩, ?_⟩, fun p hI => ?_⟩
  · refine viewI [some 0, some 1] rfl rfl ?_ rfl ?_ rfl ?_
    repeat' (first | exact trivial | rfl | exact .inl rfl | exact .inr rfl | exact id | exact (fun h => Bool.noConfusion h) | refine And.intro ?_ ?_)
  clear hn hJ0 g
  obtain ⟨J, i, g⟩ := p
  obtain ⟨⟨hI1, hI2⟩, hI3⟩ := hI
  dsimp only at hI1 hI2 hI3 ⊢
  have hJ1 := nxI_in L J hI1
  repeat ((conv => whnf); first | refine Cd.go ?_ | refine ⟨rfl, ?_⟩ | refine rq_dec ⟨.inl rfl, rfl⟩ ?_ | refine rq_dec rfl ?_ | refine ⟨Nat.le_of_ble_eq_true rfl, ?_⟩ | refine ⟨.inl rfl, ?_⟩ | refine ⟨fun _ => ⟨rfl, Nat.le_of_ble_eq_true rfl⟩, ?_⟩ | refine ⟨fun _ => Nat.le_of_ble_eq_true rfl, ?_⟩ | refine ⟨fun h => Bool.noConfusion h, ?_⟩ | refine .inr ⟨fun _ => ⟨[0], _, _, _, ok15n L _ _ hL (by omega) (by omega) (by omega), ⟨rfl, trivial⟩, rfl, rfl, rfl, ?_⟩, (by intro h; cases h)⟩)
  conv => whnf
  by_cases hlt : i < n
  · rw [show decide ((i : Int) < (n : Int)) = true from decide_eq_true (by omega)]
    repeat ((conv => whnf); first | refine Cd.go ?_ | refine ⟨rfl, ?_⟩ | refine rq_dec ⟨.inl rfl, rfl⟩ ?_ | refine rq_dec rfl ?_ | refine ⟨Nat.le_of_ble_eq_true rfl, ?_⟩ | refine ⟨.inl rfl, ?_⟩ | refine ⟨fun _ => ⟨rfl, Nat.le_of_ble_eq_true rfl⟩, ?_⟩ | refine ⟨fun _ => Nat.le_of_ble_eq_true rfl, ?_⟩ | refine ⟨fun h => Bool.noConfusion h, ?_⟩ | refine .inr ⟨fun _ => ⟨[0], _, _, _, ok15n L _ _ hL (by omega) (by omega) (by omega), ⟨rfl, trivial⟩, rfl, rfl, rfl, ?_⟩, (by intro h; cases h)⟩)
    conv => whnf
    refine cq_intro (fun h3 => ?_) (fun h3 => ?_) <;> try simp only [Bool.cond_true_left, Bool.cond_false_right, Bool.not_eq_true', Bool.not_eq_false', Bool.not_not] at h3
    · repeat ((conv => whnf); first | refine Cd.go ?_ | refine ⟨rfl, ?_⟩ | refine rq_dec ⟨.inl rfl, rfl⟩ ?_ | refine rq_dec rfl ?_ | refine ⟨Nat.le_of_ble_eq_true rfl, ?_⟩ | refine ⟨.inl rfl, ?_⟩ | refine ⟨fun _ => ⟨rfl, Nat.le_of_ble_eq_true rfl⟩, ?_⟩ | refine ⟨fun _ => Nat.le_of_ble_eq_true rfl, ?_⟩ | refine ⟨fun h => Bool.noConfusion h, ?_⟩ | refine .inr ⟨fun _ => ⟨[0], _, _, _, ok15n L _ _ hL (by omega) (by omega) (by omega), ⟨rfl, trivial⟩, rfl, rfl, rfl, ?_⟩, (by intro h; cases h)⟩)
      conv => whnf
      rw [show decide (0 ≤ (i : Int) ∧ (i : Int) < (n : Int)) = true from decide_eq_true ⟨by omega, by omega⟩]
      repeat ((conv => whnf); first | refine Cd.go ?_ | refine ⟨rfl, ?_⟩ | refine rq_dec ⟨.inl rfl, rfl⟩ ?_ | refine rq_dec rfl ?_ | refine ⟨Nat.le_of_ble_eq_true rfl, ?_⟩ | refine ⟨.inl rfl, ?_⟩ | refine ⟨fun _ => ⟨rfl, Nat.le_of_ble_eq_true rfl⟩, ?_⟩ | refine ⟨fun _ => Nat.le_of_ble_eq_true rfl, ?_⟩ | refine ⟨fun h => Bool.noConfusion h, ?_⟩ | refine .inr ⟨fun _ => ⟨[0], _, _, _, ok15n L _ _ hL (by omega) (by omega) (by omega), ⟨rfl, trivial⟩, rfl, rfl, rfl, ?_⟩, (by intro h; cases h)⟩)
      conv => whnf
      rw [show 0 + (i : Int).toNat = i by omega, show decide (i < (rowsG g).length) = true from decide_eq_true (by rw [rowsG_len]; omega)]
      repeat ((conv => whnf); first | refine Cd.go ?_ | refine ⟨rfl, ?_⟩ | refine rq_dec ⟨.inl rfl, rfl⟩ ?_ | refine rq_dec rfl ?_ | refine ⟨Nat.le_of_ble_eq_true rfl, ?_⟩ | refine ⟨.inl rfl, ?_⟩ | refine ⟨fun _ => ⟨rfl, Nat.le_of_ble_eq_true rfl⟩, ?_⟩ | refine ⟨fun _ => Nat.le_of_ble_eq_true rfl, ?_⟩ | refine ⟨fun h => Bool.noConfusion h, ?_⟩ | refine .inr ⟨fun _ => ⟨[0], _, _, _, ok15n L _ _ hL (by omega) (by omega) (by omega), ⟨rfl, trivial⟩, rfl, rfl, rfl, ?_⟩, (by intro h; cases h)⟩)
      conv => whnf
      rw [wrapS (by omega)]
      refine ⟨(nxI L J, i + 1, g.set i ⟨(g.getD i g0).lim, (g.getD i g0).pro, 0⟩), ⟨⟨hJ1, by show i + 1 ≤ n; omega⟩, by show (g.set _ _).length = n; rw [List.length_set]; exact hI3⟩, ?_, by show n - (i + 1) < n - i; omega⟩
      refine viewI [some 0, some 1] rfl rfl ?_ rfl ?_ rfl ?_
      repeat' (first | exact trivial | rfl | exact .inl rfl | exact .inr rfl | exact id | exact (fun h => Bool.noConfusion h) | refine And.intro ?_ ?_)
      exact putChg g i (by omega)
    clear hlt h3
    subst hI3
    have hs' : s.length ≤ 100000 := by omega
    have hl' : l.length ≤ 100000 := by omega
    have hg' : g.length ≤ 100000 := by omega
    have k36 := le_new (raw36 l false s false g false hl' hs' hg')
    have k29 := le_new (raw29 l false s false g false hl' hs' hg')
    obtain ⟨hsm, htr⟩ := caN_small l s g hl' hg'
    have hchk := caN_ok l s g
    generalize caN l s g = c at k36 k29 hsm htr hchk
    obtain ⟨⟨fl, fr, zo, gr, ls, ck, pt⟩, e⟩ := c
    dsimp only at k36 k29 hsm htr hchk
    repeat ((conv => whnf); first | refine Cd.go ?_ | refine ⟨rfl, ?_⟩ | refine rq_dec ⟨.inl rfl, rfl⟩ ?_ | refine rq_dec rfl ?_ | refine ⟨Nat.le_of_ble_eq_true rfl, ?_⟩ | refine ⟨.inl rfl, ?_⟩ | refine ⟨fun _ => ⟨rfl, Nat.le_of_ble_eq_true rfl⟩, ?_⟩ | refine ⟨fun _ => Nat.le_of_ble_eq_true rfl, ?_⟩ | refine ⟨fun h => Bool.noConfusion h, ?_⟩ | refine .inr ⟨fun _ => ⟨[0], _, _, _, ok15n L _ _ hL (by omega) (by omega) (by omega), ⟨rfl, trivial⟩, rfl, rfl, rfl, ?_⟩, (by intro h; cases h)⟩)
    conv => whnf
    refine ⟨Unit, fun _ => True, fun _ => ⟨[(4, ⟨[], true, .lst 2 false (rowsP l)⟩), (6, ⟨[], true, .lst 1 false (rowsI s)⟩), (7, ⟨[], true, .lst 3 false (rowsG g)⟩), (69, ⟨[], true, .lst 2 false (rowsP l)⟩), (70, ⟨[], true, .lst 1 false (rowsI s)⟩), (71, ⟨[], true, .lst 3 false (rowsG g)⟩)], [], 0⟩, ?_, fun _ _ => ?_⟩
    · repeat ((conv => whnf); first | refine Cd.go ?_ | refine ⟨rfl, ?_⟩ | refine rq_dec ⟨.inl rfl, rfl⟩ ?_ | refine rq_dec rfl ?_ | refine ⟨Nat.le_of_ble_eq_true rfl, ?_⟩ | refine ⟨.inl rfl, ?_⟩ | refine ⟨fun _ => ⟨rfl, Nat.le_of_ble_eq_true rfl⟩, ?_⟩ | refine ⟨fun _ => Nat.le_of_ble_eq_true rfl, ?_⟩ | refine ⟨fun h => Bool.noConfusion h, ?_⟩ | refine .inr ⟨fun _ => ⟨[0], _, _, _, ok15n L _ _ hL (by omega) (by omega) (by omega), ⟨rfl, trivial⟩, rfl, rfl, rfl, ?_⟩, (by intro h; cases h)⟩)
      conv => whnf
      refine ⟨(), trivial, ?_⟩
      refine viewI [] rfl rfl ?_ rfl ?_ rfl ?_
      repeat' (first | exact trivial | rfl | exact .inl rfl | exact .inr rfl | exact id | exact (fun h => Bool.noConfusion h) | refine And.intro ?_ ?_)
      all_goals first | exact takeAll rfl (rowsG_len g) | (rw [rowsG_len]; omega)
    repeat ((conv => whnf); first | refine Cd.go ?_ | refine ⟨rfl, ?_⟩ | refine rq_dec ⟨.inl rfl, rfl⟩ ?_ | refine rq_dec rfl ?_ | refine ⟨Nat.le_of_ble_eq_true rfl, ?_⟩ | refine ⟨.inl rfl, ?_⟩ | refine ⟨fun _ => ⟨rfl, Nat.le_of_ble_eq_true rfl⟩, ?_⟩ | refine ⟨fun _ => Nat.le_of_ble_eq_true rfl, ?_⟩ | refine ⟨fun h => Bool.noConfusion h, ?_⟩ | refine .inl ⟨_, fun _ => ⟨purA rfl, (by first | exact k36 | exact k29)⟩, .inl rfl, ?_⟩ | refine .inr ⟨fun _ => ⟨[0], _, _, _, ok15n L _ _ hL (by omega) (by omega) (by omega), ⟨rfl, trivial⟩, rfl, rfl, rfl, ?_⟩, (by intro h; cases h)⟩)
    conv => whnf
    rw [show (e == e) = true from beq_self_eq_true e]
    have k18 := ok18r fl fr zo zo gr ls ck pt hsm hsm.zo (sameR_refl zo) (fun f hf => by rw [htr f hf]; exact r93)
    repeat ((conv => whnf); first | refine Cd.go ?_ | refine ⟨rfl, ?_⟩ | refine rq_dec ⟨.inl rfl, rfl⟩ ?_ | refine rq_dec rfl ?_ | refine ⟨Nat.le_of_ble_eq_true rfl, ?_⟩ | refine ⟨.inl rfl, ?_⟩ | refine ⟨fun _ => ⟨rfl, Nat.le_of_ble_eq_true rfl⟩, ?_⟩ | refine ⟨fun _ => Nat.le_of_ble_eq_true rfl, ?_⟩ | refine ⟨fun h => Bool.noConfusion h, ?_⟩ | refine .inl ⟨_, fun _ => ⟨purA rfl, (by first | exact k18)⟩, .inl rfl, ?_⟩ | refine .inr ⟨fun _ => ⟨[0], _, _, _, ok15n L _ _ hL (by omega) (by omega) (by omega), ⟨rfl, trivial⟩, rfl, rfl, rfl, ?_⟩, (by intro h; cases h)⟩)
    conv => whnf
    refine .inl ⟨.bool true, fun h => ⟨purA rfl, hchk (by simpa using h)⟩, .inl rfl, ?_⟩
    repeat ((conv => whnf); first | refine Cd.go ?_ | refine ⟨rfl, ?_⟩ | refine rq_dec ⟨.inl rfl, rfl⟩ ?_ | refine rq_dec rfl ?_ | refine ⟨Nat.le_of_ble_eq_true rfl, ?_⟩ | refine ⟨.inl rfl, ?_⟩ | refine ⟨fun _ => ⟨rfl, Nat.le_of_ble_eq_true rfl⟩, ?_⟩ | refine ⟨fun _ => Nat.le_of_ble_eq_true rfl, ?_⟩ | refine ⟨fun h => Bool.noConfusion h, ?_⟩ | refine .inl ⟨_, fun _ => ⟨purA rfl, (by first | exact ok38)⟩, .inl rfl, ?_⟩ | refine .inr ⟨fun _ => ⟨[0], _, _, _, ok15n L _ _ hL (by omega) (by omega) (by omega), ⟨rfl, trivial⟩, rfl, rfl, rfl, ?_⟩, (by intro h; cases h)⟩)
    conv => whnf
    rw [show (bif e != 0 then true else true) = true by cases (e != 0) <;> rfl]
    refine ⟨[], trivial, rfl, trivial, rfl, ?_⟩
    try subst hk
    repeat' (first | exact trivial | rfl | exact .inl rfl | exact .inr rfl | exact id | exact (fun h => Bool.noConfusion h) | refine And.intro ?_ ?_)
  rw [show decide ((i : Int) < (n : Int)) = false from decide_eq_false (by omega)]
  clear hlt
  subst hI3
  refine .inr ⟨fun h => absurd h (by decide), fun _ => ?_⟩
  have hs' : s.length ≤ 100000 := by omega
  have hl' : l.length ≤ 100000 := by omega
  have hg' : g.length ≤ 100000 := by omega
  have k36 := le_new (raw36 l false s false g false hl' hs' hg')
  have k29 := le_new (raw29 l false s false g false hl' hs' hg')
  obtain ⟨hsm, htr⟩ := caN_small l s g hl' hg'
  have hchk := caN_ok l s g
  generalize caN l s g = c at k36 k29 hsm htr hchk
  obtain ⟨⟨fl, fr, zo, gr, ls, ck, pt⟩, e⟩ := c
  dsimp only at k36 k29 hsm htr hchk
  repeat ((conv => whnf); first | refine Cd.go ?_ | refine ⟨rfl, ?_⟩ | refine rq_dec ⟨.inl rfl, rfl⟩ ?_ | refine rq_dec rfl ?_ | refine ⟨Nat.le_of_ble_eq_true rfl, ?_⟩ | refine ⟨.inl rfl, ?_⟩ | refine ⟨fun _ => ⟨rfl, Nat.le_of_ble_eq_true rfl⟩, ?_⟩ | refine ⟨fun _ => Nat.le_of_ble_eq_true rfl, ?_⟩ | refine ⟨fun h => Bool.noConfusion h, ?_⟩ | refine .inr ⟨fun _ => ⟨[0], _, _, _, ok15n L _ _ hL (by omega) (by omega) (by omega), ⟨rfl, trivial⟩, rfl, rfl, rfl, ?_⟩, (by intro h; cases h)⟩)
  conv => whnf
  refine ⟨Unit, fun _ => True, fun _ => ⟨[(4, ⟨[], true, .lst 2 false (rowsP l)⟩), (6, ⟨[], true, .lst 1 false (rowsI s)⟩), (7, ⟨[], true, .lst 3 false (rowsG g)⟩), (69, ⟨[], true, .lst 2 false (rowsP l)⟩), (70, ⟨[], true, .lst 1 false (rowsI s)⟩), (71, ⟨[], true, .lst 3 false (rowsG g)⟩)], [], 0⟩, ?_, fun _ _ => ?_⟩
  · repeat ((conv => whnf); first | refine Cd.go ?_ | refine ⟨rfl, ?_⟩ | refine rq_dec ⟨.inl rfl, rfl⟩ ?_ | refine rq_dec rfl ?_ | refine ⟨Nat.le_of_ble_eq_true rfl, ?_⟩ | refine ⟨.inl rfl, ?_⟩ | refine ⟨fun _ => ⟨rfl, Nat.le_of_ble_eq_true rfl⟩, ?_⟩ | refine ⟨fun _ => Nat.le_of_ble_eq_true rfl, ?_⟩ | refine ⟨fun h => Bool.noConfusion h, ?_⟩ | refine .inr ⟨fun _ => ⟨[0], _, _, _, ok15n L _ _ hL (by omega) (by omega) (by omega), ⟨rfl, trivial⟩, rfl, rfl, rfl, ?_⟩, (by intro h; cases h)⟩)
    conv => whnf
    refine ⟨(), trivial, ?_⟩
    refine viewI [] rfl rfl ?_ rfl ?_ rfl ?_
    repeat' (first | exact trivial | rfl | exact .inl rfl | exact .inr rfl | exact id | exact (fun h => Bool.noConfusion h) | refine And.intro ?_ ?_)
    all_goals first | exact takeAll rfl (rowsG_len g) | (rw [rowsG_len]; omega)
  repeat ((conv => whnf); first | refine Cd.go ?_ | refine ⟨rfl, ?_⟩ | refine rq_dec ⟨.inl rfl, rfl⟩ ?_ | refine rq_dec rfl ?_ | refine ⟨Nat.le_of_ble_eq_true rfl, ?_⟩ | refine ⟨.inl rfl, ?_⟩ | refine ⟨fun _ => ⟨rfl, Nat.le_of_ble_eq_true rfl⟩, ?_⟩ | refine ⟨fun _ => Nat.le_of_ble_eq_true rfl, ?_⟩ | refine ⟨fun h => Bool.noConfusion h, ?_⟩ | refine .inl ⟨_, fun _ => ⟨purA rfl, (by first | exact k36 | exact k29)⟩, .inl rfl, ?_⟩ | refine .inr ⟨fun _ => ⟨[0], _, _, _, ok15n L _ _ hL (by omega) (by omega) (by omega), ⟨rfl, trivial⟩, rfl, rfl, rfl, ?_⟩, (by intro h; cases h)⟩)
  conv => whnf
  rw [show (e == e) = true from beq_self_eq_true e]
  have k18 := ok18r fl fr zo zo gr ls ck pt hsm hsm.zo (sameR_refl zo) (fun f hf => by rw [htr f hf]; exact r93)
  repeat ((conv => whnf); first | refine Cd.go ?_ | refine ⟨rfl, ?_⟩ | refine rq_dec ⟨.inl rfl, rfl⟩ ?_ | refine rq_dec rfl ?_ | refine ⟨Nat.le_of_ble_eq_true rfl, ?_⟩ | refine ⟨.inl rfl, ?_⟩ | refine ⟨fun _ => ⟨rfl, Nat.le_of_ble_eq_true rfl⟩, ?_⟩ | refine ⟨fun _ => Nat.le_of_ble_eq_true rfl, ?_⟩ | refine ⟨fun h => Bool.noConfusion h, ?_⟩ | refine .inl ⟨_, fun _ => ⟨purA rfl, (by first | exact k18)⟩, .inl rfl, ?_⟩ | refine .inr ⟨fun _ => ⟨[0], _, _, _, ok15n L _ _ hL (by omega) (by omega) (by omega), ⟨rfl, trivial⟩, rfl, rfl, rfl, ?_⟩, (by intro h; cases h)⟩)
  conv => whnf
  refine .inl ⟨.bool true, fun h => ⟨purA rfl, hchk (by simpa using h)⟩, .inl rfl, ?_⟩
  repeat ((conv => whnf); first | refine Cd.go ?_ | refine ⟨rfl, ?_⟩ | refine rq_dec ⟨.inl rfl, rfl⟩ ?_ | refine rq_dec rfl ?_ | refine ⟨Nat.le_of_ble_eq_true rfl, ?_⟩ | refine ⟨.inl rfl, ?_⟩ | refine ⟨fun _ => ⟨rfl, Nat.le_of_ble_eq_true rfl⟩, ?_⟩ | refine ⟨fun _ => Nat.le_of_ble_eq_true rfl, ?_⟩ | refine ⟨fun h => Bool.noConfusion h, ?_⟩ | refine .inl ⟨_, fun _ => ⟨purA rfl, (by first | exact ok38)⟩, .inl rfl, ?_⟩ | refine .inr ⟨fun _ => ⟨[0], _, _, _, ok15n L _ _ hL (by omega) (by omega) (by omega), ⟨rfl, trivial⟩, rfl, rfl, rfl, ?_⟩, (by intro h; cases h)⟩)
  conv => whnf
  rw [show (bif e != 0 then true else true) = true by cases (e != 0) <;> rfl]
  refine ⟨[], trivial, rfl, trivial, rfl, ?_⟩
  try subst hk
  repeat' (first | exact trivial | rfl | exact .inl rfl | exact .inr rfl | exact id | exact (fun h => Bool.noConfusion h) | refine And.intro ?_ ?_)
end Go.Proofs.YtmhapcbjjpadnaaGreat

