/- Caches. -/
import Derived.Test.YtmhapcbjjpadnaaGreatGA
import Derived.Test.YtmhapcbjjpadnaaGreatGB
import Derived.Test.YtmhapcbjjpadnaaGreatGE
set_option linter.unusedSimpArgs false
set_option linter.unusedVariables false
set_option maxRecDepth 40000
namespace Go.Proofs.YtmhapcbjjpadnaaGreat
open Go Go.Sk Go.RowKit

def repN {α : Type} (f : α → α) : Nat → α → α
  | 0, a => a
  | n + 1, a => repN f n (f a)
def grN (L : List Int) (J : Nat) : Gr := ⟨1 + nxV L J 20, nxV L (nxI L (nxI L J)) (1 + nxV L J 20 + 1), nxV L (nxI L J) 24⟩
def grS (L : List Int) (p : List Gr × Nat) : List Gr × Nat := (p.1 ++ [grN L p.2], nxI L (nxI L (nxI L p.2)))
def grM (L : List Int) (I : Nat) : List Gr × Nat := repN (grS L) (1 + nxV L I 4).toNat ([], nxI L I)
def grO (L : List Int) (p : List Gr × Nat) : List Gr × Nat :=
  bif nxV L p.2 12 == 0 then (p.1.set 0 ⟨oddF L (nxI L p.2), (p.1.getD 0 g0).pro, (p.1.getD 0 g0).chg⟩, nxI L (nxI L p.2)) else (p.1, nxI L p.2)
def grpF (L : List Int) (I : Nat) : List Gr × Nat := grO L (grM L I)
theorem rowsG_snoc (l : List Gr) (g : Gr) : rowsG l ++ [g.c] = rowsG (l ++ [g]) := by simp [rowsG]
theorem grM_ok (L : List Int) (I : Nat) (hI : I ≤ L.length) : (1 ≤ (grM L I).1.length ∧ (grM L I).1.length ≤ 4) ∧ (grM L I).2 ≤ L.length := by
  have e := nxV_in L I 4 (by decide) (by decide)
  have key : ∀ n (p : List Gr × Nat), p.2 ≤ L.length → (repN (grS L) n p).1.length = p.1.length + n ∧ (repN (grS L) n p).2 ≤ L.length := by
    intro n
    induction n with
    | zero => exact fun p h => ⟨rfl, h⟩
    | succ n ih =>
      intro p h
      have := ih (grS L p) (nxI_in L _ (nxI_in L _ (nxI_in L _ h)))
      rw [repN]
      refine ⟨?_, this.2⟩
      rw [this.1]
      show (p.1 ++ [_]).length + n = _
      rw [List.length_append, List.length_singleton]; omega
  have := key (1 + nxV L I 4).toNat ([], nxI L I) (nxI_in L I hI)
  rw [grM]
  rw [this.1]
  refine ⟨?_, this.2⟩
  simp only [List.length_nil]; omega
theorem grpF_ok (L : List Int) (I : Nat) (hI : I ≤ L.length) : (1 ≤ (grpF L I).1.length ∧ (grpF L I).1.length ≤ 4) ∧ (grpF L I).2 ≤ L.length := by
  obtain ⟨h1, h2⟩ := grM_ok L I hI
  have h3 := nxI_in L _ h2
  have h4 := nxI_in L _ h3
  rw [grpF, grO]
  cases (nxV L (grM L I).2 12 == 0) with
  | false => exact ⟨h1, h3⟩
  | true => exact ⟨by simp only [cond_true, List.length_set]; exact h1, h4⟩
theorem putLim (g : List Gr) (x : Int) (h : 0 < g.length) : (rowsG g).set 0 (putCells 3 ((rowsG g).getD 0 []) 0 [.int .i64 x]) = rowsG (g.set 0 ⟨x, (g.getD 0 g0).pro, (g.getD 0 g0).chg⟩) := by
  have e : (rowsG g).getD 0 [] = (g.getD 0 g0).c := rowsG_getK g 0 h
  rw [e, ← rowsG_set]; rfl
set_option maxRecDepth 20000 in
set_option maxHeartbeats 1000000 in
theorem ok35 (L : List Int) (I : Nat) (hL : (L.length : Int) < 2 ^ 62) (hI : I ≤ L.length) : FnC Tryz.prog 35 [tpO L I] [.ptr 0 0 0] (.sl 1 0 (grpF L I).1.length) [tpO L (grpF L I).2, .row 3 (rowsG (grpF L I).1)] := by
  have hI1 := nxI_in L I hI
  have e := nxV_in L I 4 (by decide) (by decide)
  obtain ⟨hm1, hm2⟩ := grM_ok L I hI
  refine fn_okX (ob0 := [tpO L I]) [] Tryz.func35 rfl rfl rfl rfl ?_
  generalize hk : grpF L I = q
  rw [grpF] at hk
  generalize hm : grM L I = m at hk hm1 hm2
  rw [grM] at hm
  repeat ((conv => whnf); first | refine Cd.go ?_ | refine ⟨rfl, ?_⟩ | refine rq_dec ⟨.inl rfl, rfl⟩ ?_ | refine rq_dec rfl ?_ | refine ⟨Nat.le_of_ble_eq_true rfl, ?_⟩ | refine ⟨.inl rfl, ?_⟩ | refine ⟨fun _ => ⟨rfl, Nat.le_of_ble_eq_true rfl⟩, ?_⟩ | refine ⟨fun _ => Nat.le_of_ble_eq_true rfl, ?_⟩ | refine ⟨fun h => Bool.noConfusion h, ?_⟩ | refine .inr ⟨fun _ => ⟨[0], _, _, _, ok15n L _ _ hL (by omega) (by omega) (by omega), ⟨rfl, trivial⟩, rfl, rfl, rfl, ?_⟩, (by intro h; cases h)⟩)
  conv => whnf
  rw [wrapI (n := 1 + nxV L I 4) (by omega) (by omega)]
  generalize nxV L I 4 = n0 at e hm ⊢
  obtain ⟨n, hn⟩ : ∃ n : Nat, 1 + n0 = n := ⟨(1 + n0).toNat, by omega⟩
  rw [hn, Int.toNat_natCast] at hm
  rw [hn]
  refine ⟨Nat × List Gr × Nat, fun p => (p.1 + p.2.1.length ≤ 4 ∧ p.2.2 ≤ L.length) ∧ repN (grS L) p.1 p.2 = m, fun p => ⟨[(0, ⟨[], true, .ptr 0 0 0⟩), (3, ⟨[], true, .sl 1 0 p.2.1.length⟩), (4, ⟨[], true, .int .i64 (p.1 : Int)⟩)], [(0, tpO L p.2.2), (1, .row 3 (rowsG p.2.1))], 2⟩, fun p => p.1,
    ⟨(n, [], nxI L I), ⟨⟨by show n + 0 ≤ 4; omega, hI1⟩, hm⟩, ?_⟩, fun p hp => ?_⟩
  · refine viewI [some 0, none] rfl rfl ?_ rfl ?_ rfl ?_
    repeat' (first | exact trivial | rfl | exact .inl rfl | exact .inr rfl | exact id | exact (fun h => Bool.noConfusion h) | refine And.intro ?_ ?_)
  obtain ⟨k, out, J⟩ := p
  obtain ⟨⟨hp1, hp2⟩, hp3⟩ := hp
  dsimp only at hp1 hp2 hp3 ⊢
  have hJ1 := nxI_in L J hp2
  have hJ2 := nxI_in L _ hJ1
  have hJ3 := nxI_in L _ hJ2
  have hv := nxV_in L J 20 (by decide) (by decide)
  repeat ((conv => whnf); first | refine Cd.go ?_ | refine ⟨rfl, ?_⟩ | refine rq_dec ⟨.inl rfl, rfl⟩ ?_ | refine rq_dec rfl ?_ | refine ⟨Nat.le_of_ble_eq_true rfl, ?_⟩ | refine ⟨.inl rfl, ?_⟩ | refine ⟨fun _ => ⟨rfl, Nat.le_of_ble_eq_true rfl⟩, ?_⟩ | refine ⟨fun _ => Nat.le_of_ble_eq_true rfl, ?_⟩ | refine ⟨fun h => Bool.noConfusion h, ?_⟩ | refine .inr ⟨fun _ => ⟨[0], _, _, _, ok15n L _ _ hL (by omega) (by omega) (by omega), ⟨rfl, trivial⟩, rfl, rfl, rfl, ?_⟩, (by intro h; cases h)⟩)
  conv => whnf
  refine cq_intro (fun h1 => ?_) (fun h1 => ?_) <;> try simp only [Bool.cond_true_left, Bool.cond_false_right, Bool.not_eq_true', Bool.not_eq_false', Bool.not_not] at h1
  · have h1 : 0 < k := by simpa using h1
    obtain ⟨m', rfl⟩ : ∃ m', k = m' + 1 := ⟨k - 1, by omega⟩
    rw [repN] at hp3
    repeat ((conv => whnf); first | refine Cd.go ?_ | refine ⟨rfl, ?_⟩ | refine rq_dec ⟨.inl rfl, rfl⟩ ?_ | refine rq_dec rfl ?_ | refine ⟨Nat.le_of_ble_eq_true rfl, ?_⟩ | refine ⟨.inl rfl, ?_⟩ | refine ⟨fun _ => ⟨rfl, Nat.le_of_ble_eq_true rfl⟩, ?_⟩ | refine ⟨fun _ => Nat.le_of_ble_eq_true rfl, ?_⟩ | refine ⟨fun h => Bool.noConfusion h, ?_⟩ | refine .inr ⟨fun _ => ⟨[0], _, _, _, ok15n L _ _ hL (by omega) (by omega) (by omega), ⟨rfl, trivial⟩, rfl, rfl, rfl, ?_⟩, (by intro h; cases h)⟩)
    conv => whnf
    rw [wrapI (n := 1 + nxV L J 20) (by omega) (by omega)]
    repeat ((conv => whnf); first | refine Cd.go ?_ | refine ⟨rfl, ?_⟩ | refine rq_dec ⟨.inl rfl, rfl⟩ ?_ | refine rq_dec rfl ?_ | refine ⟨Nat.le_of_ble_eq_true rfl, ?_⟩ | refine ⟨.inl rfl, ?_⟩ | refine ⟨fun _ => ⟨rfl, Nat.le_of_ble_eq_true rfl⟩, ?_⟩ | refine ⟨fun _ => Nat.le_of_ble_eq_true rfl, ?_⟩ | refine ⟨fun h => Bool.noConfusion h, ?_⟩ | refine .inr ⟨fun _ => ⟨[0], _, _, _, ok15n L _ _ hL (by omega) (by omega) (by omega), ⟨rfl, trivial⟩, rfl, rfl, rfl, ?_⟩, (by intro h; cases h)⟩)
    conv => whnf
    rw [wrapI (n := 1 + nxV L J 20 + 1) (by omega) (by omega)]
    repeat ((conv => whnf); first | refine Cd.go ?_ | refine ⟨rfl, ?_⟩ | refine rq_dec ⟨.inl rfl, rfl⟩ ?_ | refine rq_dec rfl ?_ | refine ⟨Nat.le_of_ble_eq_true rfl, ?_⟩ | refine ⟨.inl rfl, ?_⟩ | refine ⟨fun _ => ⟨rfl, Nat.le_of_ble_eq_true rfl⟩, ?_⟩ | refine ⟨fun _ => Nat.le_of_ble_eq_true rfl, ?_⟩ | refine ⟨fun h => Bool.noConfusion h, ?_⟩ | refine .inr ⟨fun _ => ⟨[0], _, _, _, ok15n L _ _ hL (by omega) (by omega) (by omega), ⟨rfl, trivial⟩, rfl, rfl, rfl, ?_⟩, (by intro h; cases h)⟩)
    conv => whnf
    refine rq_dec (rowsG_len out).symm (rq_app (by rw [rowsG_len]; show ((out.length + 1 : Nat) : Int) ≤ _; omega) (by rw [rowsG_len]; show (out.length + 1) * 24 ≤ _; omega) ?_)
    repeat ((conv => whnf); first | refine Cd.go ?_ | refine ⟨rfl, ?_⟩ | refine rq_dec ⟨.inl rfl, rfl⟩ ?_ | refine rq_dec rfl ?_ | refine ⟨Nat.le_of_ble_eq_true rfl, ?_⟩ | refine ⟨.inl rfl, ?_⟩ | refine ⟨fun _ => ⟨rfl, Nat.le_of_ble_eq_true rfl⟩, ?_⟩ | refine ⟨fun _ => Nat.le_of_ble_eq_true rfl, ?_⟩ | refine ⟨fun h => Bool.noConfusion h, ?_⟩ | refine .inr ⟨fun _ => ⟨[0], _, _, _, ok15n L _ _ hL (by omega) (by omega) (by omega), ⟨rfl, trivial⟩, rfl, rfl, rfl, ?_⟩, (by intro h; cases h)⟩)
    conv => whnf
    rw [wrapI (n := ((m' + 1 : Nat) : Int) - 1) (by omega) (by omega), show (((m' + 1 : Nat) : Int) - 1) = (m' : Int) by omega]
    refine ⟨(m', grS L (out, J)), ⟨⟨by show m' + (out ++ [_]).length ≤ 4; rw [List.length_append, List.length_singleton]; omega, hJ3⟩, hp3⟩, ?_, Nat.lt_succ_self m'⟩
    refine viewI [some 0, some ?k97_1] rfl rfl ?h3_97 ?h4_97 ?h5_97 ?h6_97 ?h7_97
    case' h7_97 => repeat' (first | exact trivial | rfl | exact .inl rfl | exact .inr rfl | exact id | exact (fun h => Bool.noConfusion h) | refine And.intro ?_ ?_)
    case' h4_97 => rfl
    case' h6_97 => rfl
    case' h3_97 => repeat' (first | exact trivial | rfl | exact .inl rfl | exact .inr rfl | exact id | exact (fun h => Bool.noConfusion h) | refine And.intro ?_ ?_)
    case' h5_97 => repeat' (first | exact trivial | rfl | exact .inl rfl | exact .inr rfl | exact id | exact (fun h => Bool.noConfusion h) | refine And.intro ?_ ?_)
    · exact rowsG_snoc out (grN L J)
    · show (rowsG out).length + 1 = (out ++ [_]).length
      rw [rowsG_len, List.length_append]; rfl
  have h1 : k = 0 := by simp at h1; omega
  subst h1
  have hp3 : (out, J) = m := hp3
  subst hp3
  dsimp only at hm1 hm2
  rw [grO] at hk
  dsimp only at hk
  repeat ((conv => whnf); first | refine Cd.go ?_ | refine ⟨rfl, ?_⟩ | refine rq_dec ⟨.inl rfl, rfl⟩ ?_ | refine rq_dec rfl ?_ | refine ⟨Nat.le_of_ble_eq_true rfl, ?_⟩ | refine ⟨.inl rfl, ?_⟩ | refine ⟨fun _ => ⟨rfl, Nat.le_of_ble_eq_true rfl⟩, ?_⟩ | refine ⟨fun _ => Nat.le_of_ble_eq_true rfl, ?_⟩ | refine ⟨fun h => Bool.noConfusion h, ?_⟩ | refine .inr ⟨fun _ => ⟨[0], _, _, _, ok15n L _ _ hL (by omega) (by omega) (by omega), ⟨rfl, trivial⟩, rfl, rfl, rfl, ?_⟩, (by intro h; cases h)⟩)
  conv => whnf
  refine cq_intro (fun h2 => ?_) (fun h2 => ?_) <;> try simp only [Bool.cond_true_left, Bool.cond_false_right, Bool.not_eq_true', Bool.not_eq_false', Bool.not_not] at h2
  · rw [h2, cond_true] at hk
    repeat ((conv => whnf); first | refine Cd.go ?_ | refine ⟨rfl, ?_⟩ | refine rq_dec ⟨.inl rfl, rfl⟩ ?_ | refine rq_dec rfl ?_ | refine ⟨Nat.le_of_ble_eq_true rfl, ?_⟩ | refine ⟨.inl rfl, ?_⟩ | refine ⟨fun _ => ⟨rfl, Nat.le_of_ble_eq_true rfl⟩, ?_⟩ | refine ⟨fun _ => Nat.le_of_ble_eq_true rfl, ?_⟩ | refine ⟨fun h => Bool.noConfusion h, ?_⟩ | refine .inr ⟨fun _ => ⟨[0], _, _, _, ok15n L _ _ hL (by omega) (by omega) (by omega), ⟨rfl, trivial⟩, rfl, rfl, rfl, ?_⟩, (by intro h; cases h)⟩)
    conv => whnf
    refine .inr ⟨fun _ => ⟨[0], _, _, _, ok34 L (nxI L J) hL hJ1, ⟨rfl, trivial⟩, rfl, rfl, rfl, ?_⟩, (by intro h; cases h)⟩
    repeat ((conv => whnf); first | refine Cd.go ?_ | refine ⟨rfl, ?_⟩ | refine rq_dec ⟨.inl rfl, rfl⟩ ?_ | refine rq_dec rfl ?_ | refine ⟨Nat.le_of_ble_eq_true rfl, ?_⟩ | refine ⟨.inl rfl, ?_⟩ | refine ⟨fun _ => ⟨rfl, Nat.le_of_ble_eq_true rfl⟩, ?_⟩ | refine ⟨fun _ => Nat.le_of_ble_eq_true rfl, ?_⟩ | refine ⟨fun h => Bool.noConfusion h, ?_⟩ | refine .inr ⟨fun _ => ⟨[0], _, _, _, ok15n L _ _ hL (by omega) (by omega) (by omega), ⟨rfl, trivial⟩, rfl, rfl, rfl, ?_⟩, (by intro h; cases h)⟩)
    conv => whnf
    rw [show decide (0 ≤ (0 : Int) ∧ (0 : Int) < (out.length : Int)) = true from decide_eq_true ⟨by omega, by omega⟩]
    repeat ((conv => whnf); first | refine Cd.go ?_ | refine ⟨rfl, ?_⟩ | refine rq_dec ⟨.inl rfl, rfl⟩ ?_ | refine rq_dec rfl ?_ | refine ⟨Nat.le_of_ble_eq_true rfl, ?_⟩ | refine ⟨.inl rfl, ?_⟩ | refine ⟨fun _ => ⟨rfl, Nat.le_of_ble_eq_true rfl⟩, ?_⟩ | refine ⟨fun _ => Nat.le_of_ble_eq_true rfl, ?_⟩ | refine ⟨fun h => Bool.noConfusion h, ?_⟩ | refine .inr ⟨fun _ => ⟨[0], _, _, _, ok15n L _ _ hL (by omega) (by omega) (by omega), ⟨rfl, trivial⟩, rfl, rfl, rfl, ?_⟩, (by intro h; cases h)⟩)
    conv => whnf
    rw [show decide (0 + Int.toNat 0 < (rowsG out).length) = true from decide_eq_true (by rw [rowsG_len]; show 0 < out.length; omega)]
    subst hk
    repeat ((conv => whnf); first | refine Cd.go ?_ | refine ⟨rfl, ?_⟩ | refine rq_dec ⟨.inl rfl, rfl⟩ ?_ | refine rq_dec rfl ?_ | refine ⟨Nat.le_of_ble_eq_true rfl, ?_⟩ | refine ⟨.inl rfl, ?_⟩ | refine ⟨fun _ => ⟨rfl, Nat.le_of_ble_eq_true rfl⟩, ?_⟩ | refine ⟨fun _ => Nat.le_of_ble_eq_true rfl, ?_⟩ | refine ⟨fun h => Bool.noConfusion h, ?_⟩ | refine .inr ⟨fun _ => ⟨[0], _, _, _, ok15n L _ _ hL (by omega) (by omega) (by omega), ⟨rfl, trivial⟩, rfl, rfl, rfl, ?_⟩, (by intro h; cases h)⟩)
    conv => whnf
    try subst hk
    refine ⟨[some 0, some 1], ?_, rfl, ?_, rfl, ?_⟩
    all_goals repeat' (first | exact trivial | rfl | exact .inl rfl | exact .inr rfl | exact id | exact (fun h => Bool.noConfusion h) | refine And.intro ?_ ?_)
    · exact putLim out _ (by omega)
    · exact (List.length_set ..).symm
  rw [h2, cond_false] at hk
  subst hk
  repeat ((conv => whnf); first | refine Cd.go ?_ | refine ⟨rfl, ?_⟩ | refine rq_dec ⟨.inl rfl, rfl⟩ ?_ | refine rq_dec rfl ?_ | refine ⟨Nat.le_of_ble_eq_true rfl, ?_⟩ | refine ⟨.inl rfl, ?_⟩ | refine ⟨fun _ => ⟨rfl, Nat.le_of_ble_eq_true rfl⟩, ?_⟩ | refine ⟨fun _ => Nat.le_of_ble_eq_true rfl, ?_⟩ | refine ⟨fun h => Bool.noConfusion h, ?_⟩ | refine .inr ⟨fun _ => ⟨[0], _, _, _, ok15n L _ _ hL (by omega) (by omega) (by omega), ⟨rfl, trivial⟩, rfl, rfl, rfl, ?_⟩, (by intro h; cases h)⟩)
  conv => whnf
  try subst hk
  refine ⟨[some 0, some 1], ?_, rfl, ?_, rfl, ?_⟩
  all_goals repeat' (first | exact trivial | rfl | exact .inl rfl | exact .inr rfl | exact id | exact (fun h => Bool.noConfusion h) | refine And.intro ?_ ?_)
end Go.Proofs.YtmhapcbjjpadnaaGreat

set_option maxRecDepth 40000
namespace Go.Proofs.YtmhapcbjjpadnaaGreat
open Go Go.Sk Go.RowKit

def noC : Ca := ⟨[], [], [], [], [], [], []⟩
def caN (l : List (Int × Int)) (s : List Int) (g : List Gr) : Ca × Int :=
  bif !locF l || !grF g then (noC, 1) else bif !chg0 g then (noC, 1) else bif (newF s).2 != 0 then (noC, (newF s).2) else (newC l (newF s).1 g, 0)
theorem LeVs.refl' (x y : List V) (h : x = y) : LeVs x y := by subst h; exact .refl x
theorem raw_le (l : List (Int × Int)) (s : List Int) (g : List Gr) : LeV (.tup [(rawN l s g).1, .int .i64 (rawN l s g).2]) (.tup [.agg (caN l s g).1.c, .int .i64 (caN l s g).2]) := by
  unfold rawN caN
  have h0 : LeV raw0 (.agg noC.c) := .aggs (.cons .nils (.cons .nils (.cons .nils (.cons .nils (.cons .nils (.cons .nils (.cons .nils .nil)))))))
  cases (!locF l || !grF g) with
  | true => exact .tups (.cons h0 (.cons (.refl _) .nil))
  | false =>
    cases (!chg0 g) with
    | true => exact .tups (.cons h0 (.cons (.refl _) .nil))
    | false =>
      cases ((newF s).2 != 0) with
      | true => exact .tups (.cons h0 (.cons (.refl _) .nil))
      | false =>
        refine .tups (.cons (.aggs (.cons ?_ (.cons (.refl _) (.cons (.refl _) (.cons (.refl _) (.cons ?_ (.cons ?_ (.cons .nils .nil)))))))) (.cons (.refl _) .nil))
        · show LeV (.lst 15 false (l.map nilF)) (.lst 15 false ((l.map mkF).map Fl.c))
          rw [List.map_map]
          refine .rows (fun h => h) fun x _ => ?_
          exact .cons (.refl _) (.cons (.refl _) (.cons (.refl _) (.cons .nils (.refl _))))
        · show LeV (.lst 3 false (List.replicate g.length [nilV, nilV, nilV])) (.lst 3 false ((List.replicate g.length l0).map Ls.c))
          rw [show List.replicate g.length [nilV, nilV, nilV] = (List.replicate g.length l0).map fun _ => [nilV, nilV, nilV] by rw [List.map_replicate]]
          refine .rows (fun h => h) fun x hx => ?_
          obtain rfl := List.eq_of_mem_replicate hx
          exact .cons .nils (.cons .nils (.cons .nils .nil))
        · show LeV (.lst 1 false (List.replicate g.length [.int .i64 0])) (.lst 1 false (rowsI (List.replicate g.length 0)))
          rw [rowsI, List.map_replicate]
          exact .refl _
set_option maxRecDepth 20000 in
set_option maxHeartbeats 2000000 in
theorem ok37 (l : List (Int × Int)) (z : List Zn) (g : List Gr) (h : NewG l z g) : FnC Tryz.prog 37 [] [.agg (newC l z g).c] (.bool true) [] := by
  have g1 := grF_len h.grp
  have l1 := locF_len h.loc
  obtain ⟨n1, n2⟩ := h.zon.num
  have k132 := ok132 (newC l z g) (by show (l.map mkF).length ≤ _; rw [List.length_map]; omega) (by show g.length ≤ _; omega) (check_small h.zon.chk) h.zon.size (by show locF ((l.map mkF).map plc) = true; rw [plc_mk]; exact h.loc) h.grp h.zon.chk
    (by show szF z = ((List.replicate (szF z).toNat fre).length : Int); rw [rep_len]; omega) (rep_len _ _) (rep_len _ _)
  have k134 := ok134 l z g h
  have k135 := ok135 l z g h
  have k136 := ok136 l z g
  have ef : (newC l z g).fl = l.map mkF := rfl
  have er : (newC l z g).fr = List.replicate (szF z).toNat fre := rfl
  generalize newC l z g = c at k132 k134 k135 k136 ef er ⊢
  obtain ⟨fl, fr, zo, gr, ls, ck, pt⟩ := c
  dsimp only at ef er
  subst ef er
  generalize hn : (szF z).toNat = n at k132 k134 k135 k136 ⊢
  have hn2 : n ≤ 64 := by omega
  refine fn_okX (ob0 := []) [] Tryz.func37 rfl rfl rfl rfl ?_
  repeat ((conv => whnf); first | refine Cd.go ?_ | refine ⟨rfl, ?_⟩ | refine rq_dec ⟨.inl rfl, rfl⟩ ?_ | refine rq_dec rfl ?_ | refine ⟨Nat.le_of_ble_eq_true rfl, ?_⟩ | refine ⟨.inl rfl, ?_⟩ | refine ⟨fun _ => ⟨rfl, Nat.le_of_ble_eq_true rfl⟩, ?_⟩ | refine ⟨fun _ => Nat.le_of_ble_eq_true rfl, ?_⟩ | refine ⟨fun h => Bool.noConfusion h, ?_⟩ | refine .inl ⟨_, fun _ => ⟨purA rfl, (by first | exact k132)⟩, .inl rfl, ?_⟩)
  conv => whnf
  rw [rowsF_len, List.length_map]
  refine ⟨Nat, fun i => i ≤ l.length, fun i => ⟨[(1, ⟨[], true, .ptr 0 0 0⟩), (11, ⟨[], true, .lst 15 false (rowsF (l.map mkF))⟩), (12, ⟨[], true, .int .i64 (l.length : Int)⟩), (13, ⟨[], true, .int .i64 (i : Int)⟩)], [(0, .box [.lst 15 false (rowsF (l.map mkF)), .lst 9 false (rowsR (List.replicate n fre)), .lst 6 false (rowsZ zo), .lst 3 false (rowsG gr), .lst 3 false (rowsL ls), .lst 1 false (rowsI ck), .lst 5 false (rowsT pt)])], 1⟩, fun i => l.length - i, ⟨0, Nat.zero_le _, ?_⟩, fun i hI => ?_⟩
  · refine viewI [some ?k58_0] rfl rfl ?h3_58 ?h4_58 ?h5_58 ?h6_58 ?h7_58
    case' h7_58 => repeat' (first | exact trivial | rfl | exact .inl rfl | exact .inr rfl | exact id | exact (fun h => Bool.noConfusion h) | refine And.intro ?_ ?_)
    case' h4_58 => rfl
    case' h6_58 => rfl
    case' h3_58 => repeat' (first | exact trivial | rfl | exact .inl rfl | exact .inr rfl | exact id | exact (fun h => Bool.noConfusion h) | refine And.intro ?_ ?_)
    case' h5_58 => repeat' (first | exact trivial | rfl | exact .inl rfl | exact .inr rfl | exact id | exact (fun h => Bool.noConfusion h) | refine And.intro ?_ ?_)
  dsimp only at hI ⊢
  repeat ((conv => whnf); first | refine Cd.go ?_ | refine ⟨rfl, ?_⟩ | refine rq_dec ⟨.inl rfl, rfl⟩ ?_ | refine rq_dec rfl ?_ | refine ⟨Nat.le_of_ble_eq_true rfl, ?_⟩ | refine ⟨.inl rfl, ?_⟩ | refine ⟨fun _ => ⟨rfl, Nat.le_of_ble_eq_true rfl⟩, ?_⟩ | refine ⟨fun _ => Nat.le_of_ble_eq_true rfl, ?_⟩ | refine ⟨fun h => Bool.noConfusion h, ?_⟩)
  conv => whnf
  refine cq_intro (fun b1 => ?_) (fun b1 => ?_) <;> try simp only [Bool.cond_true_left, Bool.cond_false_right, Bool.not_eq_true', Bool.not_eq_false', Bool.not_not] at b1
  · have b1 : i < l.length := by simp at b1; omega
    repeat ((conv => whnf); first | refine Cd.go ?_ | refine ⟨rfl, ?_⟩ | refine rq_dec ⟨.inl rfl, rfl⟩ ?_ | refine rq_dec rfl ?_ | refine ⟨Nat.le_of_ble_eq_true rfl, ?_⟩ | refine ⟨.inl rfl, ?_⟩ | refine ⟨fun _ => ⟨rfl, Nat.le_of_ble_eq_true rfl⟩, ?_⟩ | refine ⟨fun _ => Nat.le_of_ble_eq_true rfl, ?_⟩ | refine ⟨fun h => Bool.noConfusion h, ?_⟩)
    conv => whnf
    first | refine rq_dec (⟨rfl, by omega, by rw [rowsF_len, List.length_map]; omega⟩) ?_ | refine gq_dec (fun _ => ⟨rfl, by omega, by rw [rowsF_len, List.length_map]; omega⟩) ?_ | refine ⟨fun _ => ⟨rfl, by omega, by rw [rowsF_len, List.length_map]; omega⟩, ?_⟩
    rw [rowsF_getK _ i (by rw [List.length_map]; omega), show (l.map mkF).getD i f0 = mkF (l.getD i (0, 0)) by simp [List.getD_eq_getElem?_getD, b1]]
    generalize l.getD i (0, 0) = f
    repeat ((conv => whnf); first | refine Cd.go ?_ | refine ⟨rfl, ?_⟩ | refine rq_dec ⟨.inl rfl, rfl⟩ ?_ | refine rq_dec rfl ?_ | refine ⟨Nat.le_of_ble_eq_true rfl, ?_⟩ | refine ⟨.inl rfl, ?_⟩ | refine ⟨fun _ => ⟨rfl, Nat.le_of_ble_eq_true rfl⟩, ?_⟩ | refine ⟨fun _ => Nat.le_of_ble_eq_true rfl, ?_⟩ | refine ⟨fun h => Bool.noConfusion h, ?_⟩ | refine .inl ⟨_, fun _ => ⟨purA rfl, (by first | exact ok133 f)⟩, .inl rfl, ?_⟩)
    conv => whnf
    rw [wrapS (by omega)]
    refine ⟨i + 1, by show i + 1 ≤ _; omega, ?_, by show l.length - (i + 1) < l.length - i; omega⟩
    refine viewI [some 0] rfl rfl ?_ rfl ?_ rfl ?_
    repeat' (first | exact trivial | rfl | exact .inl rfl | exact .inr rfl | exact id | exact (fun h => Bool.noConfusion h) | refine And.intro ?_ ?_)
  clear b1
  repeat ((conv => whnf); first | refine Cd.go ?_ | refine ⟨rfl, ?_⟩ | refine rq_dec ⟨.inl rfl, rfl⟩ ?_ | refine rq_dec rfl ?_ | refine ⟨Nat.le_of_ble_eq_true rfl, ?_⟩ | refine ⟨.inl rfl, ?_⟩ | refine ⟨fun _ => ⟨rfl, Nat.le_of_ble_eq_true rfl⟩, ?_⟩ | refine ⟨fun _ => Nat.le_of_ble_eq_true rfl, ?_⟩ | refine ⟨fun h => Bool.noConfusion h, ?_⟩ | refine .inl ⟨_, fun _ => ⟨purA rfl, (by first | exact k134 | exact k135 | exact k136)⟩, .inl rfl, ?_⟩)
  conv => whnf
  rw [rowsR_len, rep_len]
  refine ⟨Nat, fun i => i ≤ n, fun i => ⟨[(1, ⟨[], true, .ptr 0 0 0⟩), (35, ⟨[], true, .lst 9 false (rowsR (List.replicate n fre))⟩), (36, ⟨[], true, .int .i64 (n : Int)⟩), (37, ⟨[], true, .int .i64 (i : Int)⟩)], [(0, .box [.lst 15 false (rowsF (l.map mkF)), .lst 9 false (rowsR (List.replicate n fre)), .lst 6 false (rowsZ zo), .lst 3 false (rowsG gr), .lst 3 false (rowsL ls), .lst 1 false (rowsI ck), .lst 5 false (rowsT pt)])], 1⟩, fun i => n - i, ⟨0, Nat.zero_le _, ?_⟩, fun i hI => ?_⟩
  · refine viewI [some 0] rfl rfl ?_ rfl ?_ rfl ?_
    repeat' (first | exact trivial | rfl | exact .inl rfl | exact .inr rfl | exact id | exact (fun h => Bool.noConfusion h) | refine And.intro ?_ ?_)
  dsimp only at hI ⊢
  repeat ((conv => whnf); first | refine Cd.go ?_ | refine ⟨rfl, ?_⟩ | refine rq_dec ⟨.inl rfl, rfl⟩ ?_ | refine rq_dec rfl ?_ | refine ⟨Nat.le_of_ble_eq_true rfl, ?_⟩ | refine ⟨.inl rfl, ?_⟩ | refine ⟨fun _ => ⟨rfl, Nat.le_of_ble_eq_true rfl⟩, ?_⟩ | refine ⟨fun _ => Nat.le_of_ble_eq_true rfl, ?_⟩ | refine ⟨fun h => Bool.noConfusion h, ?_⟩)
  conv => whnf
  refine cq_intro (fun b2 => ?_) (fun b2 => ?_) <;> try simp only [Bool.cond_true_left, Bool.cond_false_right, Bool.not_eq_true', Bool.not_eq_false', Bool.not_not] at b2
  · have b2 : i < n := by simp at b2; omega
    repeat ((conv => whnf); first | refine Cd.go ?_ | refine ⟨rfl, ?_⟩ | refine rq_dec ⟨.inl rfl, rfl⟩ ?_ | refine rq_dec rfl ?_ | refine ⟨Nat.le_of_ble_eq_true rfl, ?_⟩ | refine ⟨.inl rfl, ?_⟩ | refine ⟨fun _ => ⟨rfl, Nat.le_of_ble_eq_true rfl⟩, ?_⟩ | refine ⟨fun _ => Nat.le_of_ble_eq_true rfl, ?_⟩ | refine ⟨fun h => Bool.noConfusion h, ?_⟩)
    conv => whnf
    first | refine rq_dec (⟨rfl, by omega, by rw [rowsR_len, rep_len]; omega⟩) ?_ | refine gq_dec (fun _ => ⟨rfl, by omega, by rw [rowsR_len, rep_len]; omega⟩) ?_ | refine ⟨fun _ => ⟨rfl, by omega, by rw [rowsR_len, rep_len]; omega⟩, ?_⟩
    rw [rowsR_getK _ i (by rw [rep_len]; omega), show (List.replicate n fre).getD i fre = fre by simp [List.getD_eq_getElem?_getD, b2]]
    repeat ((conv => whnf); first | refine Cd.go ?_ | refine ⟨rfl, ?_⟩ | refine rq_dec ⟨.inl rfl, rfl⟩ ?_ | refine rq_dec rfl ?_ | refine ⟨Nat.le_of_ble_eq_true rfl, ?_⟩ | refine ⟨.inl rfl, ?_⟩ | refine ⟨fun _ => ⟨rfl, Nat.le_of_ble_eq_true rfl⟩, ?_⟩ | refine ⟨fun _ => Nat.le_of_ble_eq_true rfl, ?_⟩ | refine ⟨fun h => Bool.noConfusion h, ?_⟩)
    conv => whnf
    refine .inl ⟨.bool true, fun h => absurd h (by decide), .inr rfl, ?_⟩
    repeat ((conv => whnf); first | refine Cd.go ?_ | refine ⟨rfl, ?_⟩ | refine rq_dec ⟨.inl rfl, rfl⟩ ?_ | refine rq_dec rfl ?_ | refine ⟨Nat.le_of_ble_eq_true rfl, ?_⟩ | refine ⟨.inl rfl, ?_⟩ | refine ⟨fun _ => ⟨rfl, Nat.le_of_ble_eq_true rfl⟩, ?_⟩ | refine ⟨fun _ => Nat.le_of_ble_eq_true rfl, ?_⟩ | refine ⟨fun h => Bool.noConfusion h, ?_⟩)
    conv => whnf
    rw [wrapS (by omega)]
    refine ⟨i + 1, by show i + 1 ≤ _; omega, ?_, by show n - (i + 1) < n - i; omega⟩
    refine viewI [some 0] rfl rfl ?_ rfl ?_ rfl ?_
    repeat' (first | exact trivial | rfl | exact .inl rfl | exact .inr rfl | exact id | exact (fun h => Bool.noConfusion h) | refine And.intro ?_ ?_)
  repeat ((conv => whnf); first | refine Cd.go ?_ | refine ⟨rfl, ?_⟩ | refine rq_dec ⟨.inl rfl, rfl⟩ ?_ | refine rq_dec rfl ?_ | refine ⟨Nat.le_of_ble_eq_true rfl, ?_⟩ | refine ⟨.inl rfl, ?_⟩ | refine ⟨fun _ => ⟨rfl, Nat.le_of_ble_eq_true rfl⟩, ?_⟩ | refine ⟨fun _ => Nat.le_of_ble_eq_true rfl, ?_⟩ | refine ⟨fun h => Bool.noConfusion h, ?_⟩)
  conv => whnf
  refine ⟨[], trivial, rfl, trivial, rfl, ?_⟩
  try subst hk
  repeat' (first | exact trivial | rfl | exact .inl rfl | exact .inr rfl | exact id | exact (fun h => Bool.noConfusion h) | refine And.intro ?_ ?_)
end Go.Proofs.YtmhapcbjjpadnaaGreat

