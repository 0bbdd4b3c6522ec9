/- Readahead: First, the reference's. -/
import Derived.Test.YteelckbeekgfiaaDoorR1
set_option linter.unusedSimpArgs false
set_option linter.unusedVariables false
namespace Go.Proofs.YteelckbeekgfiaaDoor
open Go Go.Sk Go.RowKit

theorem okD16 (n : Int) : FnC Tryd.prog 16 [] [.int .i64 n] (.int .i64 (firstF n)) [] := by
  refine fn_okC (ob0 := []) (rc := rc16) (rvs := rv16) Tryd.func16 rfl rcq16 rvq16 (show 1 ≤ _ by decide) ?_
  generalize hk : firstF n = q
  repeat ((conv => whnf); first | refine Cd.seq ?_ | refine Cd.cut ?_ | refine Cd.reg ?_ | refine Cd.block ?_ | refine Cd.cond ?_ | refine Cd.dreg ?_ | refine Cd.skip ?_ | refine Cd.ret ?_ | refine Cd.exit ?_ | refine Cd.loop ?_ | refine ⟨rfl, ?_⟩ | refine ⟨Nat.le_of_ble_eq_true rfl, ?_⟩ | refine ⟨.inl rfl, ?_⟩ | refine ⟨fun h => Bool.noConfusion h, ?_⟩)
  conv => whnf
  refine ⟨Nat, fun i => i ≤ 3 ∧ (1 ≤ i → 1 < n) ∧ (2 ≤ i → 2 < n), fun i => ⟨[(0, ⟨[], true, .int .i64 n⟩), (2, ⟨[], true, .int .i64 0⟩), (5, ⟨[], true, .agg [.int .i64 2, .int .i64 4, .int .i64 8]⟩), (6, ⟨[], true, .int .i64 (i : Int)⟩)], [], 0⟩, fun i => 3 - i, ⟨0, ⟨by decide, by omega, by omega⟩, ?_⟩, fun i hI => ?_⟩
  · refine viewI [] rfl rfl ?_ rfl ?_ rfl ?_
    repeat' (first | exact trivial | rfl | exact .inl rfl | exact .inr rfl | exact id | exact (fun h => Bool.noConfusion h) | refine And.intro ?_ ?_)
  obtain ⟨hI1, hI2, hI3⟩ := hI
  repeat ((conv => whnf); first | refine Cd.seq ?_ | refine Cd.cut ?_ | refine Cd.reg ?_ | refine Cd.block ?_ | refine Cd.cond ?_ | refine Cd.dreg ?_ | refine Cd.skip ?_ | refine Cd.ret ?_ | refine Cd.exit ?_ | refine Cd.loop ?_ | refine ⟨rfl, ?_⟩ | refine ⟨Nat.le_of_ble_eq_true rfl, ?_⟩ | refine ⟨.inl rfl, ?_⟩ | refine ⟨fun h => Bool.noConfusion h, ?_⟩)
  conv => whnf
  refine ⟨fun h3 => ?_, fun h3 => ?_⟩ <;> try simp only [Bool.cond_true_left, Bool.cond_false_right, Bool.not_eq_true', Bool.not_eq_false', Bool.not_not] at h3
  · have h3 : i < 3 := by simp at h3; omega
    obtain rfl | rfl | rfl : i = 0 ∨ i = 1 ∨ i = 2 := by omega
    · repeat ((conv => whnf); first | refine Cd.seq ?_ | refine Cd.cut ?_ | refine Cd.reg ?_ | refine Cd.block ?_ | refine Cd.cond ?_ | refine Cd.dreg ?_ | refine Cd.skip ?_ | refine Cd.ret ?_ | refine Cd.exit ?_ | refine Cd.loop ?_ | refine ⟨rfl, ?_⟩ | refine ⟨Nat.le_of_ble_eq_true rfl, ?_⟩ | refine ⟨.inl rfl, ?_⟩ | refine ⟨fun h => Bool.noConfusion h, ?_⟩)
      conv => whnf
      refine ⟨fun _ => by decide, ?_⟩
      repeat ((conv => whnf); first | refine Cd.seq ?_ | refine Cd.cut ?_ | refine Cd.reg ?_ | refine Cd.block ?_ | refine Cd.cond ?_ | refine Cd.dreg ?_ | refine Cd.skip ?_ | refine Cd.ret ?_ | refine Cd.exit ?_ | refine Cd.loop ?_ | refine ⟨rfl, ?_⟩ | refine ⟨Nat.le_of_ble_eq_true rfl, ?_⟩ | refine ⟨.inl rfl, ?_⟩ | refine ⟨fun h => Bool.noConfusion h, ?_⟩)
      conv => whnf
      refine ⟨fun _ => by decide, ?_⟩
      repeat ((conv => whnf); first | refine Cd.seq ?_ | refine Cd.cut ?_ | refine Cd.reg ?_ | refine Cd.block ?_ | refine Cd.cond ?_ | refine Cd.dreg ?_ | refine Cd.skip ?_ | refine Cd.ret ?_ | refine Cd.exit ?_ | refine Cd.loop ?_ | refine ⟨rfl, ?_⟩ | refine ⟨Nat.le_of_ble_eq_true rfl, ?_⟩ | refine ⟨.inl rfl, ?_⟩ | refine ⟨fun h => Bool.noConfusion h, ?_⟩)
      conv => whnf
      refine ⟨fun h4 => ?_, fun h4 => ?_⟩ <;> try simp only [Bool.cond_true_left, Bool.cond_false_right, Bool.not_eq_true', Bool.not_eq_false', Bool.not_not] at h4
      · have h4 : n ≤ 1 := by simpa [IntKind.wrap_i64] using h4
        repeat ((conv => whnf); first | refine Cd.seq ?_ | refine Cd.cut ?_ | refine Cd.reg ?_ | refine Cd.block ?_ | refine Cd.cond ?_ | refine Cd.dreg ?_ | refine Cd.skip ?_ | refine Cd.ret ?_ | refine Cd.exit ?_ | refine Cd.loop ?_ | refine ⟨rfl, ?_⟩ | refine ⟨Nat.le_of_ble_eq_true rfl, ?_⟩ | refine ⟨.inl rfl, ?_⟩ | refine ⟨fun h => Bool.noConfusion h, ?_⟩)
        conv => whnf
        have : firstF n = 2 * 1 := by rw [firstF]; split <;> (try split) <;> omega
        rw [this] at hk
        refine ⟨[], ?_, rfl, trivial, rfl, ?_⟩
        · exact trivial
        try subst hk
        repeat' (first | exact trivial | rfl | exact .inl rfl | exact .inr rfl | exact id | exact (fun h => Bool.noConfusion h) | refine And.intro ?_ ?_)
      have h4 : ¬ n ≤ 1 := by simpa [IntKind.wrap_i64] using h4
      repeat ((conv => whnf); first | refine Cd.seq ?_ | refine Cd.cut ?_ | refine Cd.reg ?_ | refine Cd.block ?_ | refine Cd.cond ?_ | refine Cd.dreg ?_ | refine Cd.skip ?_ | refine Cd.ret ?_ | refine Cd.exit ?_ | refine Cd.loop ?_ | refine ⟨rfl, ?_⟩ | refine ⟨Nat.le_of_ble_eq_true rfl, ?_⟩ | refine ⟨.inl rfl, ?_⟩ | refine ⟨fun h => Bool.noConfusion h, ?_⟩)
      conv => whnf
      refine ⟨0 + 1, ⟨by decide, fun _ => by omega, fun _ => by omega⟩, ?_, by show 3 - (0 + 1) < 3 - 0; decide⟩
      refine viewI [] rfl rfl ?_ rfl ?_ rfl ?_
      repeat' (first | exact trivial | rfl | exact .inl rfl | exact .inr rfl | exact id | exact (fun h => Bool.noConfusion h) | refine And.intro ?_ ?_)
    · repeat ((conv => whnf); first | refine Cd.seq ?_ | refine Cd.cut ?_ | refine Cd.reg ?_ | refine Cd.block ?_ | refine Cd.cond ?_ | refine Cd.dreg ?_ | refine Cd.skip ?_ | refine Cd.ret ?_ | refine Cd.exit ?_ | refine Cd.loop ?_ | refine ⟨rfl, ?_⟩ | refine ⟨Nat.le_of_ble_eq_true rfl, ?_⟩ | refine ⟨.inl rfl, ?_⟩ | refine ⟨fun h => Bool.noConfusion h, ?_⟩)
      conv => whnf
      refine ⟨fun _ => by decide, ?_⟩
      repeat ((conv => whnf); first | refine Cd.seq ?_ | refine Cd.cut ?_ | refine Cd.reg ?_ | refine Cd.block ?_ | refine Cd.cond ?_ | refine Cd.dreg ?_ | refine Cd.skip ?_ | refine Cd.ret ?_ | refine Cd.exit ?_ | refine Cd.loop ?_ | refine ⟨rfl, ?_⟩ | refine ⟨Nat.le_of_ble_eq_true rfl, ?_⟩ | refine ⟨.inl rfl, ?_⟩ | refine ⟨fun h => Bool.noConfusion h, ?_⟩)
      conv => whnf
      refine ⟨fun _ => by decide, ?_⟩
      repeat ((conv => whnf); first | refine Cd.seq ?_ | refine Cd.cut ?_ | refine Cd.reg ?_ | refine Cd.block ?_ | refine Cd.cond ?_ | refine Cd.dreg ?_ | refine Cd.skip ?_ | refine Cd.ret ?_ | refine Cd.exit ?_ | refine Cd.loop ?_ | refine ⟨rfl, ?_⟩ | refine ⟨Nat.le_of_ble_eq_true rfl, ?_⟩ | refine ⟨.inl rfl, ?_⟩ | refine ⟨fun h => Bool.noConfusion h, ?_⟩)
      conv => whnf
      refine ⟨fun h4 => ?_, fun h4 => ?_⟩ <;> try simp only [Bool.cond_true_left, Bool.cond_false_right, Bool.not_eq_true', Bool.not_eq_false', Bool.not_not] at h4
      · have h4 : n ≤ 2 := by simpa [IntKind.wrap_i64] using h4
        repeat ((conv => whnf); first | refine Cd.seq ?_ | refine Cd.cut ?_ | refine Cd.reg ?_ | refine Cd.block ?_ | refine Cd.cond ?_ | refine Cd.dreg ?_ | refine Cd.skip ?_ | refine Cd.ret ?_ | refine Cd.exit ?_ | refine Cd.loop ?_ | refine ⟨rfl, ?_⟩ | refine ⟨Nat.le_of_ble_eq_true rfl, ?_⟩ | refine ⟨.inl rfl, ?_⟩ | refine ⟨fun h => Bool.noConfusion h, ?_⟩)
        conv => whnf
        have : firstF n = 2 * 2 := by rw [firstF]; split <;> (try split) <;> omega
        rw [this] at hk
        refine ⟨[], ?_, rfl, trivial, rfl, ?_⟩
        · exact trivial
        try subst hk
        repeat' (first | exact trivial | rfl | exact .inl rfl | exact .inr rfl | exact id | exact (fun h => Bool.noConfusion h) | refine And.intro ?_ ?_)
      have h4 : ¬ n ≤ 2 := by simpa [IntKind.wrap_i64] using h4
      repeat ((conv => whnf); first | refine Cd.seq ?_ | refine Cd.cut ?_ | refine Cd.reg ?_ | refine Cd.block ?_ | refine Cd.cond ?_ | refine Cd.dreg ?_ | refine Cd.skip ?_ | refine Cd.ret ?_ | refine Cd.exit ?_ | refine Cd.loop ?_ | refine ⟨rfl, ?_⟩ | refine ⟨Nat.le_of_ble_eq_true rfl, ?_⟩ | refine ⟨.inl rfl, ?_⟩ | refine ⟨fun h => Bool.noConfusion h, ?_⟩)
      conv => whnf
      refine ⟨1 + 1, ⟨by decide, fun _ => by omega, fun _ => by omega⟩, ?_, by show 3 - (1 + 1) < 3 - 1; decide⟩
      refine viewI [] rfl rfl ?_ rfl ?_ rfl ?_
      repeat' (first | exact trivial | rfl | exact .inl rfl | exact .inr rfl | exact id | exact (fun h => Bool.noConfusion h) | refine And.intro ?_ ?_)
    · repeat ((conv => whnf); first | refine Cd.seq ?_ | refine Cd.cut ?_ | refine Cd.reg ?_ | refine Cd.block ?_ | refine Cd.cond ?_ | refine Cd.dreg ?_ | refine Cd.skip ?_ | refine Cd.ret ?_ | refine Cd.exit ?_ | refine Cd.loop ?_ | refine ⟨rfl, ?_⟩ | refine ⟨Nat.le_of_ble_eq_true rfl, ?_⟩ | refine ⟨.inl rfl, ?_⟩ | refine ⟨fun h => Bool.noConfusion h, ?_⟩)
      conv => whnf
      refine ⟨fun _ => by decide, ?_⟩
      repeat ((conv => whnf); first | refine Cd.seq ?_ | refine Cd.cut ?_ | refine Cd.reg ?_ | refine Cd.block ?_ | refine Cd.cond ?_ | refine Cd.dreg ?_ | refine Cd.skip ?_ | refine Cd.ret ?_ | refine Cd.exit ?_ | refine Cd.loop ?_ | refine ⟨rfl, ?_⟩ | refine ⟨Nat.le_of_ble_eq_true rfl, ?_⟩ | refine ⟨.inl rfl, ?_⟩ | refine ⟨fun h => Bool.noConfusion h, ?_⟩)
      conv => whnf
      refine ⟨fun _ => by decide, ?_⟩
      repeat ((conv => whnf); first | refine Cd.seq ?_ | refine Cd.cut ?_ | refine Cd.reg ?_ | refine Cd.block ?_ | refine Cd.cond ?_ | refine Cd.dreg ?_ | refine Cd.skip ?_ | refine Cd.ret ?_ | refine Cd.exit ?_ | refine Cd.loop ?_ | refine ⟨rfl, ?_⟩ | refine ⟨Nat.le_of_ble_eq_true rfl, ?_⟩ | refine ⟨.inl rfl, ?_⟩ | refine ⟨fun h => Bool.noConfusion h, ?_⟩)
      conv => whnf
      refine ⟨fun h4 => ?_, fun h4 => ?_⟩ <;> try simp only [Bool.cond_true_left, Bool.cond_false_right, Bool.not_eq_true', Bool.not_eq_false', Bool.not_not] at h4
      · have h4 : n ≤ 4 := by simpa [IntKind.wrap_i64] using h4
        repeat ((conv => whnf); first | refine Cd.seq ?_ | refine Cd.cut ?_ | refine Cd.reg ?_ | refine Cd.block ?_ | refine Cd.cond ?_ | refine Cd.dreg ?_ | refine Cd.skip ?_ | refine Cd.ret ?_ | refine Cd.exit ?_ | refine Cd.loop ?_ | refine ⟨rfl, ?_⟩ | refine ⟨Nat.le_of_ble_eq_true rfl, ?_⟩ | refine ⟨.inl rfl, ?_⟩ | refine ⟨fun h => Bool.noConfusion h, ?_⟩)
        conv => whnf
        have : firstF n = 2 * 4 := by rw [firstF]; split <;> (try split) <;> omega
        rw [this] at hk
        refine ⟨[], ?_, rfl, trivial, rfl, ?_⟩
        · exact trivial
        try subst hk
        repeat' (first | exact trivial | rfl | exact .inl rfl | exact .inr rfl | exact id | exact (fun h => Bool.noConfusion h) | refine And.intro ?_ ?_)
      have h4 : ¬ n ≤ 4 := by simpa [IntKind.wrap_i64] using h4
      repeat ((conv => whnf); first | refine Cd.seq ?_ | refine Cd.cut ?_ | refine Cd.reg ?_ | refine Cd.block ?_ | refine Cd.cond ?_ | refine Cd.dreg ?_ | refine Cd.skip ?_ | refine Cd.ret ?_ | refine Cd.exit ?_ | refine Cd.loop ?_ | refine ⟨rfl, ?_⟩ | refine ⟨Nat.le_of_ble_eq_true rfl, ?_⟩ | refine ⟨.inl rfl, ?_⟩ | refine ⟨fun h => Bool.noConfusion h, ?_⟩)
      conv => whnf
      refine ⟨2 + 1, ⟨by decide, fun _ => by omega, fun _ => by omega⟩, ?_, by show 3 - (2 + 1) < 3 - 2; decide⟩
      refine viewI [] rfl rfl ?_ rfl ?_ rfl ?_
      repeat' (first | exact trivial | rfl | exact .inl rfl | exact .inr rfl | exact id | exact (fun h => Bool.noConfusion h) | refine And.intro ?_ ?_)
  have h3 : i = 3 := by simp at h3; omega
  subst h3
  repeat ((conv => whnf); first | refine Cd.seq ?_ | refine Cd.cut ?_ | refine Cd.reg ?_ | refine Cd.block ?_ | refine Cd.cond ?_ | refine Cd.dreg ?_ | refine Cd.skip ?_ | refine Cd.ret ?_ | refine Cd.exit ?_ | refine Cd.loop ?_ | refine ⟨rfl, ?_⟩ | refine ⟨Nat.le_of_ble_eq_true rfl, ?_⟩ | refine ⟨.inl rfl, ?_⟩ | refine ⟨fun h => Bool.noConfusion h, ?_⟩)
  conv => whnf
  have : firstF n = 8 := by rw [firstF]; split <;> (try split) <;> omega
  rw [this] at hk
  refine ⟨[], ?_, rfl, trivial, rfl, ?_⟩
  · exact trivial
  try subst hk
  repeat' (first | exact trivial | rfl | exact .inl rfl | exact .inr rfl | exact id | exact (fun h => Bool.noConfusion h) | refine And.intro ?_ ?_)
theorem bifand (a b : Bool) : (bif a then b else false) = (a && b) := by cases a <;> rfl
theorem okD17 (n : Int) : FnC Tryd.prog 17 [] [.int .i64 n] (.int .i64 (firstF n)) [] := by
  refine fn_okC (ob0 := []) (rc := rc17) (rvs := rv17) Tryd.func17 rfl rcq17 rvq17 (show 1 ≤ _ by decide) ?_
  generalize hk : firstF n = q
  repeat ((conv => whnf); first | refine Cd.seq ?_ | refine Cd.cut ?_ | refine Cd.reg ?_ | refine Cd.block ?_ | refine Cd.cond ?_ | refine Cd.dreg ?_ | refine Cd.skip ?_ | refine Cd.ret ?_ | refine Cd.exit ?_ | refine Cd.loop ?_ | refine ⟨rfl, ?_⟩ | refine ⟨Nat.le_of_ble_eq_true rfl, ?_⟩ | refine ⟨.inl rfl, ?_⟩ | refine ⟨fun h => Bool.noConfusion h, ?_⟩)
  conv => whnf
  refine ⟨Int, fun p => (p = 1 ∨ (p = 2 ∧ 1 < n) ∨ (p = 4 ∧ 2 < n) ∨ (p = 8 ∧ 4 < n)), fun p => ⟨[(0, ⟨[], true, .int .i64 n⟩), (2, ⟨[], true, .int .i64 0⟩), (3, ⟨[], true, .int .i64 p⟩)], [], 0⟩, fun p => (8 - p).toNat, ⟨1, .inl rfl, ?_⟩, fun p hI => ?_⟩
  · refine viewI [] rfl rfl ?_ rfl ?_ rfl ?_
    repeat' (first | exact trivial | rfl | exact .inl rfl | exact .inr rfl | exact id | exact (fun h => Bool.noConfusion h) | refine And.intro ?_ ?_)
  repeat ((conv => whnf); first | refine Cd.seq ?_ | refine Cd.cut ?_ | refine Cd.reg ?_ | refine Cd.block ?_ | refine Cd.cond ?_ | refine Cd.dreg ?_ | refine Cd.skip ?_ | refine Cd.ret ?_ | refine Cd.exit ?_ | refine Cd.loop ?_ | refine ⟨rfl, ?_⟩ | refine ⟨Nat.le_of_ble_eq_true rfl, ?_⟩ | refine ⟨.inl rfl, ?_⟩ | refine ⟨fun h => Bool.noConfusion h, ?_⟩)
  conv => whnf
  refine ⟨fun h3 => ?_, fun h3 => ?_⟩ <;> try simp only [Bool.cond_true_left, Bool.cond_false_right, Bool.not_eq_true', Bool.not_eq_false', Bool.not_not] at h3
  · have h3 : p < n ∧ p < 8 := by simpa only [Bool.and_eq_true, decide_eq_true_eq] using h3
    repeat ((conv => whnf); first | refine Cd.seq ?_ | refine Cd.cut ?_ | refine Cd.reg ?_ | refine Cd.block ?_ | refine Cd.cond ?_ | refine Cd.dreg ?_ | refine Cd.skip ?_ | refine Cd.ret ?_ | refine Cd.exit ?_ | refine Cd.loop ?_ | refine ⟨rfl, ?_⟩ | refine ⟨Nat.le_of_ble_eq_true rfl, ?_⟩ | refine ⟨.inl rfl, ?_⟩ | refine ⟨fun h => Bool.noConfusion h, ?_⟩)
    conv => whnf
    have hw : IntKind.i64.wrap (p * 2) = p * 2 := wrapI (by omega) (by omega)
    rw [hw]
    refine ⟨p * 2, by omega, ?_, by show (8 - p * 2).toNat < (8 - p).toNat; omega⟩
    refine viewI [] rfl rfl ?_ rfl ?_ rfl ?_
    repeat' (first | exact trivial | rfl | exact .inl rfl | exact .inr rfl | exact id | exact (fun h => Bool.noConfusion h) | refine And.intro ?_ ?_)
  have h3 : ¬ (p < n ∧ p < 8) := by rintro ⟨a, b⟩; rw [decide_eq_true a, decide_eq_true b] at h3; cases h3
  repeat ((conv => whnf); first | refine Cd.seq ?_ | refine Cd.cut ?_ | refine Cd.reg ?_ | refine Cd.block ?_ | refine Cd.cond ?_ | refine Cd.dreg ?_ | refine Cd.skip ?_ | refine Cd.ret ?_ | refine Cd.exit ?_ | refine Cd.loop ?_ | refine ⟨rfl, ?_⟩ | refine ⟨Nat.le_of_ble_eq_true rfl, ?_⟩ | refine ⟨.inl rfl, ?_⟩ | refine ⟨fun h => Bool.noConfusion h, ?_⟩)
  conv => whnf
  have hw : IntKind.i64.wrap (2 * p) = 2 * p := wrapI (by omega) (by omega)
  rw [hw]
  have : min (2 * p) 8 = q := by rw [← hk, firstF]; split <;> (try split) <;> omega
  rw [this]
  refine ⟨[], ?_, rfl, trivial, rfl, ?_⟩
  · exact trivial
  try subst hk
  repeat' (first | exact trivial | rfl | exact .inl rfl | exact .inr rfl | exact id | exact (fun h => Bool.noConfusion h) | refine And.intro ?_ ?_)
end Go.Proofs.YteelckbeekgfiaaDoor
