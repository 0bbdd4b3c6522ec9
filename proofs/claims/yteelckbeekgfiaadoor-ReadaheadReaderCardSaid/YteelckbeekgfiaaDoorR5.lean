/- Readahead: Plan. -/
import Derived.Test.YteelckbeekgfiaaDoorR4
set_option linter.unusedSimpArgs false
set_option linter.unusedVariables false
namespace Go.Proofs.YteelckbeekgfiaaDoor
open Go Go.Sk Go.RowKit

theorem checkF_one (s : Stm) : checkF [s] = rightF s := by
  rw [Bool.eq_iff_iff, checkF_iff]
  simp only [List.length_cons, List.length_nil]
  constructor
  · rintro ⟨-, h, -⟩; exact h 0 (by decide)
  · intro h
    refine ⟨by decide, fun i hi => ?_, by simp [stamps]⟩
    have : i = 0 := by omega
    subst this; exact h
def rangeBad (a b e : Int) : Bool := (((decide (a < 0) || decide (b ≤ a)) || decide (256 < b)) || decide (e < 0)) || decide (256 < e)
theorem rangeBad_no {a b e : Int} (h : rangeBad a b e = false) : (0 ≤ a ∧ a < b ∧ b ≤ 256) ∧ 0 ≤ e ∧ e ≤ 256 := by
  simp only [rangeBad, Bool.or_eq_false_iff, decide_eq_false_iff_not] at h
  omega
def planF (w : Win) (s : Stm) (a b e : Int) : Win × List Int × Int :=
  bif !checkW w || !rightF s then (zeroWin, [], 1) else bif rangeBad a b e then (zeroWin, [], 2) else bif !sureF s then (zeroWin, [], 0) else
  bif s.kind == 2 then ((forwardF w a b e).1, (forwardF w a b e).2, 0) else (zeroWin, keptF (predictF s (firstF (b - a))) e, 0)
theorem genP_le (step n : Int) : ∀ (f : Nat) (fr to p : Int) (out r : List Int), genP step n f fr to p out = some r → (out.length : Int) ≤ n → (r.length : Int) ≤ n := by
  intro f
  induction f with
  | zero => intro fr to p out r h; simp [genP] at h
  | succ f ih =>
    intro fr to p out r h hl
    simp only [genP] at h
    cases h1 : decide (p < to) with
    | false => rw [h1, cond_false] at h; exact ih _ _ _ _ _ h hl
    | true =>
      rw [h1, cond_true] at h
      cases h2 : (decide (n ≤ (out.length : Int)) || decide (p < 0)) || decide (255 < p) with
      | true => rw [h2, cond_true] at h; obtain rfl := Option.some.inj h; exact hl
      | false =>
        rw [h2, cond_false] at h
        simp only [Bool.or_eq_false_iff, decide_eq_false_iff_not] at h2
        exact ih _ _ _ _ _ h (by rw [List.length_append]; simp; omega)
theorem predictF_le (s : Stm) (n : Int) (hn : 0 ≤ n) : ((predictF s n).length : Int) ≤ n := by
  unfold predictF
  cases !rightF s || s.kind == 1 with
  | true => simpa using hn
  | false =>
    simp only [cond_false]
    cases h : genP (preStep s) n 5000 (preFrom s) (preTo s) (preTo s) [] with
    | none => simpa using hn
    | some r => exact genP_le _ _ _ _ _ _ _ _ h (by simpa using hn)
set_option maxRecDepth 20000 in
theorem okD9 (w : Win) (s : Stm) (a b e : Int) :
    FnC Tryd.prog 9 [] [.agg w.c, .agg s.c, .int .i64 a, .int .i64 b, .int .i64 e] (.tup [.agg (planF w s a b e).1.c, .lst 1 false (rowsI (planF w s a b e).2.1), .int .i64 (planF w s a b e).2.2]) [] := by
  refine fn_okC (ob0 := []) (rc := rc9) (rvs := rv9) Tryd.func9 rfl rcq9 rvq9 (show 5 ≤ _ by decide) ?_
  generalize hk : planF w s a b e = q
  repeat ((conv => whnf); first | refine Cd.seq ?_ | refine Cd.cut ?_ | refine Cd.reg ?_ | refine Cd.block ?_ | refine Cd.cond ?_ | refine Cd.dreg ?_ | refine Cd.skip ?_ | refine Cd.ret ?_ | refine Cd.exit ?_ | refine Cd.loop ?_ | refine ⟨rfl, ?_⟩ | refine ⟨Nat.le_of_ble_eq_true rfl, ?_⟩ | refine ⟨.inl rfl, ?_⟩ | refine ⟨fun h => Bool.noConfusion h, ?_⟩ | refine .inl ⟨_, fun _ => ⟨purA rfl, (by first | exact okD14 w)⟩, .inl rfl, ?_⟩)
  conv => whnf
  refine ⟨fun hc => ?_, fun hc => ?_⟩
  case' refine_2 =>
    have hc : checkW w = false := by simpa using hc
    have hcc : (!!checkW w) = false := by simp [hc]
    repeat ((conv => whnf); first | refine Cd.seq ?_ | refine Cd.cut ?_ | refine Cd.reg ?_ | refine Cd.block ?_ | refine Cd.cond ?_ | refine Cd.dreg ?_ | refine Cd.skip ?_ | refine Cd.ret ?_ | refine Cd.exit ?_ | refine Cd.loop ?_ | refine ⟨rfl, ?_⟩ | refine ⟨Nat.le_of_ble_eq_true rfl, ?_⟩ | refine ⟨.inl rfl, ?_⟩ | refine ⟨fun h => Bool.noConfusion h, ?_⟩)
    conv => whnf
    refine .inl ⟨.bool true, fun h => absurd (h.symm.trans hcc) (by decide), .inr rfl, ?_⟩
    repeat ((conv => whnf); first | refine Cd.seq ?_ | refine Cd.cut ?_ | refine Cd.reg ?_ | refine Cd.block ?_ | refine Cd.cond ?_ | refine Cd.dreg ?_ | refine Cd.skip ?_ | refine Cd.ret ?_ | refine Cd.exit ?_ | refine Cd.loop ?_ | refine ⟨rfl, ?_⟩ | refine ⟨Nat.le_of_ble_eq_true rfl, ?_⟩ | refine ⟨.inl rfl, ?_⟩ | refine ⟨fun h => Bool.noConfusion h, ?_⟩)
    conv => whnf
    refine ⟨fun h1 => ?_, fun h1 => ?_⟩ <;> try simp only [Bool.cond_true_left, Bool.cond_false_right, Bool.not_eq_true', Bool.not_eq_false', Bool.not_not] at h1
    · repeat ((conv => whnf); first | refine Cd.seq ?_ | refine Cd.cut ?_ | refine Cd.reg ?_ | refine Cd.block ?_ | refine Cd.cond ?_ | refine Cd.dreg ?_ | refine Cd.skip ?_ | refine Cd.ret ?_ | refine Cd.exit ?_ | refine Cd.loop ?_ | refine ⟨rfl, ?_⟩ | refine ⟨Nat.le_of_ble_eq_true rfl, ?_⟩ | refine ⟨.inl rfl, ?_⟩ | refine ⟨fun h => Bool.noConfusion h, ?_⟩)
      conv => whnf
      have : q = (zeroWin, [], 1) := by rw [← hk, planF, hc]; rfl
      subst this
      refine ⟨[], ?_, rfl, trivial, rfl, ?_⟩
      · exact trivial
      try subst hk
      repeat' (first | exact trivial | rfl | exact .inl rfl | exact .inr rfl | exact id | exact (fun h => Bool.noConfusion h) | refine And.intro ?_ ?_)
    · rw [hc] at h1; cases h1
  have hc : checkW w = true := by simpa using hc
  repeat ((conv => whnf); first | refine Cd.seq ?_ | refine Cd.cut ?_ | refine Cd.reg ?_ | refine Cd.block ?_ | refine Cd.cond ?_ | refine Cd.dreg ?_ | refine Cd.skip ?_ | refine Cd.ret ?_ | refine Cd.exit ?_ | refine Cd.loop ?_ | refine ⟨rfl, ?_⟩ | refine ⟨Nat.le_of_ble_eq_true rfl, ?_⟩ | refine ⟨.inl rfl, ?_⟩ | refine ⟨fun h => Bool.noConfusion h, ?_⟩)
  conv => whnf
  refine .inl ⟨_, fun _ => ⟨fun v hv => ?_, ok26 [s] false (by show ((1 : Nat) : Int) < 2 ^ 62; decide)⟩, .inr rfl, ?_⟩
  · obtain rfl := List.mem_singleton.1 hv; exact Nat.le_refl 1
  rw [checkF_one]
  repeat ((conv => whnf); first | refine Cd.seq ?_ | refine Cd.cut ?_ | refine Cd.reg ?_ | refine Cd.block ?_ | refine Cd.cond ?_ | refine Cd.dreg ?_ | refine Cd.skip ?_ | refine Cd.ret ?_ | refine Cd.exit ?_ | refine Cd.loop ?_ | refine ⟨rfl, ?_⟩ | refine ⟨Nat.le_of_ble_eq_true rfl, ?_⟩ | refine ⟨.inl rfl, ?_⟩ | refine ⟨fun h => Bool.noConfusion h, ?_⟩)
  conv => whnf
  refine ⟨fun h1 => ?_, fun h1 => ?_⟩ <;> try simp only [Bool.cond_true_left, Bool.cond_false_right, Bool.not_eq_true', Bool.not_eq_false', Bool.not_not] at h1
  · repeat ((conv => whnf); first | refine Cd.seq ?_ | refine Cd.cut ?_ | refine Cd.reg ?_ | refine Cd.block ?_ | refine Cd.cond ?_ | refine Cd.dreg ?_ | refine Cd.skip ?_ | refine Cd.ret ?_ | refine Cd.exit ?_ | refine Cd.loop ?_ | refine ⟨rfl, ?_⟩ | refine ⟨Nat.le_of_ble_eq_true rfl, ?_⟩ | refine ⟨.inl rfl, ?_⟩ | refine ⟨fun h => Bool.noConfusion h, ?_⟩)
    conv => whnf
    simp only [planF, h1, cond_true] at hk
    subst hk
    refine ⟨[], ?_, rfl, trivial, rfl, ?_⟩
    · exact trivial
    try subst hk
    repeat' (first | exact trivial | rfl | exact .inl rfl | exact .inr rfl | exact id | exact (fun h => Bool.noConfusion h) | refine And.intro ?_ ?_)
  simp only [planF, h1, cond_false] at hk
  repeat ((conv => whnf); first | refine Cd.seq ?_ | refine Cd.cut ?_ | refine Cd.reg ?_ | refine Cd.block ?_ | refine Cd.cond ?_ | refine Cd.dreg ?_ | refine Cd.skip ?_ | refine Cd.ret ?_ | refine Cd.exit ?_ | refine Cd.loop ?_ | refine ⟨rfl, ?_⟩ | refine ⟨Nat.le_of_ble_eq_true rfl, ?_⟩ | refine ⟨.inl rfl, ?_⟩ | refine ⟨fun h => Bool.noConfusion h, ?_⟩)
  conv => whnf
  refine ⟨fun h2 => ?_, fun h2 => ?_⟩ <;> try simp only [Bool.cond_true_left, Bool.cond_false_right, Bool.not_eq_true', Bool.not_eq_false', Bool.not_not] at h2
  · have h2 : rangeBad a b e = true := h2
    simp only [h2, cond_true] at hk
    subst hk
    repeat ((conv => whnf); first | refine Cd.seq ?_ | refine Cd.cut ?_ | refine Cd.reg ?_ | refine Cd.block ?_ | refine Cd.cond ?_ | refine Cd.dreg ?_ | refine Cd.skip ?_ | refine Cd.ret ?_ | refine Cd.exit ?_ | refine Cd.loop ?_ | refine ⟨rfl, ?_⟩ | refine ⟨Nat.le_of_ble_eq_true rfl, ?_⟩ | refine ⟨.inl rfl, ?_⟩ | refine ⟨fun h => Bool.noConfusion h, ?_⟩)
    conv => whnf
    refine ⟨[], ?_, rfl, trivial, rfl, ?_⟩
    · exact trivial
    try subst hk
    repeat' (first | exact trivial | rfl | exact .inl rfl | exact .inr rfl | exact id | exact (fun h => Bool.noConfusion h) | refine And.intro ?_ ?_)
  have h2 : rangeBad a b e = false := h2
  simp only [h2, cond_false] at hk
  obtain ⟨ha, he⟩ := rangeBad_no h2
  repeat ((conv => whnf); first | refine Cd.seq ?_ | refine Cd.cut ?_ | refine Cd.reg ?_ | refine Cd.block ?_ | refine Cd.cond ?_ | refine Cd.dreg ?_ | refine Cd.skip ?_ | refine Cd.ret ?_ | refine Cd.exit ?_ | refine Cd.loop ?_ | refine ⟨rfl, ?_⟩ | refine ⟨Nat.le_of_ble_eq_true rfl, ?_⟩ | refine ⟨.inl rfl, ?_⟩ | refine ⟨fun h => Bool.noConfusion h, ?_⟩ | refine .inl ⟨_, fun _ => ⟨purA rfl, (by first | exact ok21 s)⟩, .inl rfl, ?_⟩)
  conv => whnf
  refine ⟨fun h3 => ?_, fun h3 => ?_⟩ <;> try simp only [Bool.cond_true_left, Bool.cond_false_right, Bool.not_eq_true', Bool.not_eq_false', Bool.not_not] at h3
  · have h3 : (!sureF s) = true := by rw [h3]; rfl
    simp only [h3, cond_true] at hk
    subst hk
    repeat ((conv => whnf); first | refine Cd.seq ?_ | refine Cd.cut ?_ | refine Cd.reg ?_ | refine Cd.block ?_ | refine Cd.cond ?_ | refine Cd.dreg ?_ | refine Cd.skip ?_ | refine Cd.ret ?_ | refine Cd.exit ?_ | refine Cd.loop ?_ | refine ⟨rfl, ?_⟩ | refine ⟨Nat.le_of_ble_eq_true rfl, ?_⟩ | refine ⟨.inl rfl, ?_⟩ | refine ⟨fun h => Bool.noConfusion h, ?_⟩)
    conv => whnf
    refine ⟨[], ?_, rfl, trivial, rfl, ?_⟩
    · exact trivial
    try subst hk
    repeat' (first | exact trivial | rfl | exact .inl rfl | exact .inr rfl | exact id | exact (fun h => Bool.noConfusion h) | refine And.intro ?_ ?_)
  have h3 : (!sureF s) = false := by rw [h3]; rfl
  simp only [h3, cond_false] at hk
  repeat ((conv => whnf); first | refine Cd.seq ?_ | refine Cd.cut ?_ | refine Cd.reg ?_ | refine Cd.block ?_ | refine Cd.cond ?_ | refine Cd.dreg ?_ | refine Cd.skip ?_ | refine Cd.ret ?_ | refine Cd.exit ?_ | refine Cd.loop ?_ | refine ⟨rfl, ?_⟩ | refine ⟨Nat.le_of_ble_eq_true rfl, ?_⟩ | refine ⟨.inl rfl, ?_⟩ | refine ⟨fun h => Bool.noConfusion h, ?_⟩)
  conv => whnf
  refine ⟨fun h4 => ?_, fun h4 => ?_⟩ <;> try simp only [Bool.cond_true_left, Bool.cond_false_right, Bool.not_eq_true', Bool.not_eq_false', Bool.not_not] at h4
  · have h4 : (s.kind == 2) = true := by simpa using h4
    simp only [h4, cond_true] at hk
    subst hk
    repeat ((conv => whnf); first | refine Cd.seq ?_ | refine Cd.cut ?_ | refine Cd.reg ?_ | refine Cd.block ?_ | refine Cd.cond ?_ | refine Cd.dreg ?_ | refine Cd.skip ?_ | refine Cd.ret ?_ | refine Cd.exit ?_ | refine Cd.loop ?_ | refine ⟨rfl, ?_⟩ | refine ⟨Nat.le_of_ble_eq_true rfl, ?_⟩ | refine ⟨.inl rfl, ?_⟩ | refine ⟨fun h => Bool.noConfusion h, ?_⟩ | refine .inl ⟨_, fun _ => ⟨purA rfl, (by first | exact okD27 w a b e hc ha he)⟩, .inl rfl, ?_⟩)
    conv => whnf
    refine ⟨[], ?_, rfl, trivial, rfl, ?_⟩
    · exact trivial
    try subst hk
    repeat' (first | exact trivial | rfl | exact .inl rfl | exact .inr rfl | exact id | exact (fun h => Bool.noConfusion h) | refine And.intro ?_ ?_)
  have h4 : (s.kind == 2) = false := by simpa using h4
  simp only [h4, cond_false] at hk
  have h4w : IntKind.i64.wrap (b - a) = b - a := wrapI (by omega) (by omega)
  have hf := firstF_in (b - a)
  have hl := predictF_le s (firstF (b - a)) (by omega)
  repeat ((conv => whnf); first | refine Cd.seq ?_ | refine Cd.cut ?_ | refine Cd.reg ?_ | refine Cd.block ?_ | refine Cd.cond ?_ | refine Cd.dreg ?_ | refine Cd.skip ?_ | refine Cd.ret ?_ | refine Cd.exit ?_ | refine Cd.loop ?_ | refine ⟨rfl, ?_⟩ | refine ⟨Nat.le_of_ble_eq_true rfl, ?_⟩ | refine ⟨.inl rfl, ?_⟩ | refine ⟨fun h => Bool.noConfusion h, ?_⟩)
  conv => whnf
  rw [h4w]
  repeat ((conv => whnf); first | refine Cd.seq ?_ | refine Cd.cut ?_ | refine Cd.reg ?_ | refine Cd.block ?_ | refine Cd.cond ?_ | refine Cd.dreg ?_ | refine Cd.skip ?_ | refine Cd.ret ?_ | refine Cd.exit ?_ | refine Cd.loop ?_ | refine ⟨rfl, ?_⟩ | refine ⟨Nat.le_of_ble_eq_true rfl, ?_⟩ | refine ⟨.inl rfl, ?_⟩ | refine ⟨fun h => Bool.noConfusion h, ?_⟩ | refine .inl ⟨_, fun _ => ⟨purA rfl, (by first | exact okD16 (b - a) | exact ok28 s (firstF (b - a)))⟩, .inl rfl, ?_⟩)
  conv => whnf
  generalize predictF s (firstF (b - a)) = l at hl hk
  rw [rowsI_len]
  refine ⟨Nat × List Int, fun x => x.1 ≤ l.length ∧ x.2 = keptF (l.take x.1) e, fun | (i, out) => ⟨[(4, ⟨[], true, .int .i64 e⟩), (10, ⟨[], true, .ptr 0 0 0⟩), (16, ⟨[], true, .sl 1 0 out.length⟩), (73, ⟨[], true, .lst 1 false (rowsI l)⟩), (74, ⟨[], true, .int .i64 (l.length : Int)⟩), (75, ⟨[], true, .int .i64 (i : Int)⟩)],
    [(0, .box [.int .i64 0, .int .i64 0, .int .i64 0]), (1, .row 1 (rowsI out))], 2⟩, fun x => l.length - x.1, ⟨(0, []), ⟨by simp, by simp [keptF]⟩, ?_⟩, fun x hI => ?_⟩
  · refine viewI [some 2, none] rfl rfl ?_ rfl ?_ rfl ?_
    repeat' (first | exact trivial | rfl | exact .inl rfl | exact .inr rfl | exact id | exact (fun h => Bool.noConfusion h) | refine And.intro ?_ ?_)
  obtain ⟨i, out⟩ := x
  obtain ⟨hI1, hI2⟩ := hI
  simp only at hI1 hI2
  have hlen : out.length ≤ i := by rw [hI2]; refine Nat.le_trans (keptF_le _ _) ?_; rw [List.length_take]; omega
  have hw1 : IntKind.i64.wrap ((i : Int) + 1) = ((i + 1 : Nat) : Int) := by rw [wrapI (by omega) (by omega)]; omega
  repeat ((conv => whnf); first | refine Cd.seq ?_ | refine Cd.cut ?_ | refine Cd.reg ?_ | refine Cd.block ?_ | refine Cd.cond ?_ | refine Cd.dreg ?_ | refine Cd.skip ?_ | refine Cd.ret ?_ | refine Cd.exit ?_ | refine Cd.loop ?_ | refine ⟨rfl, ?_⟩ | refine ⟨Nat.le_of_ble_eq_true rfl, ?_⟩ | refine ⟨.inl rfl, ?_⟩ | refine ⟨fun h => Bool.noConfusion h, ?_⟩)
  conv => whnf
  refine ⟨fun h5 => ?_, fun h5 => ?_⟩ <;> try simp only [Bool.cond_true_left, Bool.cond_false_right, Bool.not_eq_true', Bool.not_eq_false', Bool.not_not] at h5
  · have h5 : i < l.length := by simp at h5; omega
    have hst := keptF_take l e i h5
    rw [← hI2] at hst
    repeat ((conv => whnf); first | refine Cd.seq ?_ | refine Cd.cut ?_ | refine Cd.reg ?_ | refine Cd.block ?_ | refine Cd.cond ?_ | refine Cd.dreg ?_ | refine Cd.skip ?_ | refine Cd.ret ?_ | refine Cd.exit ?_ | refine Cd.loop ?_ | refine ⟨rfl, ?_⟩ | refine ⟨Nat.le_of_ble_eq_true rfl, ?_⟩ | refine ⟨.inl rfl, ?_⟩ | refine ⟨fun h => Bool.noConfusion h, ?_⟩)
    conv => whnf
    refine ⟨fun _ => ⟨rfl, by omega, by rw [rowsI_len]; omega⟩, ?_⟩
    rw [show ((i : Int)).toNat = i by omega, rowsI_get l i h5]
    repeat ((conv => whnf); first | refine Cd.seq ?_ | refine Cd.cut ?_ | refine Cd.reg ?_ | refine Cd.block ?_ | refine Cd.cond ?_ | refine Cd.dreg ?_ | refine Cd.skip ?_ | refine Cd.ret ?_ | refine Cd.exit ?_ | refine Cd.loop ?_ | refine ⟨rfl, ?_⟩ | refine ⟨Nat.le_of_ble_eq_true rfl, ?_⟩ | refine ⟨.inl rfl, ?_⟩ | refine ⟨fun h => Bool.noConfusion h, ?_⟩)
    conv => whnf
    refine ⟨fun h6 => ?_, fun h6 => ?_⟩ <;> try simp only [Bool.cond_true_left, Bool.cond_false_right, Bool.not_eq_true', Bool.not_eq_false', Bool.not_not] at h6
    · have h6 : l[i] < e := by simpa using h6
      rw [if_pos h6] at hst
      repeat ((conv => whnf); first | refine Cd.seq ?_ | refine Cd.cut ?_ | refine Cd.reg ?_ | refine Cd.block ?_ | refine Cd.cond ?_ | refine Cd.dreg ?_ | refine Cd.skip ?_ | refine Cd.ret ?_ | refine Cd.exit ?_ | refine Cd.loop ?_ | refine ⟨rfl, ?_⟩ | refine ⟨Nat.le_of_ble_eq_true rfl, ?_⟩ | refine ⟨.inl rfl, ?_⟩ | refine ⟨fun h => Bool.noConfusion h, ?_⟩)
      conv => whnf
      refine ⟨(rowsI_len out).symm, ?_, ?_, ?_⟩
      · show (((rowsI out).length + 1 : Nat) : Int) ≤ _
        rw [rowsI_len]; omega
      · show ((rowsI out).length + 1) * 8 ≤ _
        rw [rowsI_len]; omega
      repeat ((conv => whnf); first | refine Cd.seq ?_ | refine Cd.cut ?_ | refine Cd.reg ?_ | refine Cd.block ?_ | refine Cd.cond ?_ | refine Cd.dreg ?_ | refine Cd.skip ?_ | refine Cd.ret ?_ | refine Cd.exit ?_ | refine Cd.loop ?_ | refine ⟨rfl, ?_⟩ | refine ⟨Nat.le_of_ble_eq_true rfl, ?_⟩ | refine ⟨.inl rfl, ?_⟩ | refine ⟨fun h => Bool.noConfusion h, ?_⟩)
      conv => whnf
      rw [hw1]
      refine ⟨(i + 1, out ++ [l[i]]), ⟨by show i + 1 ≤ _; omega, hst.symm⟩, ?_, by show l.length - (i + 1) < l.length - i; omega⟩
      refine viewI [some 0, some 3] rfl rfl ?_ rfl ?_ rfl ?_
      repeat' (first | exact trivial | rfl | exact .inl rfl | exact .inr rfl | exact id | exact (fun h => Bool.noConfusion h) | refine And.intro ?_ ?_)
      · exact rowsI_snoc out _
      · show (rowsI out).length + 1 = _
        rw [rowsI_len, List.length_append]; rfl
    have h6 : ¬ l[i] < e := by simpa using h6
    rw [if_neg h6] at hst
    repeat ((conv => whnf); first | refine Cd.seq ?_ | refine Cd.cut ?_ | refine Cd.reg ?_ | refine Cd.block ?_ | refine Cd.cond ?_ | refine Cd.dreg ?_ | refine Cd.skip ?_ | refine Cd.ret ?_ | refine Cd.exit ?_ | refine Cd.loop ?_ | refine ⟨rfl, ?_⟩ | refine ⟨Nat.le_of_ble_eq_true rfl, ?_⟩ | refine ⟨.inl rfl, ?_⟩ | refine ⟨fun h => Bool.noConfusion h, ?_⟩)
    conv => whnf
    rw [hw1]
    refine ⟨(i + 1, out), ⟨by show i + 1 ≤ _; omega, hst.symm⟩, ?_, by show l.length - (i + 1) < l.length - i; omega⟩
    refine viewI [some 0, some 1] rfl rfl ?_ rfl ?_ rfl ?_
    repeat' (first | exact trivial | rfl | exact .inl rfl | exact .inr rfl | exact id | exact (fun h => Bool.noConfusion h) | refine And.intro ?_ ?_)
  have h5 : i = l.length := by simp at h5; omega
  repeat ((conv => whnf); first | refine Cd.seq ?_ | refine Cd.cut ?_ | refine Cd.reg ?_ | refine Cd.block ?_ | refine Cd.cond ?_ | refine Cd.dreg ?_ | refine Cd.skip ?_ | refine Cd.ret ?_ | refine Cd.exit ?_ | refine Cd.loop ?_ | refine ⟨rfl, ?_⟩ | refine ⟨Nat.le_of_ble_eq_true rfl, ?_⟩ | refine ⟨.inl rfl, ?_⟩ | refine ⟨fun h => Bool.noConfusion h, ?_⟩)
  conv => whnf
  have h7 : out = keptF l e := by rw [hI2, h5, List.take_length]
  rw [← h7] at hk
  subst hk
  refine ⟨[], ?_, rfl, trivial, rfl, ?_⟩
  · exact trivial
  try subst hk
  repeat' (first | exact trivial | rfl | exact .inl rfl | exact .inr rfl | exact id | exact (fun h => Bool.noConfusion h) | refine And.intro ?_ ?_)
  · exact Nat.le_of_eq (by rw [rowsI_len, Nat.zero_add])
  · exact take0 (rowsI_len _)
end Go.Proofs.YteelckbeekgfiaaDoor
