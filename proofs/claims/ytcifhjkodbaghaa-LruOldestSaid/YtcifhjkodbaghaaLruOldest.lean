/- LruOldest returns true for every list of numbers and every number, and leaves what it was given as it was: no condition. -/
import Derived.Test.YtcifhjkodbaghaaLaw
import Derived.Test.YtcifhjkodbaghaaL11
set_option linter.unusedSimpArgs false
set_option linter.unusedVariables false
namespace Go.Proofs.Ytcifhjkodbaghaa
open Go Go.Sk Go.RowKit Go.ChangeShapes Go.WideShapes Go.ChangeAt

set_option maxRecDepth 100000 in
theorem lruOldest_lifted (os : Os) (started : os.Started) (H : Type) (enc : TypeId × Value → H) :
    ReturnsInHanded {} Try.checked os 13 .any (Rows.lruOldestSpec.pre6 enc Try.prog Try.f13 Rows.lruOldestRow.domain false) (Rows.lruOldestSpec.post enc Try.prog Try.f13 false true false false) := by
  refine returnsInHanded_of_change_sized (C := Try.checked) Try.own started (by kernel_rfl) Try.func13
    (ChangeSpec.witness6 (enc := enc) (C := Try.checked) false ⟨#[], #[.slice none 0 0, .int .i64 0], []⟩ 8 (by kernel_rfl) (by kernel_rfl) (by kernel_rfl) (by kernel_rfl)) ?_
  intro W base args ds gs before hval0 hW _ hsz0 _
  have hval : ∀ (j : Nat) t v, Try.f13.params[j]? = some t → args[j]? = some v → Value.okWide Try.prog W .any base t v := hval0
  have hW' := hW
  obtain ⟨p, q, hA0, hV, rfl, _, _⟩ := hW
  have hA : DataW.TrodAll enc Try.prog W 0 (fun _ => true) true Try.f13.params.toList args.toList ds p := hA0
  rw [Try.params13] at hA hval
  obtain ⟨v0, v1, d0, d1, p0, p1, rfl, rfl, rfl, h0, h1⟩ := trodAll_two hA
  obtain ⟨rfl, rfl⟩ := trodVars_none hV
  obtain ⟨a0, len, cap, rfl⟩ := okWide_slice Try.underlying22 (hval 0 22 v0 rfl rfl)
  obtain ⟨x, rfl, rfl, rfl, wx⟩ := open_int Try.underlying3 (hval 1 3 v1 rfl rfl) h1
  have hsz : (DataW.weightsEach Try.prog (22 :: [3]) (d0 :: [_])).all (· ≤ reachBytes) = true := hsz0
  obtain ⟨zs, hz⟩ := open_arg h0 hsz
  clear hA0 hval0
  simp only [List.append_nil] at hW'
  have hlt : ∀ x ∈ p0, x.block < W.heap.size := fun x hx => by simpa using hW'.lt x hx
  refine (run_FnC (ok13 (zs.take len) x (by rw [List.length_take]; have := hz.small; omega)) W rfl ?_).mono fun e W1 ⟨he, hb⟩ => ?_
  · intro i v c hv hc
    match i with
    | 0 =>
      simp only [List.getElem?_cons_zero, Option.some.injEq] at hv
      have hc : Value.slice a0 len cap = c := by simpa using hc
      subst hv hc
      exact lst_VR (fun b h => h.elim id fun ⟨k, o, es, cp, hk, _⟩ => by simp [mkFrom, Store.get] at hk) hz.le hz.cap hz.cell
    | 1 =>
      simp only [List.getElem?_cons_succ, List.getElem?_cons_zero, Option.some.injEq] at hv
      have hc : Value.int .i64 x = c := by simpa using hc
      subst hv hc
      exact .int _ _
    | i + 2 => simp at hv
  · subst he
    have key := trodAll_mk2 (Below.trod Try.laidOut (by kernel_rfl) (of_decide_eq_true (by kernel_rfl)) h0 hb hlt) (shut_int (enc := enc) (w := W1) (base := 0) (spare := fun b => decide (b < W.heap.size)) (held := true) Try.underlying3 wx)
    rw [List.append_nil] at key
    exact ⟨_, rfl, _, _, _, [], p0, [], hW', trodAll_mk1 (shut_bool Try.underlying4 true), key, rfl, hb.frame _, fun h => by cases h⟩

theorem lruOldest_holds : Rows.LruOldestSaid :=
  OpenClaim.holds_of_wide 13 Try.f13 rfl rfl rfl rfl rfl rfl rfl ⟨rfl, rfl, rfl, rfl, rfl⟩ rfl rfl rfl rfl rfl (by kernel_rfl) Try.func13 (by kernel_rfl)
    (of_decide_eq_true (by kernel_rfl)) (by unfold Func.isWrapper; first | (rw [if_pos (by decide +kernel)]; kernel_rfl) | (rw [if_neg (by decide +kernel)]; exact ⟨rfl, rfl⟩))
    (fun os started H enc _ => lruOldest_lifted os started H enc)
#print axioms lruOldest_holds
end Go.Proofs.Ytcifhjkodbaghaa
