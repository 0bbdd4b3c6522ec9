/- LruKeeps returns true for every two lists of numbers, and leaves what it was given as it was: no condition. -/
import Derived.Test.YtcifhjkodbaghaaLaw
import Derived.Test.YtcifhjkodbaghaaL10
set_option linter.unusedSimpArgs false
set_option linter.unusedVariables false
namespace Go.Proofs.Ytcifhjkodbaghaa
open Go Go.Sk Go.RowKit Go.ChangeShapes Go.WideShapes Go.ChangeAt

set_option maxRecDepth 100000 in
theorem lruKeeps_lifted (os : Os) (started : os.Started) (H : Type) (enc : TypeId × Value → H) :
    ReturnsInHanded {} Try.checked os 11 .any (Rows.lruKeepsSpec.pre6 enc Try.prog Try.f11 Rows.lruKeepsRow.domain false) (Rows.lruKeepsSpec.post enc Try.prog Try.f11 false true false false) := by
  refine returnsInHanded_of_change_sized (C := Try.checked) Try.own started (by kernel_rfl) Try.func11
    (ChangeSpec.witness6 (enc := enc) (C := Try.checked) false ⟨#[], #[.slice none 0 0, .slice none 0 0], []⟩ 8 (by kernel_rfl) (by kernel_rfl) (by kernel_rfl) (by kernel_rfl)) ?_
  intro W base args ds gs before hval0 hW _ hsz0 _
  have hval : ∀ (j : Nat) t v, Try.f11.params[j]? = some t → args[j]? = some v → Value.okWide Try.prog W .any base t v := hval0
  have hW' := hW
  obtain ⟨p, q, hA0, hV, rfl, _, _⟩ := hW
  have hA : DataW.TrodAll enc Try.prog W 0 (fun _ => true) true Try.f11.params.toList args.toList ds p := hA0
  rw [Try.params11] at hA hval
  obtain ⟨v0, v1, d0, d1, p0, p1, rfl, rfl, rfl, h0, h1⟩ := trodAll_two hA
  obtain ⟨rfl, rfl⟩ := trodVars_none hV
  obtain ⟨a0, len, cap, rfl⟩ := okWide_slice Try.underlying22 (hval 0 22 v0 rfl rfl)
  obtain ⟨a1, len1, cap1, rfl⟩ := okWide_slice Try.underlying22 (hval 1 22 v1 rfl rfl)
  have hsz : (DataW.weightsEach Try.prog (22 :: [22]) (d0 :: [d1])).all (· ≤ reachBytes) = true := hsz0
  obtain ⟨zs, hz⟩ := open_arg h0 hsz
  obtain ⟨zs1, hz1⟩ := open_arg2 h1 hsz
  clear hA0 hval0
  simp only [List.append_nil] at hW'
  have hlt : ∀ x ∈ p0, x.block < W.heap.size := fun x hx => by have := hW'.lt x (by simp [hx]); simpa using this
  have hlt1 : ∀ x ∈ p1, x.block < W.heap.size := fun x hx => by have := hW'.lt x (by simp [hx]); simpa using this
  refine (run_FnC (ok11 (zs.take len) (zs1.take len1) (by rw [List.length_take]; have := hz.small; omega) (by rw [List.length_take]; have := hz1.small; omega)) W rfl ?_).mono fun e W1 ⟨he, hb⟩ => ?_
  · intro i v c hv hc
    match i with
    | 0 =>
      simp only [List.getElem?_cons_zero, Option.some.injEq] at hv
      have hc : Value.slice a0 len cap = c := by simpa using hc
      subst hv hc
      exact lst_VR (fun b h => h.elim id fun ⟨k, o, es, cp, hk, _⟩ => by simp [mkFrom, Store.get] at hk) hz.le hz.cap hz.cell
    | 1 =>
      simp only [List.getElem?_cons_succ, List.getElem?_cons_zero, Option.some.injEq] at hv
      have hc : Value.slice a1 len1 cap1 = c := by simpa using hc
      subst hv hc
      exact lst_VR (fun b h => h.elim id fun ⟨k, o, es, cp, hk, _⟩ => by simp [mkFrom, Store.get] at hk) hz1.le hz1.cap hz1.cell
    | i + 2 => simp at hv
  · subst he
    have key := trodAll_mk2 (Below.trod Try.laidOut (by kernel_rfl) (of_decide_eq_true (by kernel_rfl)) h0 hb hlt) (Below.trod Try.laidOut (by kernel_rfl) (of_decide_eq_true (by kernel_rfl)) h1 hb hlt1)
    exact ⟨_, rfl, _, _, _, [], (p0 ++ p1), [], hW', trodAll_mk1 (shut_bool Try.underlying4 true), key, rfl, hb.frame _, fun h => by cases h⟩

theorem lruKeeps_holds : Rows.LruKeepsSaid :=
  OpenClaim.holds_of_wide 11 Try.f11 rfl rfl rfl rfl rfl rfl rfl ⟨rfl, rfl, rfl, rfl, rfl⟩ rfl rfl rfl rfl rfl (by kernel_rfl) Try.func11 (by kernel_rfl)
    (of_decide_eq_true (by kernel_rfl)) (by unfold Func.isWrapper; first | (rw [if_pos (by decide +kernel)]; kernel_rfl) | (rw [if_neg (by decide +kernel)]; exact ⟨rfl, rfl⟩))
    (fun os started H enc _ => lruKeeps_lifted os started H enc)
#print axioms lruKeeps_holds
end Go.Proofs.Ytcifhjkodbaghaa
