/- Stream: Sure. -/
import Derived.Test.YteelckbeekgfiaaDoorW2
set_option linter.unusedSimpArgs false
set_option linter.unusedVariables false
namespace Go.Proofs.YteelckbeekgfiaaDoor
open Go Go.Sk Go.RowKit

/- pagecache/stream.Sure -/
def rc21 : RC :=
  (.seq
  (.reg [⟨(some 1), none, (.box (.t 0))⟩,
    ⟨(some 2), none, (.mv (.c (.bool false)))⟩] [])
  (.seq
  (.reg [⟨(some 3), none, (.ld true 6 (.t 1))⟩,
    ⟨(some 4), none, (.call 34 [(.t 3)])⟩,
    ⟨(some 5), none, (.mv (.t 4))⟩,
    ⟨(some 6), (some (5, true)), (.faddr 4 (.t 1))⟩,
    ⟨(some 7), (some (5, true)), (.ld false 1 (.t 6))⟩,
    ⟨(some 8), (some (5, true)), (.bin .geq (.t 7) (.c (.int .i64 2)))⟩,
    ⟨(some 9), none, (.pick (.t 5) (.t 8) (.c (.bool false)))⟩,
    ⟨(some 2), none, (.mv (.t 9))⟩] [3, 4, 5, 6, 7, 8, 9])
  .ret))
theorem rcq21 : resC Go.Proofs.Tryd.prog Go.Proofs.Tryd.f21.ntmps ((Go.Proofs.Tryd.f21.body).getD .skip) = some (strip rc21) := by kernel_rfl
def rv21 : List RV := [(.tmp 2)]
theorem rvq21 : Go.Proofs.Tryd.f21.results.toList.mapM (resRV Go.Proofs.Tryd.prog) = some rv21 := by kernel_rfl


/- pagecache/pagecacheref06.Sure -/
def rc31 : RC :=
  (.seq
  (.reg [⟨(some 1), none, (.box (.t 0))⟩,
    ⟨(some 2), none, (.mv (.c (.bool false)))⟩] [])
  (.seq
  (.reg [⟨(some 3), none, (.ld true 6 (.t 1))⟩,
    ⟨(some 4), none, (.call 29 [(.t 3)])⟩,
    ⟨(some 5), none, (.mv (.t 4))⟩,
    ⟨(some 6), (some (5, true)), (.faddr 4 (.t 1))⟩,
    ⟨(some 7), (some (5, true)), (.ld false 1 (.t 6))⟩,
    ⟨(some 8), (some (5, true)), (.bin .geq (.t 7) (.c (.int .i64 2)))⟩,
    ⟨(some 9), none, (.pick (.t 5) (.t 8) (.c (.bool false)))⟩,
    ⟨(some 2), none, (.mv (.t 9))⟩] [3, 4, 5, 6, 7, 8, 9])
  .ret))
theorem rcq31 : resC Go.Proofs.Tryd.prog Go.Proofs.Tryd.f31.ntmps ((Go.Proofs.Tryd.f31.body).getD .skip) = some (strip rc31) := by kernel_rfl
def rv31 : List RV := [(.tmp 2)]
theorem rvq31 : Go.Proofs.Tryd.f31.results.toList.mapM (resRV Go.Proofs.Tryd.prog) = some rv31 := by kernel_rfl


def sureF (s : Stm) : Bool := rightF s && decide (2 ≤ s.hits)
theorem purS {S : Store} (s : Stm) : ∀ v ∈ [V.agg s.c], purOK S v := by
  intro v hv
  rw [List.mem_singleton] at hv
  subst hv
  intro c hc
  simp only [Stm.c, List.mem_cons, List.not_mem_nil, or_false] at hc
  rcases hc with rfl | rfl | rfl | rfl | rfl | rfl <;> exact trivial
theorem ok21 (s : Stm) : FnC Tryd.prog 21 [] [.agg s.c] (.bool (sureF s)) [] := by
  refine fn_okF (ob0 := []) (rc := rc21) (rvs := rv21) Tryd.func21 rfl rcq21 rvq21 (show 1 ≤ _ by decide) ?_
  repeat ((conv => whnf); first | refine ⟨rfl, ?_⟩ | refine ⟨Nat.le_of_ble_eq_true rfl, ?_⟩)
  conv => whnf
  refine .inl ⟨_, fun _ => ⟨purS s, ok34 s⟩, .inl rfl, ?_⟩
  repeat ((conv => whnf); first | refine ⟨rfl, ?_⟩ | refine ⟨Nat.le_of_ble_eq_true rfl, ?_⟩)
  conv => whnf
  refine ⟨[], trivial, rfl, trivial, rfl, ?_⟩
  conv => whnf
  rw [sureF]
  cases rightF s <;> rfl
theorem ok31 (s : Stm) : FnC Tryd.prog 31 [] [.agg s.c] (.bool (sureF s)) [] := by
  refine fn_okF (ob0 := []) (rc := rc31) (rvs := rv31) Tryd.func31 rfl rcq31 rvq31 (show 1 ≤ _ by decide) ?_
  repeat ((conv => whnf); first | refine ⟨rfl, ?_⟩ | refine ⟨Nat.le_of_ble_eq_true rfl, ?_⟩)
  conv => whnf
  refine .inl ⟨_, fun _ => ⟨purS s, ok29 s⟩, .inl rfl, ?_⟩
  repeat ((conv => whnf); first | refine ⟨rfl, ?_⟩ | refine ⟨Nat.le_of_ble_eq_true rfl, ?_⟩)
  conv => whnf
  refine ⟨[], trivial, rfl, trivial, rfl, ?_⟩
  conv => whnf
  rw [sureF]
  cases rightF s <;> rfl
end Go.Proofs.YteelckbeekgfiaaDoor
