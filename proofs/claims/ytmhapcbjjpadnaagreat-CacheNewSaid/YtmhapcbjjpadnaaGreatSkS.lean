/- Sk, part S: code behind a wall, so that the kernel never looks at what is still to come. -/
import Derived.Test.YtmhapcbjjpadnaaGreatSkL
set_option linter.unusedSimpArgs false
set_option linter.unusedVariables false
set_option linter.unusedSectionVars false
namespace Go.Sk
open Go Go.RowKit
variable [Tab]

structure Cd (P : Program) (n0 : Nat) (rc : RC) (st : St) (K : Ex → St → Prop) : Prop where
  h : codeF P n0 rc st K

/-! What follows a part, named: so that the rest of the code stands in a goal once, not once for each way out. -/
def SeqK (P : Program) (n0 : Nat) (b : RC) (K : Ex → St → Prop) (e : Ex) (st' : St) : Prop :=
  match e with
  | .normal => Cd P n0 b st' K
  | .exit id => K (.exit id) st'
  | .ret => K .ret st'
def CutK {α : Type} (n0 : Nat) (I : α → Prop) (F : α → St) (K : Ex → St → Prop) (e : Ex) (st' : St) : Prop :=
  match e with
  | .normal => ∃ x, I x ∧ View n0 st' (F x)
  | .exit id => K (.exit id) st'
  | .ret => K .ret st'
def BlockK (id : Nat) (K : Ex → St → Prop) (e : Ex) (st' : St) : Prop :=
  match e with
  | .exit j => match Nat.beq j id with
    | true => K .normal st'
    | false => K (.exit j) st'
  | .normal => K .normal st'
  | .ret => K .ret st'
def LoopK {α : Type} (n0 : Nat) (I : α → Prop) (F : α → St) (m : α → Nat) (a : α) (K : Ex → St → Prop) (e : Ex) (st' : St) : Prop :=
  match e with
  | .normal => ∃ a', I a' ∧ View n0 st' (F a') ∧ m a' < m a
  | .exit id => K (.exit id) st'
  | .ret => K .ret st'

section
variable {P : Program} {n0 : Nat} {st : St} {K : Ex → St → Prop}
theorem Cd_eq (rc : RC) (st : St) (K : Ex → St → Prop) : Cd P n0 rc st K = codeF P n0 rc st K := propext ⟨fun h => h.h, fun h => ⟨h⟩⟩

theorem Cd.skip (h : K .normal st) : Cd P n0 .skip st K := ⟨h⟩
theorem Cd.exit {id : Nat} (h : K (.exit id) st) : Cd P n0 (.exit id) st K := ⟨h⟩
theorem Cd.ret (h : K .ret st) : Cd P n0 .ret st K := ⟨h⟩
theorem Cd.reg {l : List Ins} {kill : List Nat} (h : opsF P l st fun | ⟨sl0, so0, nx0⟩ => cleanF kill sl0 fun sl => K .normal ⟨sl, so0, nx0⟩) : Cd P n0 (.reg l kill) st K := ⟨h⟩
theorem Cd.seq {a b : RC} (h : Cd P n0 a st (SeqK P n0 b K)) : Cd P n0 (.seq a b) st K := by
  refine ⟨?_⟩
  have h : Cd P n0 a st fun e st' => match e with
    | .normal => Cd P n0 b st' K
    | .exit id => K (.exit id) st'
    | .ret => K .ret st' := h
  have h := h.h
  simp only [Cd_eq] at h
  exact h
theorem Cd.cut {a b : RC} (h : ∃ (α : Type) (I : α → Prop) (F : α → St), Cd P n0 a st (CutK n0 I F K) ∧ ∀ x, I x → Cd P n0 b (F x) K) : Cd P n0 (.cut a b) st K := by
  refine ⟨?_⟩
  obtain ⟨α, I, F, h1, h2⟩ := h
  exact ⟨α, I, F, h1.h, fun x hx => (h2 x hx).h⟩
theorem Cd.cond {c : A} {a b : RC} (h : match opnd st.sl [] c with
    | .bool x => cq x (Cd P n0 a st K) (Cd P n0 b st K)
    | _ => False) : Cd P n0 (.cond c a b) st K := by
  refine ⟨?_⟩
  simp only [Cd_eq] at h
  exact h
theorem Cd.block {id : Nat} {c : RC} (h : Cd P n0 c st (BlockK id K)) : Cd P n0 (.block id c) st K := ⟨h.h⟩
theorem Cd.loop {c : RC} (h : ∃ (α : Type) (I : α → Prop) (F : α → St) (m : α → Nat), (∃ a, I a ∧ View n0 st (F a)) ∧ ∀ a, I a → Cd P n0 c (F a) (LoopK n0 I F m a K)) : Cd P n0 (.loop c) st K := by
  refine ⟨?_⟩
  obtain ⟨α, I, F, m, h1, h2⟩ := h
  exact ⟨α, I, F, m, h1, fun a ha => (h2 a ha).h⟩

theorem Cd.uloop {c : RC} (h : ∃ n, iterK (Cd P n0 c) K n st) : Cd P n0 (.uloop c) st K := by
  refine ⟨?_⟩
  obtain ⟨n, h⟩ := h
  have e : Cd P n0 c = codeF P n0 c := by funext st K; exact Cd_eq c st K
  rw [e] at h
  exact ⟨n, h⟩

theorem fn_okC {f : FuncId} {fn : Func} {rc : RC} {rvs : List RV} {ob0 ob1 : List Obj} {args : List V} {res : V} (hf : P.funcs[f]? = some fn) (hb0 : fn.body.isSome = true) (hres0 : resC P fn.ntmps (fn.body.getD .skip) = some (strip rc))
    (hrv : fn.results.toList.mapM (resRV P) = some rvs) (hn : args.length ≤ fn.ntmps)
    (hK : forceNat 16 0 ob0.length fun n0 => Cd P n0 rc ⟨initSl 0 args, mkFrom 0 ob0, n0⟩ (retOnly P n0 rvs res ob1)) : FnC P f ob0 args res ob1 :=
  fn_okF hf hb0 hres0 hrv hn (by rw [forceNat_eq] at hK ⊢; exact hK.h)
end
end Go.Sk
