/- Sk, part L: the same evaluator, with every state written out before it goes on (so that it is cheap to run). -/
import Derived.Test.YtmhapcbjjpadnaaGreatSkU
set_option linter.unusedSimpArgs false
set_option linter.unusedVariables false
set_option linter.unusedSectionVars false
namespace Go.Sk
open Go Go.RowKit
variable [Tab]

def cleanF (kill : List Nat) : Slots → (Slots → Prop) → Prop
  | [], K => K []
  | (d, ⟨[], gc, v⟩) :: r, K => match hasN d kill with
    | true => cleanF kill r K
    | false => cleanF kill r fun r' => K ((d, ⟨[], gc, v⟩) :: r')
  | (_, ⟨_ :: _, _, _⟩) :: r, K => cleanF kill r K
theorem cleanF_eq (kill : List Nat) : ∀ (l : Slots) (K : Slots → Prop), cleanF kill l K = K (clean kill l)
  | [], _ => rfl
  | (d, ⟨[], gc, v⟩) :: r, K => by
    simp only [cleanF, clean]
    cases h : hasN d kill with
    | true => simpa using cleanF_eq kill r K
    | false => simpa using cleanF_eq kill r _
  | (_, ⟨_ :: _, _, _⟩) :: r, K => by simp only [cleanF, clean]; exact cleanF_eq kill r K

def opsF (P : Program) : List Ins → St → (St → Prop) → Prop
  | [], st, K => K st
  | ⟨d, g, i⟩ :: r, ⟨ssl, sso, snx⟩, K => guardF ssl g fun ch gc => insF P ssl sso snx ch gc i fun v S n => forceV v fun v => forceSt S fun S => forceNat 64 0 n fun n => putSF ssl d ⟨ch, gc, v⟩ fun sl => opsF P r ⟨sl, S, n⟩ K
theorem opsF_eq (P : Program) : ∀ (l : List Ins) (st : St) (K : St → Prop), opsF P l st K = opsK P l st K
  | [], _, _ => rfl
  | ⟨d, g, i⟩ :: r, st, K => by
    simp only [opsF, opsK, guardF_eq, insF_eq, forceV_eq, forceSt_eq, forceNat_eq, putSF_eq, opsF_eq P r]
    cases guardOf st.sl g <;> rfl

/-- A branch: a closed one is passed by computing. -/
def cq (x : Bool) (A B : Prop) : Prop :=
  match x with
  | true => A
  | false => B
theorem cq_eq {x : Bool} {A B : Prop} : cq x A B = ((x = true → A) ∧ (x = false → B)) := by cases x <;> simp [cq]
theorem cq_intro {x : Bool} {A B : Prop} (h : x = true → A) (k : x = false → B) : cq x A B := by rw [cq_eq]; exact ⟨h, k⟩

def codeF (P : Program) (n0 : Nat) : RC → St → (Ex → St → Prop) → Prop
  | .skip, st, K => K .normal st
  | .reg l kill, st, K => opsF P l st fun | ⟨sl0, so0, nx0⟩ => cleanF kill sl0 fun sl => K .normal ⟨sl, so0, nx0⟩
  | .dreg b0 n l kill an ms, st, K => match Nat.ble st.nx b0 with
    | true => dopsK P l ms ⟨st.sl, st.so, n⟩ fun | recs, ⟨sl0, so0, nx0⟩ => commB recs an 0 = true ∧ cleanF kill (look sl0 (keysS sl0)) fun sl => K .normal ⟨sl, so0, nx0⟩
    | false => dopsK P l (shM st.nx ms) ⟨st.sl, st.so, n + st.nx⟩ fun | recs, ⟨sl0, so0, nx0⟩ => commB recs an 0 = true ∧ cleanF kill (look sl0 (keysS sl0)) fun sl => K .normal ⟨sl, so0, nx0⟩
  | .seq a b, st, K => codeF P n0 a st fun e st' => match e with
    | .normal => codeF P n0 b st' K
    | .exit id => K (.exit id) st'
    | .ret => K .ret st'
  | .regc a b kill, st, K => ∃ (α : Type) (I : α → Prop) (F : α → St), (opsF P a st fun st' => ∃ x, I x ∧ View n0 st' (F x)) ∧ ∀ x, I x → opsF P b (F x) fun | ⟨sl0, so0, nx0⟩ => cleanF kill sl0 fun sl => K .normal ⟨sl, so0, nx0⟩
  | .regv a d b kill, st, K => ∃ (α : Type) (I : α → Prop) (F : α → St), (opsF P a st fun st' => revK st' d fun st'' => ∃ x, I x ∧ View n0 st'' (F x)) ∧ ∀ x, I x → opsF P b (F x) fun | ⟨sl0, so0, nx0⟩ => cleanF kill sl0 fun sl => K .normal ⟨sl, so0, nx0⟩
  | .cut a b, st, K => ∃ (α : Type) (I : α → Prop) (F : α → St), (codeF P n0 a st fun e st' => match e with
    | .normal => ∃ x, I x ∧ View n0 st' (F x)
    | .exit id => K (.exit id) st'
    | .ret => K .ret st') ∧ ∀ x, I x → codeF P n0 b (F x) K
  | .cond c a b, st, K => match opnd st.sl [] c with
    | .bool x => cq x (codeF P n0 a st K) (codeF P n0 b st K)
    | _ => False
  | .block id c, st, K => codeF P n0 c st fun e st' => match e with
    | .exit j => match Nat.beq j id with
      | true => K .normal st'
      | false => K (.exit j) st'
    | .normal => K .normal st'
    | .ret => K .ret st'
  | .loop c, st, K => ∃ (α : Type) (I : α → Prop) (F : α → St) (m : α → Nat), (∃ a, I a ∧ View n0 st (F a)) ∧ ∀ a, I a → codeF P n0 c (F a) fun e st' => match e with
    | .normal => ∃ a', I a' ∧ View n0 st' (F a') ∧ m a' < m a
    | .exit id => K (.exit id) st'
    | .ret => K .ret st'
  | .uloop c, st, K => ∃ n, iterK (codeF P n0 c) K n st
  | .exit id, st, K => K (.exit id) st
  | .ret, st, K => K .ret st
  | .bad, _, _ => False

theorem codeF_eq (P : Program) (n0 : Nat) : ∀ (rc : RC) (st : St) (K : Ex → St → Prop), codeF P n0 rc st K = codeK P n0 rc st K := by
  intro rc
  induction rc with
  | skip => intro st K; rfl
  | reg l kill => intro st K; simp only [codeF, codeK, opsF_eq, cleanF_eq]
  | dreg b0 n l kill an ms => intro st K; simp only [codeF, codeK, cleanF_eq]; cases Nat.ble st.nx b0 <;> rfl
  | seq a b iha ihb =>
    intro st K
    simp only [codeF, codeK, iha]
    congr 1
    funext e st'
    cases e <;> simp only [ihb]
  | regc a b kill => intro st K; simp only [codeF, codeK, opsF_eq, cleanF_eq]
  | regv a d b kill => intro st K; simp only [codeF, codeK, opsF_eq, cleanF_eq]
  | cut a b iha ihb =>
    intro st K
    simp only [codeF, codeK, iha, ihb]
    rfl
  | cond c a b iha ihb =>
    intro st K
    simp only [codeF, codeK, iha, ihb, cq_eq]
    rfl
  | uloop c ih =>
    intro st K
    have e : codeF P n0 c = codeK P n0 c := by funext st K; exact ih st K
    simp only [codeF, codeK, e]
  | block id c ih =>
    intro st K
    simp only [codeF, codeK, ih]
    congr 1
    funext e st'
    cases e with
    | exit j =>
      simp only
      cases h : Nat.beq j id with
      | true => rw [if_pos (Nat.eq_of_beq_eq_true h)]
      | false => rw [if_neg (Nat.ne_of_beq_eq_false h)]
    | _ => rfl
  | loop c ih =>
    intro st K
    simp only [codeF, codeK, ih]
    rfl
  | exit id => intro st K; rfl
  | ret => intro st K; rfl
  | bad => intro st K; rfl

theorem fn_okF {P : Program} {f : FuncId} {fn : Func} {rc : RC} {rvs : List RV} {ob0 ob1 : List Obj} {args : List V} {res : V} (hf : P.funcs[f]? = some fn) (hb0 : fn.body.isSome = true) (hres0 : resC P fn.ntmps (fn.body.getD .skip) = some (strip rc))
    (hrv : fn.results.toList.mapM (resRV P) = some rvs) (hn : args.length ≤ fn.ntmps)
    (hK : forceNat 16 0 ob0.length fun n0 => codeF P n0 rc ⟨initSl 0 args, mkFrom 0 ob0, n0⟩ (retOnly P n0 rvs res ob1)) : FnC P f ob0 args res ob1 :=
  fn_ok hf hb0 hres0 hrv hn (by rw [forceNat_eq] at hK; rw [← codeF_eq]; exact hK)
end Go.Sk
