/- Sk, part V: a function is run on closed values: what comes out is its contract. -/
import Derived.Test.YtmhapcbjjpadnaaGreatSkZ
set_option linter.unusedSimpArgs false
set_option linter.unusedVariables false
set_option linter.unusedSectionVars false
namespace Go.Sk
open Go Go.RowKit
variable [Tab]

/-- What running is given: contracts that are known, a deferred function that is quiet, which calls are lent their objects, how many rounds a loop may make. -/
structure En (P : Program) where
  ext : Bool → FuncId → List Obj → List V → Option (V × List Obj)
  hext : ∀ own f ob0 args v ob1, ext own f ob0 args = some (v, ob1) → FnC P f ob0 args v ob1
  qg : Option FuncId
  hq : ∀ g, qg = some g → Quiet P g
  md : FuncId → Nat → FuncId → Nat
  lf : Nat
  /-- Which of the objects that a function makes are frozen when it ends. -/
  fz : FuncId → List Nat

/-- How a call is run: 1: what it makes stays owned; 3: it is given its objects for good; else: what it makes is frozen. -/
abbrev RunF := Nat → FuncId → List Obj → List V → (V → List Obj → Prop) → Prop
def FnB (P : Program) (md : Nat) (f : FuncId) (ob0 : List Obj) (args : List V) (res : V) (ob1 : List Obj) : Prop :=
  match md with
  | 3 => FnM P f ob0 args res ob1
  | _ => FnC P f ob0 args res ob1
def RunOK (P : Program) (run : RunF) : Prop := ∀ md f ob0 a K, run md f ob0 a K → ∃ res ob1, K res ob1 ∧ FnB P md f ob0 a res ob1

def callX {P : Program} (E : En P) (run : RunF) (caller : FuncId) : Cx := fun d f args S m K =>
  match E.md caller d f with
  | 1 => forceNL (lentL S args) fun L => match lentObs S L L with
    | some ob0 => forceOL ob0 fun ob0 => forceVL (args.map (arg2 L)) fun a => run 1 f ob0 a fun res ob1 => rq (nodupN L && (Nat.ble L.length ob1.length && Nat.ble ob1.length (L.length + 16))) (K (ren3 L m res) (setL S L (ob1.map (renO L m)) m) (m + 16))
    | none => False
  | 2 => forceNL (nm2s args []) fun L => rq (args.all (puB S) && args.all (borIn L)) <| forceVL (args.map (pur S)) fun a => run 0 f [] a fun res ob1 => match ob1 with
    | [] => K res (delL S L) (m + 1)
    | _ :: _ => False
  | 3 => forceNL (lentL S args) fun L => match lentObs S L L with
    | some ob0 => forceOL ob0 fun ob0 => forceVL (args.map (arg2 L)) fun a => run 3 f ob0 a fun res ob1 => rq (nodupN L && Nat.ble ob1.length 16) (K (ren3 [] m res) (setL (delL S L) [] (ob1.map (renO [] m)) m) (m + 16))
    | none => False
  | _ => rq (args.all (puB S)) <| forceVL (args.map (pur S)) fun a => run 0 f [] a fun res ob1 => match ob1 with
    | [] => rq (args.all noBor || solidV res) (K res S m)
    | _ :: _ => False
theorem frzOK_of {S : Store} {L : List Nat} : ∀ {l : List V}, l.all (puB S) = true → l.all (borIn L) = true → frzOK S L l
  | [], _, _ => trivial
  | v :: r, h1, h2 => by
    simp only [List.all_cons, Bool.and_eq_true] at h1 h2
    exact ⟨⟨puB_ok h1.1, h2.1⟩, frzOK_of h1.2 h2.2⟩
theorem callX_ok {P : Program} (E : En P) {run : RunF} (hr : RunOK P run) (caller : FuncId) : CxOK P (callX E run caller) := by
  intro d f args S m K h
  simp only [callX] at h
  split at h
  · simp only [forceNL_eq] at h
    split at h
    · rename_i ob0 hob
      simp only [forceOL_eq, forceVL_eq] at h
      obtain ⟨res, ob1, h1, h2⟩ := hr _ _ _ _ _ h
      simp only [rqb_eq, Bool.and_eq_true] at h1
      obtain ⟨⟨hn, hl1, hl2⟩, hk⟩ := h1
      exact ⟨_, _, _, hk, .inr (.inl ⟨rfl, fun K' hK' => ⟨_, ob0, ob1, res, h2, lentObs_ok hob, hn, hl1, hl2, hK'⟩⟩)⟩
    · exact h.elim
  · simp only [forceNL_eq, rqb_eq, forceVL_eq, Bool.and_eq_true] at h
    obtain ⟨⟨hp, hq⟩, h⟩ := h
    obtain ⟨res, ob1, h1, h2⟩ := hr _ _ _ _ _ h
    cases ob1 with
    | cons o r => exact h1.elim
    | nil => exact ⟨_, _, _, h1, .inr (.inr (.inl ⟨rfl, fun K' hK' => ⟨_, res, h2, frzOK_of hp hq, hK'⟩⟩))⟩
  · simp only [forceNL_eq] at h
    split at h
    · rename_i ob0 hob
      simp only [forceOL_eq, forceVL_eq] at h
      obtain ⟨res, ob1, h1, h2⟩ := hr _ _ _ _ _ h
      simp only [rqb_eq, Bool.and_eq_true] at h1
      obtain ⟨⟨hn, hl⟩, hk⟩ := h1
      exact ⟨_, _, _, hk, .inr (.inr (.inr ⟨rfl, fun K' hK' => ⟨_, ob0, ob1, res, h2, lentObs_ok hob, hn, hl, hK'⟩⟩))⟩
    · exact h.elim
  · simp only [rqb_eq, forceVL_eq] at h
    obtain ⟨hp, h⟩ := h
    obtain ⟨res, ob1, h1, h2⟩ := hr _ _ _ _ _ h
    cases ob1 with
    | cons o r => exact h1.elim
    | nil =>
      dsimp only at h1
      rw [Bool.or_eq_true] at h1
      exact ⟨_, _, _, h1.2, .inl ⟨rfl, rfl, fun K' hK' => ⟨res, fun _ => ⟨fun v hv => puB_ok (List.all_eq_true.1 hp v hv), h2⟩, h1.1, hK'⟩⟩⟩

def retX (n0 : Nat) (own : Bool) (dp : List Nat) (rvs : List RV) (K : V → List Obj → Prop) (e : Ex) (st : St) : Prop :=
  match e with
  | .normal => FinX n0 own dp rvs K st
  | .ret => FinX n0 own dp rvs K st
  | .exit _ => False
theorem retX_ok {P : Program} {n0 : Nat} {own : Bool} {dp : List Nat} {rvs : List RV} {K : V → List Obj → Prop} {e : Ex} {st : St} (h : retX n0 own dp rvs K e st) : ∃ res ob1, K res ob1 ∧ retOnly P n0 rvs res ob1 e st := by
  cases e with
  | normal => exact FinX_ok h
  | ret => exact FinX_ok h
  | exit id => exact h.elim
def seqX (f : St → Prop) (e : Ex) (st : St) : Prop :=
  match e with
  | .normal => f st
  | .exit _ => False
  | .ret => False
def optEq (a b : Option Nat) : Bool :=
  match a, b with
  | some a, some b => Nat.beq a b
  | _, _ => false

def runX {P : Program} (E : En P) : Nat → RunF
  | 0 => fun _ _ _ _ _ => False
  | n + 1 => fun md f ob0 args K => match (match md with | 3 => none | _ => E.ext (Nat.beq md 1) f ob0 args) with
    | some (v, ob1) => forceVL [v] fun l => match l with | v :: _ => forceOL ob1 fun ob1 => K v ob1 | [] => False
    | none => match P.funcs[f]? with
      | some fn => match fn.body, fn.results.toList.mapM (resRV P) with
        | some c, some rvs => rq (Nat.ble args.length fn.ntmps) <| forceNat 16 0 ob0.length fun n0 => match dfrOf P c with
          | some (ca, o, g, cb) => rq (optEq (some g) E.qg && !Nat.beq md 3) <| match resDX P fn.ntmps (rvSlots rvs) [] ca cb with
            | some (ra, rb) => codeX P (callX E (runX E n) f) E.lf ra ⟨initSl 0 args, mkFrom 0 ob0, n0⟩ (seqX fun st => codeX P (callX E (runX E n) f) E.lf rb st (retX n0 (Nat.beq md 1) (E.fz f) rvs K))
            | none => False
          | none => match resX P fn.ntmps (rvSlots rvs) [] c with
            | some rc => match md with
              | 3 => codeX P (callX E (runX E n) f) E.lf rc ⟨initSl 0 args, mkFrom 0 ob0, n0⟩ (retX 0 true (E.fz f) rvs K)
              | _ => codeX P (callX E (runX E n) f) E.lf rc ⟨initSl 0 args, mkFrom 0 ob0, n0⟩ (retX n0 (Nat.beq md 1) (E.fz f) rvs K)
            | none => False
        | _, _ => False
      | none => False
theorem FnB_of {P : Program} {md : Nat} {f : FuncId} {ob0 ob1 : List Obj} {args : List V} {res : V} (hm : md ≠ 3) (h : FnC P f ob0 args res ob1) : FnB P md f ob0 args res ob1 := by
  unfold FnB
  split
  · exact absurd rfl hm
  · exact h
theorem runX_ok {P : Program} (E : En P) : ∀ n, RunOK P (runX E n)
  | 0 => fun _ _ _ _ _ h => h.elim
  | n + 1 => by
    intro md f ob0 args K h
    have hcx := callX_ok E (runX_ok E n) f
    simp only [runX] at h
    split at h
    · rename_i v ob1 he
      simp only [forceVL_eq, forceOL_eq] at h
      split at he
      · cases he
      · rename_i hm
        exact ⟨v, ob1, h, FnB_of (fun e => hm e) (E.hext _ _ _ _ _ _ he)⟩
    · split at h
      · rename_i fn hf
        split at h
        · rename_i c rvs hb hrv
          rw [rqb_eq, forceNat_eq] at h
          obtain ⟨hn, h⟩ := h
          have hb0 : fn.body.isSome = true := by rw [hb]; rfl
          have hg : fn.body.getD .skip = c := by rw [hb]; rfl
          split at h
          · rename_i ca o g cb hd
            rw [rqb_eq, Bool.and_eq_true] at h
            obtain ⟨⟨hq, hm⟩, h⟩ := h
            have hm : md ≠ 3 := fun e => by subst e; cases hm
            have hq : E.qg = some g := by
              cases hE : E.qg with
              | none => rw [hE] at hq; cases hq
              | some g' => rw [hE] at hq; rw [Nat.eq_of_beq_eq_true (show Nat.beq g g' = true from hq)]
            split at h
            · rename_i ra rb hres
              obtain ⟨s1, s2⟩ := resDX_strip hres
              obtain ⟨e, st', h1, h2⟩ := codeX_det hcx E.lf ob0.length ra _ _ h
              cases e with
              | exit id => exact h1.elim
              | ret => exact h1.elim
              | normal =>
                obtain ⟨e2, st2, h3, h4⟩ := codeX_det hcx E.lf ob0.length rb _ _ h1
                obtain ⟨res, ob1, h5, h6⟩ := retX_ok (P := P) h3
                exact ⟨res, ob1, h5, FnB_of hm (fn_okD0 hf hb0 (by rw [hg]; exact hd) (E.hq g hq) (by rw [ul_strip]; exact s1) (by rw [ul_strip]; exact s2) hrv (Nat.le_of_ble_eq_true hn) (h2 _ (h4 _ h6)))⟩
            · exact h.elim
          · split at h
            · rename_i rc hres
              split at h
              · obtain ⟨e, st', h1, h2⟩ := codeX_det hcx E.lf 0 rc _ _ h
                obtain ⟨res, ob1, h5, h6⟩ := retX_ok (P := P) h1
                exact ⟨res, ob1, h5, fn_okM hf hb0 (by rw [ul_strip, hg]; exact resX_strip hres) hrv (Nat.le_of_ble_eq_true hn) (h2 _ h6)⟩
              · rename_i hm
                obtain ⟨e, st', h1, h2⟩ := codeX_det hcx E.lf ob0.length rc _ _ h
                obtain ⟨res, ob1, h5, h6⟩ := retX_ok (P := P) h1
                exact ⟨res, ob1, h5, FnB_of (fun e => hm e) (fn_ok hf hb0 (by rw [ul_strip, hg]; exact resX_strip hres) hrv (Nat.le_of_ble_eq_true hn) (h2 _ h6))⟩
            · exact h.elim
        · exact h.elim
      · exact h.elim
def isTrue (v : V) (obs : List Obj) : Prop :=
  match v, obs with
  | .bool true, [] => True
  | _, _ => False
/-- A closed call that is seen to answer 'true' by running it. -/
theorem run_true {P : Program} (E : En P) (n : Nat) {f : FuncId} {args : List V} (h : runX E n 0 f [] args isTrue = True) : FnC P f [] args (.bool true) [] := by
  have h : runX E n 0 f [] args isTrue := by rw [h]; trivial
  obtain ⟨res, ob1, h1, h2⟩ := runX_ok E n _ _ _ _ _ h
  unfold isTrue at h1
  split at h1
  · exact h2
  · exact h1.elim
/-- A closed call, its answer computed. -/
theorem run_is {P : Program} (E : En P) (n : Nat) {md : Nat} {f : FuncId} {ob0 ob1 : List Obj} {args : List V} {v : V} (h : runX E n md f ob0 args (fun a b => a = v ∧ b = ob1)) : FnB P md f ob0 args v ob1 := by
  obtain ⟨res, ob1', ⟨rfl, rfl⟩, h2⟩ := runX_ok E n _ _ _ _ _ h
  exact h2
def isEq (u v : V) (obs : List Obj) : Prop :=
  match obs with
  | [] => match eqV 12 u v with
    | true => True
    | false => False
  | _ :: _ => False
/-- The same, with its answer seen to be what is said. -/
theorem run_eq {P : Program} (E : En P) (n : Nat) {f : FuncId} {args : List V} {v : V} (h : runX E n 0 f [] args (isEq v) = True) : FnC P f [] args v [] := by
  have h : runX E n 0 f [] args (isEq v) := by rw [h]; trivial
  obtain ⟨res, ob1, h1, h2⟩ := runX_ok E n _ _ _ _ _ h
  unfold isEq at h1
  split at h1
  · split at h1
    · rename_i he
      rw [eqV_ok 12 _ _ he]
      exact h2
    · exact h1.elim
  · exact h1.elim
end Go.Sk
