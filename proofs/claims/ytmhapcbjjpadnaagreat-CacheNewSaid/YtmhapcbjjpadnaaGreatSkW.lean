/- Sk, part W: functions that defer one call which does nothing where there is no panic. -/
import Derived.Test.YtmhapcbjjpadnaaGreatSkT
import Derived.Recover
set_option linter.unusedSimpArgs false
set_option linter.unusedVariables false
set_option linter.unusedSectionVars false
namespace Go.Sk
open Go Go.RowKit
variable [Tab]
section
variable {P : Program} {U : Nat → Prop} {N : Nat}

/-- A deferred call that does nothing in a frame that returns. -/
def Quiet (P : Program) (g : FuncId) : Prop := ∀ (args : Array Value) (w : World), CallsD P g args .returning w fun e u' w' => (∃ v, e = .returned v) ∧ u' = .returning ∧ w' = w

theorem fin_sound [Dfr] {n0 : Nat} {σ0 σ' : Sg} {ob0 ob1 : List Obj} {rvs : List RV} {res : V} {fn : Func} {st' : St} {act' : Act} {w w' : World} (hrv : fn.results.toList.mapM (resRV P) = some rvs) (hfresh : ∀ k, ob0.length ≤ k → σ0 k = none)
    (hr' : RelSt U N σ' st' act' w') (g' : Grow σ0 (mkFrom 0 ob0) w ob0.length σ' st'.so w' st'.nx) (hfin : FinK ob0.length rvs res ob1 st') :
    ∃ v, (results fn act'.tmps).run P w' = .ok v w' ∧ (∃ cv σ'', Ending.returned v = .returned cv ∧ RelS U σ'' (mkFrom 0 ob1) w' ob1.length ∧ VR (Own U σ'' (mkFrom 0 ob1)) w' σ'' res cv ∧ Grow σ0 (mkFrom 0 ob0) w ob0.length σ'' (mkFrom 0 ob1) w' ob1.length) := by
  obtain ⟨vs, cvs, ⟨ids, q1, q2', q3', q4', q5⟩, hlen, hvs, hrun⟩ := rvs_sound hr' _ rvs hrv _ hfin
  have q2 := nodupB_S q2'
  have q3 : ∀ j, j < ob0.length → ids[j]? = some (some j) := fun j hj => by have := firstOK_get _ 0 ids q3' j hj; rwa [Nat.zero_add] at this
  have q4 := Nat.le_of_ble_eq_true q4'
  refine ⟨(if h : cvs.toArray.size = 1 then cvs.toArray[0] else .tuple cvs.toArray), ?_, _, sgV σ' ids ob1, rfl, hr'.rel.view q1 q2, ?_, ⟨g'.keep, fun b hb hO => ?_, fun k hk => ?_, q4⟩⟩
  · have he : results fn act'.tmps = (do let vs ← fn.results.mapM (rvSem act'.tmps); pure (if h : vs.size = 1 then vs[0] else .tuple vs)) := by
      unfold results
      congr 1
    rw [he, Sem.run_bind, Array.mapM_eq_mapM_toList]
    simp only [Sem.run_map, hrun, Result.andThen_ok, Sem.run_pure]
  · refine vw3_VR hr'.rel q1 q5 ?_
    match vs, cvs, hlen, hvs with
    | [v], [cv], _, hvs => exact hvs 0 v cv rfl rfl
    | [], [], _, _ => exact .tup rfl (by simp)
    | v1 :: v2 :: vs, c1 :: c2 :: cvs, hlen, hvs =>
      have : ¬ ((c1 :: c2 :: cvs).toArray.size = 1) := by simp
      rw [dif_neg this]
      exact .tup (by simpa using hlen.symm) fun i v c hv hc => hvs i v c hv (by simpa using hc)
  · obtain ⟨j, k, p, es, cap, -, e2, e3⟩ := own_view q1 hO
    exact g'.own b hb ⟨k, p, es, cap, e2, e3⟩
  · rw [← g'.sg k hk]
    simp [sgV, q3 k (Nat.lt_of_not_le fun hle => hk (hfresh k hle))]

/-- The one deferred call of such a function. -/
def dfrOf (P : Program) : Code → Option (Code × Oper × FuncId × Code)
  | .seq a (.seq (.region _ ops false) c) => match ops.toList with
    | [o] => match o.op, o.guard, o.dst with
      | .defer { callee := .value (.func g), .. }, none, none => match P.funcs[g]? with
        | some fn => if fn.body.isSome = true ∧ (fn.name == "runtime.NumGoroutine") = false then some (a, o, g, c) else none
        | none => none
      | _, _, _ => none
    | _ => none
  | _ => none

def dfrK (P : Program) (n0 : Nat) (b : RC) (K : Ex → St → Prop) : Ex → St → Prop
  | .normal, st => codeK P n0 b st K
  | _, _ => False

theorem fn_okD0 {f g : FuncId} {fn : Func} {rca rcb : RC} {rvs : List RV} {ob0 ob1 : List Obj} {args : List V} {res : V} {ca cb : Code} {o : Oper} (hf : P.funcs[f]? = some fn) (hb0 : fn.body.isSome = true) (hd : dfrOf P (fn.body.getD .skip) = some (ca, o, g, cb)) (hq : Quiet P g)
    (ha0 : resC P fn.ntmps ca = some (strip rca)) (hb1 : resC P fn.ntmps cb = some (strip rcb))
    (hrv : fn.results.toList.mapM (resRV P) = some rvs) (hn : args.length ≤ fn.ntmps)
    (hK : codeK P ob0.length rca ⟨initSl 0 args, mkFrom 0 ob0, ob0.length⟩ (dfrK P ob0.length rcb (retOnly P ob0.length rvs res ob1))) : FnC P f ob0 args res ob1 := by
  intro U σ w cargs hR hl ha
  obtain ⟨c, hb⟩ := Option.isSome_iff_exists.1 hb0
  rw [hb, Option.getD_some] at hd
  unfold dfrOf at hd
  split at hd
  · rename_i a0 id ops c0
    split at hd
    · rename_i o' hops
      split at hd
      · rename_i g' xs ts hop hgu hdst
        split at hd
        · rename_i gfn hgf
          split at hd
          · rename_i hgb
            simp only [Option.some.injEq, Prod.mk.injEq] at hd
            obtain ⟨rfl, rfl, rfl, rfl⟩ := hd
            refine calls_of_wp_defers hf hb ?_
            have hz : ∀ k, ob0.length ≤ k → σ k = none := fun k hk => (hR.fresh k hk).2
            refine wp_seq ?_
            have first : a0.wp P (Exit.then ((Code.seq (.region id ops false) c0).wp P (bodyPostD P fn fun e w' => ∃ cv σ', e = .returned cv ∧ RelS U σ' (mkFrom 0 ob1) w' ob1.length ∧ VR (Own U σ' (mkFrom 0 ob1)) w' σ' res cv ∧ Grow σ (mkFrom 0 ob0) w ob0.length σ' (mkFrom 0 ob1) w' ob1.length)) (bodyPostD P fn fun e w' => ∃ cv σ', e = .returned cv ∧ RelS U σ' (mkFrom 0 ob1) w' ob1.length ∧ VR (Own U σ' (mkFrom 0 ob1)) w' σ' res cv ∧ Grow σ (mkFrom 0 ob0) w ob0.length σ' (mkFrom 0 ob1) w' ob1.length)) { tmps := cargs ++ Array.replicate (fn.ntmps - cargs.size) undef, defers := [] } w := by
              letI : Dfr := ⟨[]⟩
              have hrel : RelSt U fn.ntmps σ ⟨initSl 0 args, mkFrom 0 ob0, ob0.length⟩ { tmps := cargs ++ Array.replicate (fn.ntmps - cargs.size) undef, defers := [] } w := by
                refine ⟨hR, by simp; omega, rfl, fun d s hm => ?_⟩
                obtain ⟨i, v, hv, he⟩ := mem_initSl hm
                obtain ⟨rfl, rfl⟩ := Prod.mk.inj he
                obtain ⟨hi, -⟩ := List.getElem?_eq_some_iff.1 hv
                have hc := Array.getElem?_eq_getElem (xs := cargs) (i := i) (by omega)
                unfold SVR
                simp only [Nat.zero_add]
                have : (cargs ++ Array.replicate (fn.ntmps - cargs.size) undef).getD i undef = cargs[i] := by
                  rw [Array.getD_eq_getD_getElem?, Array.getElem?_append_left (by omega), hc]; rfl
                rw [this]
                exact ha i v _ hv hc
              refine code_sound hz rca a0 _ _ σ _ w _ ha0 hrel (fun p hp => by obtain ⟨i, v, -, rfl⟩ := mem_initSl hp; rfl) (Grow.refl _ _ _ _).toB hK fun e st' σ' act' w' hk hr' hc' g'' => ?_
              cases e with
              | exit id => exact hk.elim
              | ret => exact hk.elim
              | normal =>
                have hk : codeK P ob0.length rcb st' (retOnly P ob0.length rvs res ob1) := hk
                show (Code.seq (.region id ops false) c0).wp P _ act' w'
                refine wp_seq (wp_region ?_)
                have hsz : ops.size = 1 := by rw [← Array.length_toList, hops]; rfl
                have hget : ops[0]? = some o' := by rw [← Array.getElem?_toList, hops]; rfl
                rw [hsz]
                show wpOps P ops _ [0] act' w'
                have hw : Region.wanted o' (yielded ops act'.tmps) = true := by unfold Region.wanted; rw [hgu]
                let d : Deferred := { target := .fn (.func g') #[], args := xs.map act'.eval }
                have hrun : (execOp act'.eval o').run P w' = .ok (.defer d) w' := by
                  simp [execOp, hop, resolve, Deferred.ofValue, Act.eval, d]
                have hdf : act'.defers = [] := hr'.df
                simp only [wpOps, hget, hw, if_true]
                left
                unfold Oper.wp
                rw [hrun, Oper.upon_defer]
                have hact : ({ act' with defers := d :: act'.defers } : Act).put o'.dst undef = { act' with defers := [d] } := by
                  rw [hdst, hdf]; rfl
                rw [hact]
                show c0.wp P _ _ w'
                have hr2 : @RelSt _ ⟨[d]⟩ U fn.ntmps σ' st' { act' with defers := [d] } w' := @RelSt.mk _ ⟨[d]⟩ _ _ _ _ _ _ hr'.rel hr'.sz rfl hr'.sl
                refine @code_sound _ P U fn.ntmps ⟨[d]⟩ ob0.length σ (OwnE σ (mkFrom 0 ob0)) w hz rcb c0 st' _ σ' { act' with defers := [d] } w' _ hb1 hr2 hc' g'' hk fun e2 st2 σ2 act2 w2 hk2 hr3 hc2 g3 => ?_
                have leave : FinK ob0.length rvs res ob1 st2 → Leaves P fn act2.tmps (fun e w' => ∃ cv σ', e = .returned cv ∧ RelS U σ' (mkFrom 0 ob1) w' ob1.length ∧ VR (Own U σ' (mkFrom 0 ob1)) w' σ' res cv ∧ Grow σ (mkFrom 0 ob0) w ob0.length σ' (mkFrom 0 ob1) w' ob1.length) act2.defers .returning w2 := by
                  intro hfin
                  have hd2 : act2.defers = [d] := @RelSt.df _ ⟨[d]⟩ _ _ _ _ _ _ hr3
                  rw [hd2]
                  obtain ⟨v, hv, hres⟩ := @fin_sound _ P U fn.ntmps ⟨[d]⟩ ob0.length σ σ2 ob0 ob1 rvs res fn st2 act2 w w2 hrv hz hr3 g3.toG hfin
                  refine leaves_cons (by intro h; cases h) (f := g') (args := xs.map act'.eval) ?_ ?_
                  · have hb' : ¬ gfn.body = none := fun h => by have := hgb.1; rw [h] at this; simp at this
                    have hn' : ¬ gfn.name = "runtime.NumGoroutine" := fun h => by have := hgb.2; rw [h] at this; simp at this
                    simp [invoke, callFunc, hgf, hn', hb']
                  · refine CallsD.mono (hq _ w2) fun e u' w' ⟨⟨v', he⟩, hu, hw'⟩ => ?_
                    subst he hu hw'
                    exact ⟨v, hv, hres⟩
                cases e2 with
                | exit id => exact hk2.elim
                | ret => exact leave hk2
                | normal => exact leave hk2
            exact first
          · cases hd
        · cases hd
      · cases hd
    · cases hd
  · cases hd

/-- What follows the deferred call's statement. -/
def DfrK (P : Program) (n0 : Nat) (b : RC) (K : Ex → St → Prop) (e : Ex) (st : St) : Prop :=
  match e with
  | .normal => Cd P n0 b st K
  | .exit _ => False
  | .ret => False
def resDX (P : Program) (N : Nat) (live : List Nat) (ks : List Ct) (ca cb : Code) : Option (RC × RC) :=
  match resC P N cb with
  | some rb => match optC rb live, resC P N ca with
    | some rb, some ra => match unN (usRC rb) live with
      | some l => match optC ra l, cutsC ks rb with
        | some ra, some rb => some (ra, rb)
        | _, _ => none
      | none => none
    | _, _ => none
  | none => none
theorem resDX_strip {P : Program} {N : Nat} {live : List Nat} {ks : List Ct} {ca cb : Code} {ra rb : RC} (h : resDX P N live ks ca cb = some (ra, rb)) : resC P N ca = some (strip ra) ∧ resC P N cb = some (strip rb) := by
  unfold resDX at h
  repeat' split at h
  all_goals first | (cases h; done) | skip
  rename_i rb0 h1 _ _ rb1 ra0 h2 h3 _ l hl _ _ ra1 rb2 h4 h5
  cases h
  exact ⟨by rw [optC_strip h4, strip_resC ca h3, h3], by rw [cutsC_strip h5, optC_strip h2, strip_resC cb h1, h1]⟩

/-- A FUNCTION THAT DEFERS A QUIET CALL KEEPS ITS CONTRACT. -/
theorem fn_okD (ks : List Ct) {f g : FuncId} {fn : Func} {rca rcb : RC} {rvs : List RV} {ob0 ob1 : List Obj} {args : List V} {res : V} {ca cb : Code} {o : Oper} (hf : P.funcs[f]? = some fn) (hb0 : fn.body.isSome = true) (hd : dfrOf P (fn.body.getD .skip) = some (ca, o, g, cb)) (hq : Quiet P g)
    (hrv : fn.results.toList.mapM (resRV P) = some rvs) (hres : resDX P fn.ntmps (parL args 0 (rvSlots rvs)) ks ca cb = some (rca, rcb)) (hn : Nat.ble args.length fn.ntmps = true)
    (hK : forceNat 16 0 ob0.length fun n0 => Cd P n0 rca ⟨initSl 0 args, mkFrom 0 ob0, n0⟩ (DfrK P n0 rcb (retOnly P n0 rvs res ob1))) : FnC P f ob0 args res ob1 := by
  rw [forceNat_eq] at hK
  obtain ⟨h1, h2⟩ := resDX_strip hres
  refine fn_okD0 hf hb0 hd hq h1 h2 hrv (Nat.le_of_ble_eq_true hn) ?_
  have h := hK.h
  rw [codeF_eq] at h
  have e : DfrK P ob0.length rcb (retOnly P ob0.length rvs res ob1) = dfrK P ob0.length rcb (retOnly P ob0.length rvs res ob1) := by
    funext e st
    cases e with
    | normal => show Cd P _ rcb st _ = codeK P _ rcb st _; rw [Cd_eq, codeF_eq]
    | exit id => rfl
    | ret => rfl
  rw [e] at h
  exact h
end
end Go.Sk
