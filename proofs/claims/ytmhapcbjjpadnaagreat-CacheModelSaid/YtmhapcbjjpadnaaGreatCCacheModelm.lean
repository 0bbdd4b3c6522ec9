/- CacheModel returns true for every list of numbers: no condition. -/
import Derived.Test.YtmhapcbjjpadnaaGreatGLm
import Derived.Test.YtmhapcbjjpadnaaGreatODm
set_option linter.unusedSimpArgs false
set_option linter.unusedVariables false
set_option linter.constructorNameAsVariable false
set_option maxRecDepth 40000
namespace Go.Proofs.YtmhapcbjjpadnaaGreat
open Go Go.Sk Go.RowKit Go.ChangeShapes Go.WideShapes Go.ChangeAt
set_option maxRecDepth 100000 in
theorem tQ(os:Os)(started:os.Started)(H:Type)(enc:TypeId×Value→H):
 ReturnsInHanded {} Tryz.checked os 12 .any (Rows.cacheModelSpec.pre6 enc Tryz.prog Tryz.f12 Rows.cacheModelRow.domain false) (Rows.cacheModelSpec.post enc Tryz.prog Tryz.f12 false true false false):=by
 refine returnsInHanded_of_change_sized (C:=Tryz.checked) Tryz.own started (by kernel_rfl) Tryz.func12
  (ChangeSpec.witness6 (enc:=enc) (C:=Tryz.checked) false ⟨#[],#[.slice none 0 0],[]⟩ 8 (by kernel_rfl) (by kernel_rfl) (by kernel_rfl) (by kernel_rfl)) ?_
 intro W base args ds gs before hval0 hW _ hsz0 _
 have hval:∀(j:Nat) t v,Tryz.f12.params[j]? =some t→args[j]? =some v→Value.okWide Tryz.prog W .any base t v:=hval0
 have hW':=hW
 obtain⟨p,q,hA0,hV,rfl,_,_⟩:=hW
 have hA:DataW.TrodAll enc Tryz.prog W 0 (fun _=>true) true Tryz.f12.params.toList args.toList ds p:=hA0
 rw [Tryz.params12] at hA hval
 obtain⟨v0,d0,rfl,rfl,h0⟩:=trodAll_one hA
 obtain⟨rfl,rfl⟩:=trodVars_none hV
 obtain⟨a0,len,cap,rfl⟩:=okWide_slice Tryz.underlying22 (hval 0 22 v0 rfl rfl)
 have hsz:(DataW.weightsEach Tryz.prog (22:: []) (d0:: [])).all (·≤reachBytes)=true:=hsz0
 obtain⟨zs,hz⟩:=aTS h0 hsz
 clear hA0 hval0
 simp only [List.append_nil] at hW'
 have hlt:∀x∈p,x.block<W.heap.size:=fun x hx=>by simpa using hW'.lt x hx
 refine(aY8 (bIZ (zs.take len) (by rw [List.length_take];have :=hz.small;omega)) W rfl ?_).mono fun e W1 ⟨he,hb⟩=>?_
 ·intro i v c hv hc
  match i with
  |0=>
   simp only [List.getElem?_cons_zero,Option.some.injEq] at hv
   have hc:Value.slice a0 len cap=c:=by simpa using hc
   subst hv hc
   exact bBY (fun b h=>h.elim id fun⟨k,o,es,cp,hk,_⟩=>by simp [aL,aC.get] at hk) hz.le hz.cap hz.cell
  |i+1=>simp at hv
 ·subst he
  exact⟨_,rfl,_,_,_,[],p,[],hW',trodAll_mk1 (shut_bool Tryz.underlying4 true),trodAll_mk1 (Below.trod Tryz.laidOut (by kernel_rfl) (of_decide_eq_true (by kernel_rfl)) h0 hb hlt),rfl,hb.frame _,fun h=>by cases h⟩
set_option maxRecDepth 100000 in
set_option maxHeartbeats 8000000 in
theorem vH:joinedFacts Tryz.checked.prog 12 Tryz.f12 Rows.cacheModelSpec Rows.cacheModelRow=true:=by
 unfold joinedFacts
 simp only [Bool.and_eq_true]
 repeat' apply And.intro
 all_goals(as_aux_lemma=>kernel_rfl)
theorem cacheModel_holds:Rows.CacheModelSaid:=
 OpenClaim.holds_of_wide 12 Tryz.f12 rfl rfl rfl rfl rfl rfl rfl ⟨rfl,rfl,rfl,rfl,rfl⟩ rfl rfl rfl rfl rfl (by kernel_rfl) Tryz.func12 vH
  (of_decide_eq_true (by kernel_rfl)) (by unfold Func.isWrapper;first | (rw [if_pos (by decide +kernel)];kernel_rfl)| (rw [if_neg (by decide +kernel)];exact⟨rfl,rfl⟩))
  (fun os started H enc _=>tQ os started H enc)
#print axioms cacheModel_holds
end Go.Proofs.YtmhapcbjjpadnaaGreat
