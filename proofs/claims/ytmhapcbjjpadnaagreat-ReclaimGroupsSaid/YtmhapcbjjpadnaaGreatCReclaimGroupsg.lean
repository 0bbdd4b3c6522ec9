/- ReclaimGroups returns true for every list of numbers and every number, and leaves what it was given as it was: no condition. -/
import Derived.Test.YtmhapcbjjpadnaaGreatGLg
import Derived.Test.YtmhapcbjjpadnaaGreatQOg
set_option linter.all false
set_option maxHeartbeats 8000000
set_option maxRecDepth 100000
open List renaming getElem?_cons_zero→zA
namespace Go.Proofs.YtmhapcbjjpadnaaGreat
open Go Go.Sk Go.RowKit Go.ChangeShapes Go.WideShapes Go.ChangeAt
theorem uD(os:Os)(z:os.Started)(H:Type)(enc:TypeId×Value->H):
 ReturnsInHanded {} Tryz.checked os 4 .any (Rows.reclaimGroupsSpec.pre6 enc Tryz.prog Tryz.f4 Rows.reclaimGroupsRow.domain false) (Rows.reclaimGroupsSpec.post enc Tryz.prog Tryz.f4 false true false false):=by
 refine returnsInHanded_of_change_sized (C:=Tryz.checked) Tryz.own z (by kernel_rfl) Tryz.func4
  (ChangeSpec.witness6 (enc:=enc) (C:=Tryz.checked) false ⟨#[],#[.slice none 0 0,.int .i64 0],[]⟩ 8 (by kernel_rfl) (by kernel_rfl) (by kernel_rfl) (by kernel_rfl)) ?_
 intro W D B ds gs M m Y _ G _;have f:∀(j:Nat) t v,Tryz.f4.params[j]? =some t->B[j]? =some v->Value.okWide Tryz.prog W .any D t v:=m;have E:=Y;obtain⟨p,q,F,hV,rfl,_,_⟩:=Y;have T:DataW.TrodAll enc Tryz.prog W 0 (λ_=>true) true Tryz.f4.params.toList B.toList ds p:=F;rw [Tryz.params4] at T f;obtain⟨v0,v1,d0,d1,p0,p1,rfl,rfl,rfl,R,h1⟩:=trodAll_two T;obtain⟨rfl,rfl⟩:=trodVars_none hV
 obtain⟨a0,len,cap,rfl⟩:=okWide_slice Tryz.underlying22 (f 0 22 v0 rfl rfl);obtain⟨x,rfl,rfl,rfl,wx⟩:=open_int Tryz.underlying3 (f 1 3 v1 rfl rfl) h1;have Q:(DataW.weightsEach Tryz.prog (22:: [3]) (d0:: [_])).all (·<=reachBytes)=true:=G;obtain⟨zs,N⟩:=aZQ R Q;clear F m;simp only [List.append_nil] at E;have O:∀x∈p0,x.block<W.heap.size:=λx hx=>by simpa using E.lt x hx
 refine(bEC (ok4 (zs.take len) (by rw [List.length_take];have :=N.small;omega) x) W rfl ?_).mono λe W1 ⟨he,Z⟩=>?_
 ·intro i v c J hc
  match i with
  |0=>
   simp only [zA,zse] at J;have hc:Value.slice a0 len cap=c:=by simpa using hc
   subst J hc;exact bIO (λb h=>h.elim id λ⟨k,o,es,cp,hk,_⟩=>by simp [aH,aD.get] at hk) N.le N.cap N.cell
  |1=>
   simp only [List.getElem?_cons_succ,zA,zse] at J;have hc:Value.int .i64 x=c:=by simpa using hc
   subst J hc;exact .int _ _
  |i+2=>simp at J
 ·subst he;have K:=trodAll_mk2 (Below.trod Tryz.laidOut (by kernel_rfl) (of_decide_eq_true (by kernel_rfl)) R Z O) (shut_int (enc:=enc) (w:=W1) (base:=0) (spare:=λb=>decide (b<W.heap.size)) (held:=true) Tryz.underlying3 wx);rw [List.append_nil] at K;exact⟨_,rfl,_,_,_,[],p0,[],E,trodAll_mk1 (shut_bool Tryz.underlying4 true),K,rfl,Z.frame _,λh=>by cases h⟩
theorem vP:joinedFacts Tryz.checked.prog 4 Tryz.f4 Rows.reclaimGroupsSpec Rows.reclaimGroupsRow=true:=by
 unfold joinedFacts;simp only [Bool.and_eq_true]
 repeat' apply And.intro
 all_goals(as_aux_lemma=>kernel_rfl)
theorem reclaimGroups_holds:Rows.ReclaimGroupsSaid:=
 OpenClaim.holds_of_wide 4 Tryz.f4 rfl rfl rfl rfl rfl rfl rfl ⟨rfl,rfl,rfl,rfl,rfl⟩ rfl rfl rfl rfl rfl (by kernel_rfl) Tryz.func4 vP
  (of_decide_eq_true (by kernel_rfl)) (by unfold Func.isWrapper;first | (rw [if_pos (by decide +kernel)];kernel_rfl)| (rw [if_neg (by decide +kernel)];exact⟨rfl,rfl⟩))
  (λj e H f _=>uD j e H f)
#print axioms reclaimGroups_holds
end Go.Proofs.YtmhapcbjjpadnaaGreat
