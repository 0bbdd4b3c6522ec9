/- ReclaimCalls returns true for all arguments, and changes none: no condition. -/
import Derived.Test.YtmhapcbjjpadnaaGreatGLc
import Derived.Test.YtmhapcbjjpadnaaGreatQNc
set_option linter.all false
set_option maxHeartbeats 8000000
set_option maxRecDepth 100000
namespace Go.Proofs.YtmhapcbjjpadnaaGreat
open Go Sk RowKit ChangeShapes WideShapes ChangeAt Rows
theorem aA8(os:Os)(z:os.Started)(H:Type)(enc:TypeId×Value->H):
 ReturnsInHanded {} Tryz.checked os 3 .any (reclaimCallsSpec.pre6 enc Tryz.prog Tryz.f3 reclaimCallsRow.domain false) (reclaimCallsSpec.post enc Tryz.prog Tryz.f3 false true false false):=by
 refine returnsInHanded_of_change_sized (C:=Tryz.checked) Tryz.own z (by kernel_rfl) Tryz.func3
  (ChangeSpec.witness6 (enc:=enc) (C:=Tryz.checked) false ⟨#[],#[.slice none 0 0,.int .i64 0],[]⟩ 8 (by kernel_rfl) (by kernel_rfl) (by kernel_rfl) (by kernel_rfl)) ?_
 intro W D B ds gs N m Z _ J _;have f:∀(j:Nat) t v,Tryz.f3.params[j]? =some t->B[j]? =some v->Value.okWide Tryz.prog W .any D t v:=m;have E:=Z;obtain⟨p,q,G,hV,rfl,_,_⟩:=Z;have Y:DataW.TrodAll enc Tryz.prog W 0 (λ_=>true) true Tryz.f3.params.toList B.toList ds p:=G;rw [Tryz.params3] at Y f;obtain⟨v0,v1,d0,d1,p0,p1,rfl,rfl,rfl,T,h1⟩:=trodAll_two Y;obtain⟨rfl,rfl⟩:=trodVars_none hV
 obtain⟨a0,len,cap,rfl⟩:=okWide_slice Tryz.underlying22 (f 0 22 v0 rfl rfl);obtain⟨x,rfl,rfl,rfl,wx⟩:=open_int Tryz.underlying3 (f 1 3 v1 rfl rfl) h1;have R:(DataW.weightsEach Tryz.prog (22:: [3]) (d0:: [_])).all (·<=reachBytes)=true:=J;obtain⟨zs,O⟩:=bAH T R;clear G m;simp only [List.append_nil] at E;have Q:∀x∈p0,x.block<W.heap.size:=λx hx=>by simpa using E.lt x hx
 refine(bEP (ok3 (zs.take len) (by rw [List.length_take];have :=O.small;omega) x) W rfl ?_).mono λe W1 ⟨he,hb⟩=>?_
 ·intro i v c K F
  match i with
  |0=>
   simp at K;have F:Value.slice a0 len cap=c:=by simpa using F
   subst K F;exact bJC (λb h=>h.elim id λ⟨k,o,es,cp,hk,_⟩=>by simp [aI,aD.get] at hk) O.le O.cap O.cell
  |1=>
   simp at K;have F:Value.int .i64 x=c:=by simpa using F
   subst K F;exact .int _ _
  |i+2=>simp at K
 ·subst he;have M:=trodAll_mk2 (Below.trod Tryz.laidOut (by kernel_rfl) (of_decide_eq_true (by kernel_rfl)) T hb Q) (shut_int (enc:=enc) (w:=W1) (base:=0) (spare:=λb=>decide (b<W.heap.size)) (held:=true) Tryz.underlying3 wx);rw [List.append_nil] at M;exact⟨_,rfl,_,_,_,[],p0,[],E,trodAll_mk1 (shut_bool Tryz.underlying4 true),M,rfl,hb.frame _,λh=>by cases h⟩
theorem aAT:joinedFacts Tryz.checked.prog 3 Tryz.f3 reclaimCallsSpec reclaimCallsRow=true:=by
 unfold joinedFacts;simp only [Bool.and_eq_true]
 repeat' apply And.intro
 all_goals(as_aux_lemma=>kernel_rfl)
theorem reclaimCalls_holds:Rows.ReclaimCallsSaid:=
 OpenClaim.holds_of_wide 3 Tryz.f3 rfl rfl rfl rfl rfl rfl rfl ⟨rfl,rfl,rfl,rfl,rfl⟩ rfl rfl rfl rfl rfl (by kernel_rfl) Tryz.func3 aAT
  (of_decide_eq_true (by kernel_rfl)) (by unfold Func.isWrapper;rw [if_neg (by decide +kernel)];exact⟨rfl,rfl⟩)
  (λj e H f _=>aA8 j e H f)
#print axioms reclaimCalls_holds
end Go.Proofs.YtmhapcbjjpadnaaGreat
