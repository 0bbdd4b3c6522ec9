/- ReclaimOldest returns true for every list of numbers and every number, and leaves what it was given as it was: no condition. -/
import Derived.Test.YtmhapcbjjpadnaaGreatGLo
import Derived.Test.YtmhapcbjjpadnaaGreatQRo
set_option linter.all false
set_option maxHeartbeats 8000000
set_option maxRecDepth 100000
open List renaming getElem?_cons_zero→zA
namespace Go.Proofs.YtmhapcbjjpadnaaGreat
open Go Go.Sk Go.RowKit Go.ChangeShapes Go.WideShapes Go.ChangeAt
theorem tH(os:Os)(z:os.Started)(H:Type)(enc:TypeId×Value->H):
 ReturnsInHanded {} Tryz.checked os 5 .any (Rows.reclaimOldestSpec.pre6 enc Tryz.prog Tryz.f5 Rows.reclaimOldestRow.domain false) (Rows.reclaimOldestSpec.post enc Tryz.prog Tryz.f5 false true false false):=by
 refine returnsInHanded_of_change_sized (C:=Tryz.checked) Tryz.own z (by kernel_rfl) Tryz.func5
  (ChangeSpec.witness6 (enc:=enc) (C:=Tryz.checked) false ⟨#[],#[.slice none 0 0,.int .i64 0],[]⟩ 8 (by kernel_rfl) (by kernel_rfl) (by kernel_rfl) (by kernel_rfl)) ?_
 intro W D B ds gs N m Z _ J _;have f:∀(j:Nat) t v,Tryz.f5.params[j]? =some t->B[j]? =some v->Value.okWide Tryz.prog W .any D t v:=m;have E:=Z;obtain⟨p,q,G,hV,rfl,_,_⟩:=Z;have Y:DataW.TrodAll enc Tryz.prog W 0 (λ_=>true) true Tryz.f5.params.toList B.toList ds p:=G;rw [Tryz.params5] at Y f;obtain⟨v0,v1,d0,d1,p0,p1,rfl,rfl,rfl,T,h1⟩:=trodAll_two Y;obtain⟨rfl,rfl⟩:=trodVars_none hV
 obtain⟨a0,len,cap,rfl⟩:=okWide_slice Tryz.underlying22 (f 0 22 v0 rfl rfl);obtain⟨x,rfl,rfl,rfl,wx⟩:=open_int Tryz.underlying3 (f 1 3 v1 rfl rfl) h1;have R:(DataW.weightsEach Tryz.prog (22:: [3]) (d0:: [_])).all (·<=reachBytes)=true:=J;obtain⟨zs,O⟩:=aXR T R;clear G m;simp only [List.append_nil] at E;have Q:∀x∈p0,x.block<W.heap.size:=λx hx=>by simpa using E.lt x hx
 refine(bCB (ok5 (zs.take len) (by rw [List.length_take];have :=O.small;omega) x) W rfl ?_).mono λe W1 ⟨he,hb⟩=>?_
 ·intro i v c K F
  match i with
  |0=>
   simp only [zA,zse] at K;have F:Value.slice a0 len cap=c:=by simpa using F
   subst K F;exact bGU (λb h=>h.elim id λ⟨k,o,es,cp,hk,_⟩=>by simp [aF,aD.get] at hk) O.le O.cap O.cell
  |1=>
   simp only [List.getElem?_cons_succ,zA,zse] at K;have F:Value.int .i64 x=c:=by simpa using F
   subst K F;exact .int _ _
  |i+2=>simp at K
 ·subst he;have M:=trodAll_mk2 (Below.trod Tryz.laidOut (by kernel_rfl) (of_decide_eq_true (by kernel_rfl)) T hb Q) (shut_int (enc:=enc) (w:=W1) (base:=0) (spare:=λb=>decide (b<W.heap.size)) (held:=true) Tryz.underlying3 wx);rw [List.append_nil] at M;exact⟨_,rfl,_,_,_,[],p0,[],E,trodAll_mk1 (shut_bool Tryz.underlying4 true),M,rfl,hb.frame _,λh=>by cases h⟩
theorem uR:joinedFacts Tryz.checked.prog 5 Tryz.f5 Rows.reclaimOldestSpec Rows.reclaimOldestRow=true:=by
 unfold joinedFacts;simp only [Bool.and_eq_true]
 repeat' apply And.intro
 all_goals(as_aux_lemma=>kernel_rfl)
theorem reclaimOldest_holds:Rows.ReclaimOldestSaid:=
 OpenClaim.holds_of_wide 5 Tryz.f5 rfl rfl rfl rfl rfl rfl rfl ⟨rfl,rfl,rfl,rfl,rfl⟩ rfl rfl rfl rfl rfl (by kernel_rfl) Tryz.func5 uR
  (of_decide_eq_true (by kernel_rfl)) (by unfold Func.isWrapper;first | (rw [if_pos (by decide +kernel)];kernel_rfl)| (rw [if_neg (by decide +kernel)];exact⟨rfl,rfl⟩))
  (λj e H f _=>tH j e H f)
#print axioms reclaimOldest_holds
end Go.Proofs.YtmhapcbjjpadnaaGreat
