/- Caches. -/
import Derived.Test.YtmhapcbjjpadnaaGreatJAr
import Derived.Test.YtmhapcbjjpadnaaGreatXYAb
set_option linter.all false
set_option maxHeartbeats 8000000
set_option maxRecDepth 40000
namespace Go.Proofs.YtmhapcbjjpadnaaGreat
open Go Go.Sk Go.RowKit
theorem usA_of {c:Dc} {m:Nat} {u:Us} (h1:m<c.fr.length)(h2:c.fr.getD m none=some u):fA c ((m+1:Nat):Int)=some (m,u):=by
 unfold fA
 rw [nX h1 h2,show(((m+1:Nat):Int)-1).toNat=m by omega,h2];rfl
structure Upd(c d:Dc)(m:Nat)(v:Us):Prop where
 len:d.fr.length=c.fr.length
 at_:d.fr.getD m none=some v
 ne:∀j,j≠m->d.fr.getD j none=c.fr.getD j none
theorem Upd.refl {c:Dc} {m:Nat} {u:Us} (h:c.fr.getD m none=some u):Upd c c m u:=⟨rfl,h,λ_ _=>rfl⟩
theorem Upd.of_set {c d:Dc} {m:Nat} {v:Us} (h1:m<c.fr.length)(e:d.fr=c.fr.set m (some v)):Upd c d m v:=
 ⟨by rw [e,List.length_set],by rw [e,aJ _ _ _ _ h1],λj hj=>by rw [e,getD_set_ne _ _ _ hj]⟩
theorem Upd.trans {a b c:Dc} {m:Nat} {u v:Us} (h:Upd a b m u)(k:Upd b c m v):Upd a c m v:=⟨k.len.trans h.len,k.at_,λj hj=>(k.ne j hj).trans (h.ne j hj)⟩
theorem r1_upd {c:Dc} {m:Nat} {u:Us} (h1:m<c.fr.length)(h2:c.fr.getD m none=some u):∃v,Upd c (r1F c m u) m v/\v.rd=0/\v.wr=u.wr/\v.holds=u.holds:=by
 unfold r1F
 cases e:(u.rd != 0) with
 |false=>exact⟨u,.refl h2,by simpa using e,rfl,rfl⟩
 |true=>
  rw [cond_true]
  unfold reG
  rw [usA_of h1 h2]
  dsimp only
  unfold aA1
  rw [show(u.rd==0)=false by simpa using e,cond_false,diskD_size]
  exact⟨_,.of_set h1 rfl,rfl,rfl,rfl⟩
theorem en_upd {c:Dc} {m:Nat} {u:Us} (h1:m<c.fr.length)(h2:c.fr.getD m none=some u)(hw:u.wr≠0):Upd c (enG c ((m+1:Nat):Int) 0).1 m (aAL u 0):=by
 unfold enG
 rw [usA_of h1 h2]
 dsimp only
 rw [beq_eq_false_iff_ne.2 hw,cond_false]
 exact .of_set h1 rfl
theorem r2_upd {c:Dc} {m:Nat} {u:Us} (h1:m<c.fr.length)(h2:c.fr.getD m none=some u):∃v,Upd c (r2F c m u) m v/\v.rd=0/\v.wr=0/\v.holds=u.holds:=by
 obtain⟨v,k,k1,k2,k3⟩:=r1_upd h1 h2
 unfold r2F
 cases e:(u.wr != 0) with
 |false=>exact⟨v,k,k1,by rw [k2];simpa using e,k3⟩
 |true=>
  rw [cond_true]
  have q:=en_upd (c:=r1F c m u) (by rw [k.len];exact h1) k.at_ (by rw [k2];simpa using e)
  exact⟨_,k.trans q,k1,rfl,k3⟩
theorem r3_upd {c:Dc} (h:Ok c) {m:Nat} {u:Us} (h1:m<c.fr.length)(h2:c.fr.getD m none=some u):∃v,Upd c (r3F c m u) m v/\v.rd=0/\v.wr=0/\v.holds=0:=by
 obtain⟨v,k,k1,k2,k3⟩:=r2_upd h1 h2
 have hu:=(h.use m u h1 h2).holds
 have q1:m< (r2F c m u).fr.length:=by rw [k.len];exact h1
 unfold r3F aCM
 rw [usA_of q1 k.at_]
 dsimp only
 rw [decide_eq_true (by rw [k3];omega),cond_true]
 refine⟨_,k.trans (.of_set q1 rfl),k1,k2,?_⟩
 show((v.holds:Int)+(0- (u.holds:Int))).toNat=0
 rw [k3];omega
structure RestU(u:Us):Prop where
 rd:u.rd=0
 wr:u.wr=0
 holds:u.holds=0
 d:u.p.d=0
theorem begS_clean {d s:Nat} (hd:d<4)(hs:s=3\/s=d):jC false d s=0:=by
 have key:∀d:Fin 4,jC false d.val 3=0/\jC false d.val d.val=0:=by decide
 rcases hs with rfl |rfl
 ·exact(key ⟨d,hd⟩).1
 ·exact(key ⟨s,hd⟩).2
theorem r4_upd {c:Dc} (h:Ok c) {m:Nat} {u:Us} (h1:m<c.fr.length)(h2:c.fr.getD m none=some u):∃v,Upd c (r4F c m u) m v/\RestU v:=by
 obtain⟨v,k,k1,k2,k3⟩:=r3_upd h h1 h2
 have o3:=((r3_stp c m u).sh h).1
 have q1:m< (r3F c m u).fr.length:=by rw [k.len];exact h1
 have hv:=(o3.use m v q1 k.at_).pg.d
 unfold r4F
 generalize r3F c m u=c3 at *
 have hb:bgG c3 ((m+1:Nat):Int)=bif v.p.d==0 then(c3,4) else(aXK c3 m v,0):=by
  unfold bgG
  rw [usA_of q1 k.at_]
  dsimp only
  rw [beq_iff_eq.2 k2,cond_true]
 rw [hb]
 cases e:(v.p.d==0) with
 |true=>exact⟨v,k,k1,k2,k3,by simpa using e⟩
 |false=>
  have hd:v.p.d≠0:=by simpa using e
  have k5:Upd c3 (aXK c3 m v) m (aSZ v (lS c3 v)):=.of_set q1 rfl
  have hs:lS c3 v=3\/lS c3 v=v.p.d:=by
   unfold lS
   cases lZ (c3.fl.getD v.file aP).blocks v.page with
   |true=>exact .inl rfl
   |false=>exact .inr rfl
  have q:=en_upd (c:=aXK c3 m v) (by rw [k5.len];exact q1) k5.at_ (by show lS c3 v≠0;omega)
  refine⟨_,k.trans (k5.trans q),k1,rfl,k3,?_⟩
  exact begS_clean hv hs
theorem restL_upd {c:Dc} (h:Ok c):∀k,(restL c k).fr.length=c.fr.length/\(∀j,k<=j->(restL c k).fr.getD j none=c.fr.getD j none)/\∀j u,j<k->(restL c k).fr.getD j none=some u->RestU u
 |0=>⟨rfl,λ_ _=>rfl,λ_ _ hj=>by omega⟩
 |k+1=>by
  obtain⟨i1,i2,i3⟩:=restL_upd h k
  have o:=((restL_stp c k).sh h).1
  rw [restL]
  generalize restL c k=d at *
  unfold rest1
  cases e:d.fr.getD k none with
  |none=>
   refine⟨i1,λj hj=>i2 j (by omega),λj u hj hu=>?_⟩
   by_cases x:j=k
   ·subst x
    have hu:d.fr.getD j none=some u:=hu
    rw [e] at hu;cases hu
   ·exact i3 j u (by omega) hu
  |some w=>
   have hk:k<d.fr.length:=by
    by_cases x:k<d.fr.length
    ·exact x
    ·rw [List.getD_eq_getElem?_getD,List.getElem?_eq_none (Nat.le_of_not_lt x)] at e;cases e
   obtain⟨v,q,hv⟩:=r4_upd o hk e
   refine⟨q.len.trans i1,λj hj=>(q.ne j (by omega)).trans (i2 j (by omega)),λj u hj hu=>?_⟩
   have hu:(r4F d k w).fr.getD j none=some u:=hu
   by_cases x:j=k
   ·subst x
    rw [q.at_] at hu
    injection hu with hu
    subst hu;exact hv
   ·rw [q.ne j x] at hu
    exact i3 j u (by omega) hu
theorem rest_all {c:Dc} (h:Ok c) {m:Nat} {u:Us} (h1:m< (restL c c.fr.length).fr.length)(h2:(restL c c.fr.length).fr.getD m none=some u):RestU u:=by
 obtain⟨i1,-,i3⟩:=restL_upd h c.fr.length
 exact i3 m u (by omega) h2
theorem RestU.ev {u:Us} (h:RestU u):(mA u&&decide (u.p.d=0))=true:=by
 unfold mA
 rw [h.rd,h.wr,h.holds,h.d];rfl
end Go.Proofs.YtmhapcbjjpadnaaGreat
namespace Go.Proofs.YtmhapcbjjpadnaaGreat
open Go Go.Sk Go.RowKit
theorem take_ok {l:List Zn} (h:bF l=true)(hf:∃z∈l,z.free≠ []):(cJ l l ((l.length:Int)-1) true).2.2=0:=by
 obtain⟨z,hz,hne⟩:=hf
 obtain⟨j,hj,rfl⟩:=List.getElem_of_mem hz
 unfold cJ
 rw [h,Bool.not_true,cond_false,decide_eq_false (show ¬(l.length:Int)-1<0 by omega),decide_eq_false (show ¬(l.length:Int)<=(l.length:Int)-1 by omega),Bool.or_self,cond_false]
 cases ht:dO l true ((l.length:Int)-1+1).toNat with
 |some i=>rfl
 |none=>
  have k:=aCB ht j (by omega)
  rw [uJ l j hj] at k
  have k:=of_decide_eq_false k
  have k:¬(0:Int)< (l[j].free.length:Int):=k
  exact absurd (List.eq_nil_of_length_eq_zero (by omega)) hne
theorem tQ.cov:∀ {l:List Zn} {f:Int},tQ f l->∀x,f<=x->x<f+jP nW l->∃z∈l,z.first<=x/\x<z.first+z.size
 | [],f,_,x,h1,h2=>by
   have e:jP nW []=0:=rfl
   omega
 |z::r,f,h,x,h1,h2=>by
  have e:jP nW (z::r)=z.size+jP nW r:=rfl
  have hf:=h.1.first
  by_cases c:x<f+z.size
  ·exact⟨z,by simp,by omega,by omega⟩
  ·obtain⟨w,w1,w2⟩:=tQ.cov h.2 x (by omega) (by omega)
   exact⟨w,List.mem_cons_of_mem _ w1,w2⟩
theorem give_free {c:Dc} (h:Ok c)(hz:OkZ c) {m:Nat} (hm:m<c.fr.length):∃z∈(eG c.zo c.zo ((m+1:Nat):Int)).1,z.free≠ []:=by
 have k:=aCZ (base:=c.zo) (f:=((m+1:Nat):Int)) h.zone
 have hc:=((eH c.zo).1 h.zone).1
 have hn:=hz.num
 unfold szF at hn
 obtain⟨w,w1,w2⟩:=hc.cov ((m+1:Nat):Int) (by omega) (by omega)
 generalize eG c.zo c.zo ((m+1:Nat):Int)=q at *
 cases k with
 |range a=>exact absurd w2 (a w w1)
 |free i hi hf hx=>exact⟨c.zo[i],List.getElem_mem hi,List.ne_nil_of_mem hx⟩
 |ok i hi hf hx=>
  refine⟨aK8 c.zo[i] ((m+1:Nat):Int),List.mem_iff_getElem.2 ⟨i,by rw [List.length_set];exact hi,List.getElem_set_self ..⟩,?_⟩
  show gQ _ _ _≠ []
  exact List.ne_nil_of_mem (aEE.2 (.inl rfl))
structure Ref(c d:Dc)(f p t:Nat)(sh:Int):Prop where
 ok:Ok d
 okz:OkZ d
 shp:Sh c d
 E:((d.fl.getD f aP).E p).1=sh
 chg:(d.gr.getD t g0).chg< (d.gr.getD t g0).lim
 free:∃z∈d.zo,z.free≠ []
theorem evi_E(c:Dc)(m:Nat)(u:Us)(f p:Nat)(hf:u.file<c.fl.length):(((c.evi m u).fl.getD f aP).E p).1=if f=u.file/\p=u.page then 0- (c.ck.getD u.ten 0+1) else((c.fl.getD f aP).E p).1:=by
 show(((c.fl.set u.file (eP (c.fl.getD u.file aP) (cI (c.fl.getD u.file aP).E u.page (0- (c.ck.getD u.ten 0+1),0)))).getD f aP).E p).1=_
 by_cases e1:f=u.file
 ·subst e1
  rw [aJ _ _ _ _ hf,fO]
  by_cases e2:p=u.page
  ·subst e2;rw [dH,if_pos ⟨rfl,rfl⟩]
  ·rw [cT e2,if_neg (λh=>e2 h.2)]
 ·rw [getD_set_ne _ _ _ e1,if_neg (λh=>e1 h.1)]
theorem Ref.ev {c d:Dc} {f p t:Nat} {sh:Int} (r:Ref c d f p t sh)(hs:sh<=0)(n:Int):Ref c (evG d n).1 f p t sh:=by
 unfold evG
 rcases cN d n with ⟨e,hu⟩| ⟨m,u,e,rfl,h1,h2⟩
 ·rw [e];exact r
 ·rw [e]
  dsimp only
  cases hi:(mA u&&decide (u.p.d=0)) with
  |false=>exact r
  |true=>
   have hd:evG d ((m+1:Nat):Int)=(d.evi m u,0):=by
    unfold evG
    rw [e]
    dsimp only
    rw [hi];rfl
   show Ref c (d.evi m u) f p t sh
   have ho:=bD9 r.ok ((m+1:Nat):Int)
   have hz:=evG_okZ r.ok r.okz ((m+1:Nat):Int)
   have hsh:=r.shp.trans (Sh.ev d ((m+1:Nat):Int))
   rw [hd] at ho hz hsh
   have ku:=r.ok.use m u h1 h2
   refine⟨ho,hz,hsh,?_,?_,?_⟩
   ·show(((d.evi m u).fl.getD f aP).E p).1=sh
    rw [evi_E d m u f p ku.file,if_neg]
    ·exact r.E
    ·rintro ⟨rfl,rfl⟩
     have a:=ku.val
     rw [r.E] at a
     omega
   ·show((gB d.gr u.ten).1.getD t g0).chg< ((gB d.gr u.ten).1.getD t g0).lim
    obtain⟨k1,k2⟩:=unch_le d.gr u.ten t
    have :=r.chg
    omega
   ·exact give_free r.ok r.okz h1
theorem sumZ_sim:∀(l:List Zn),jP nW (l.map gF)=jP nW l
 | []=>rfl
 |z::r=>by
  show z.size+jP nW (r.map gF)=z.size+jP nW r
  rw [sumZ_sim r]
theorem Ref.sim {c a d:Dc} {f p t:Nat} {sh:Int} (r:Ref c d f p t sh)(s:mZ a d):Ref c a f p t sh:=by
 refine⟨s.ok r.ok,⟨by rw [s.gr];exact r.okz.chg,?_⟩,?_,by rw [s.fl];exact r.E,by rw [s.gr];exact r.chg,?_⟩
 ·have k:=r.okz.num
  rw [s.fr]
  unfold szF at *
  rw [<-sumZ_sim,show a.zo.map gF=d.zo.map gF from s.zo,sumZ_sim];exact k
 ·exact r.shp.trans ⟨by rw [s.fl],by rw [s.fr],s.zo.len,by rw [s.gr]⟩
 ·obtain⟨z,hz,hne⟩:=r.free
  obtain⟨j,hj,rfl⟩:=List.getElem_of_mem hz
  have hj2:j<a.zo.length:=by rw [s.zo.len];exact hj
  have e:=s.zo.get j hj2
  refine⟨a.zo[j],List.getElem_mem hj2,?_⟩
  have e:(gF a.zo[j]).free=(gF d.zo[j]).free:=by rw [e]
  have e:a.zo[j].free=d.zo[j].free:=e
  rw [e];exact hne
theorem Ref.start {c:Dc} (h:Ok c)(hz:OkZ c) {m:Nat} {u:Us} (h1:m<c.fr.length)(h2:c.fr.getD m none=some u)(hr:RestU u):
 evG c ((m+1:Nat):Int)=(c.evi m u,0)/\Ref c (c.evi m u) u.file u.page u.ten (0- (c.ck.getD u.ten 0+1)):=by
 have ku:=h.use m u h1 h2
 have e:evG c ((m+1:Nat):Int)=(c.evi m u,0):=by
  unfold evG
  rw [usA_of h1 h2]
  dsimp only
  rw [hr.ev,cond_true]
 have ho:=bD9 h ((m+1:Nat):Int)
 have hzz:=evG_okZ h hz ((m+1:Nat):Int)
 have hsh:=Sh.ev c ((m+1:Nat):Int)
 rw [e] at ho hzz hsh
 refine⟨e,ho,hzz,hsh,?_,?_,give_free h hz h1⟩
 ·rw [evi_E c m u u.file u.page ku.file,if_pos ⟨rfl,rfl⟩]
 ·have hg:=aAR h.gr ku.ten
  have hc:=hz.chg u.ten
  show((gB c.gr u.ten).1.getD u.ten g0).chg< ((gB c.gr u.ten).1.getD u.ten g0).lim
  unfold gB
  by_cases x:(c.gr.getD u.ten g0).chg<1
  ·rw [decide_eq_true x,cond_true];dsimp only;omega
  ·rw [decide_eq_false x,cond_false]
   unfold aJO
   rw [aJ _ _ _ _ ku.ten]
   dsimp only
   omega
theorem Ref.ins {c d:Dc} {f p t:Nat} {sh:Int} (r:Ref c d f p t sh)(hs:sh<=0)(hf:f<d.fl.length)(hp:p<8)(ht:t<d.gr.length):
 ∃m:Nat,(iZ d f p t ((d.zo.length:Int)-1) true).2=(((m+1:Nat):Int),0)/\m<d.fr.length/\(iZ d f p t ((d.zo.length:Int)-1) true).1.ls.length=d.ls.length/\
  decide (((m+1:Nat):Int)∈((iZ d f p t ((d.zo.length:Int)-1) true).1.ls.getD t l0).A)=aXD (d.ck.getD t 0) sh ((d.ls.getD t l0).A.length:Int):=by
 have hz:=aAI r.ok.zone
 have hi:inI d f p t ((d.zo.length:Int)-1)=true:=by
  unfold inI
  exact decide_eq_true (by omega)
 have ht0:=take_ok r.ok.zone r.free
 obtain⟨m,m1,m2,m3⟩:=take_at r.ok ht0
 have hc:(cK d.gr t).2=0:=by
  have :=r.chg
  unfold cK
  rw [decide_eq_false (by omega)];rfl
 have e:iZ d f p t ((d.zo.length:Int)-1) true=(d.ins f p t (cJ d.zo d.zo ((d.zo.length:Int)-1) true).1 (cK d.gr t).1 m,((m+1:Nat):Int),0):=by
  unfold iZ
  rw [hi,cond_true]
  simp only [Int.toNat_natCast]
  unfold eU
  rw [decide_eq_false (by rw [r.E];omega),cond_false,beq_iff_eq.2 hc,cond_true,beq_iff_eq.2 ht0,cond_true,m2,show(((m+1:Nat):Int)-1).toNat=m by omega]
 rw [e]
 refine⟨m,rfl,m1,List.length_set ..,?_⟩
 have htl:t<d.ls.length:=by rw [r.ok.nl];exact ht
 show decide (((m+1:Nat):Int)∈((d.ls.set t (aAE (d.ls.getD t l0) ((m+1:Nat):Int) (aN7 d f p t)).1).getD t l0).A)=_
 rw [aJ _ _ _ _ htl]
 have ha:aN7 d f p t=aXD (d.ck.getD t 0) sh ((d.ls.getD t l0).A.length:Int):=by
  unfold aN7
  rw [r.E]
 have hnin:¬inL (d.ls.getD t l0) ((m+1:Nat):Int):=λhx=>by
  obtain⟨n,u,k1,k2,k3,k4⟩:=r.ok.mem t _ htl hx
  have :n=m:=by omega
  subst this
  rw [m3] at k3;cases k3
 rw [<-ha]
 have hk:cG ((m+1:Nat):Int)=true:=(pE _).2 (by have :=r.ok.nr;omega)
 have hn2:oH (d.ls.getD t l0) ((m+1:Nat):Int)=false:=by
  unfold oH
  rw [decide_eq_false λx=>hnin (.inl x),decide_eq_false λx=>hnin (.inr x)];rfl
 unfold aAE aSV
 rw [r.ok.ls t htl,Bool.not_true,cond_false,hk,Bool.not_true,cond_false,hn2,cond_false]
 cases aN7 d f p t with
 |true=>exact decide_eq_true (by simp)
 |false=>exact decide_eq_false λx=>hnin (.inl x)
def hasA(A:List Int)(x:Int):Nat->Bool
 |0=>false
 |i+1=>bif hasA A x i then true else A.getD i 0==x
theorem hasA_eq(A:List Int)(x:Int):∀i,i<=A.length->hasA A x i=decide (x∈A.take i)
 |0,_=>by simp [hasA]
 |i+1,h=>by
  rw [hasA,hasA_eq A x i (by omega),List.take_add_one,List.getElem?_eq_getElem (show i<A.length by omega),List.getD_eq_getElem?_getD,List.getElem?_eq_getElem (show i<A.length by omega)]
  simp only [Option.toList_some,Option.getD_some,List.mem_append,List.mem_singleton]
  by_cases h1:x∈A.take i
  ·simp [h1]
  ·by_cases h2:A[i]=x
   ·simp [h1,h2]
   ·simp [h1,h2,Ne.symm h2]
end Go.Proofs.YtmhapcbjjpadnaaGreat
namespace Go.Proofs.YtmhapcbjjpadnaaGreat
open Go Go.Sk Go.RowKit
noncomputable def R10:Rsv Tryz.prog Tryz.f10 [] 1:=⟨_,_,rfl,rfl⟩
theorem ok10(L:List Int)(hL:(L.length:Int)<2^62):aM Tryz.prog 10 [] [.lst 1 false (aE L)] (.bool true) []:=by
 obtain⟨c,J0,hd,hJ0,k39⟩:=bMA L hL
 obtain⟨hok,hcf,hcg,hcz,hcr⟩:=hd.ok
 have hz:=hd.okZ
 clear hd
 have k69:=ok69 c hok
 obtain⟨o1,s1⟩:=(restL_stp c c.fr.length).sh hok
 have z1:=(restL_stp c c.fr.length).okZ hok hz
 have hrest:=λm u=>rest_all hok (m:=m) (u:=u)
 have hlg:(restL c c.fr.length).gr.length=2:=by rw [s1.gr,hcg]
 have hlz:(restL c c.fr.length).zo.length=2:=by rw [s1.zo,hcz]
 have hlr:4<=(restL c c.fr.length).fr.length:=by rw [s1.fr];exact hcr
 have hnr:=o1.nr
 clear s1 hz
 generalize restL c c.fr.length=r at *
 obtain⟨n,J1,hn,hJ1,k1⟩:=draw L hL hJ0 (r.fr.length:Int) (by omega) (by omega)
 have k70:=aB4 r ((n+1:Nat):Int) o1.sm
 have k38:=bM9
 have hn2:n<r.fr.length:=by omega
 cases hu:r.fr.getD n none with
 |none=>
  have hub:gC r ((n+1:Nat):Int)=false:=by
   unfold gC
   rw [show(((n+1:Nat):Int)-1).toNat=n by omega,hu]
   simp
  rw [hub] at k70
  clear hrest
  refine bE R10 (ob0:= []) Tryz.func10 rfl rfl rfl ?_
  exact jR
 |some u=>
  rw [nX hn2 hu] at k70
  obtain⟨e1,R0⟩:=Ref.start o1 z1 hn2 hu (hrest n u hn2 hu)
  have ku:=o1.use n u hn2 hu
  have hck:=o1.ck u.ten
  have hnk:=o1.nk
  have hgu:=jB hn2 hu
  have hgk:(aE r.ck).getD u.ten []=[.int .i64 (r.ck.getD u.ten 0)]:=aZU (by rw [hnk];exact ku.ten)
  have k42:=ok42 r o1 ((n+1:Nat):Int)
  obtain⟨sm,es⟩:=ev_sim o1 ((n+1:Nat):Int)
  rw [es,e1] at k42
  rw [e1] at sm
  have R1:=R0.sim sm
  clear R0 sm es e1 hrest hu
  generalize(evP r ((n+1:Nat):Int)).1=a at *
  have k71:=bMP (r.ck.getD u.ten 0) hck.1 hck.2
  obtain⟨sh,hsh⟩:∃sh:Int,sh=0- (r.ck.getD u.ten 0+1):=⟨_,rfl⟩
  rw [<-hsh] at R1 k71
  have hsh0:sh<=0:=by omega
  generalize r.ck.getD u.ten 0=at0 at *
  obtain⟨q,J2,hq,hJ2,k2⟩:=draw L hL hJ1 4 (by decide) (by decide)
  have kuf:=ku.file
  have kup:=ku.page
  have kut:=ku.ten
  have hga:a.gr.length=2:=by rw [R1.shp.gr,hlg]
  have hka:a.ck.length=2:=by rw [R1.ok.nk,hga]
  have hla:a.ls.length=2:=by rw [R1.ok.nl,hga]
  clear ku hck
  refine bE R10 (ob0:= []) Tryz.func10 rfl rfl rfl ?_
  refine Wy ?_
  refine Lp (α:=Nat×(Dc×Nat)) (λp=>Ref r p.2.1 u.file u.page u.ten sh/\p.2.2<=L.length/\p.1<=4) (λp=> [(10,.int .i64 (p.1:Int))]) (λp=> [(0,lC L p.2.2),(3,.box p.2.1.c)]) (λp=>p.1) (q,(a,J2)) ⟨R1,hJ2,by show q<=4;omega⟩ ?_ ?_
  ·exact Vr [_,_,_,_]
  rintro ⟨i,d,J⟩ ⟨i1,i2,i3⟩
  dsimp only at i1 i2 i3
  clear k39 k69 k1 k70 k42 R1 hJ0 hJ1 hJ2 k2
  have hgd:d.gr.length=2:=by rw [i1.shp.gr,hlg]
  have hzd:d.zo.length=2:=by rw [i1.shp.zo,hlz]
  have hkd:d.ck.length=2:=by rw [i1.ok.nk,hgd]
  have hld:d.ls.length=2:=by rw [i1.ok.nl,hgd]
  have hfd:d.fr.length=r.fr.length:=i1.shp.fr
  cases i with
  |succ i=>
   obtain⟨v,J3,hv,hJ3,k3⟩:=draw L hL i2 (r.fr.length:Int) (by omega) (by omega)
   have k42:=ok42 d i1.ok ((1+v:Nat):Int)
   have R2:=(i1.ev hsh0 ((1+v:Nat):Int)).sim (ev_sim i1.ok ((1+v:Nat):Int)).1
   generalize evP d ((1+v:Nat):Int)=x at *
   obtain⟨x,y⟩:=x
   dsimp only at *
   refine Wy ?_
   refine Le (i,(x,J3)) (hI:=⟨R2,hJ3,by omega⟩) (hv:=?_)
   exact Vr [_,_,_,_]
  |zero=>
   obtain⟨m,g1,g2,g3,g4⟩:=i1.ins hsh0 (f:=u.file) (p:=u.page) (t:=u.ten) (by rw [i1.shp.fl];exact kuf) kup (by omega)
   have k40:=ok40 d i1.ok (u.file:Int) (u.page:Int) (u.ten:Int) ((d.zo.length:Int)-1) true
   obtain⟨sIq,eIq⟩:=ins_sim i1.ok (u.file:Int) (u.page:Int) (u.ten:Int) ((d.zo.length:Int)-1) true
   have ox:=sIq.ok (aD2 i1.ok (u.file:Int) (u.page:Int) (u.ten:Int) ((d.zo.length:Int)-1) true)
   rw [eIq,g1] at k40
   rw [<-sIq.ls] at g3 g4
   clear sIq eIq g1
   generalize(bGU d (u.file:Int) (u.page:Int) (u.ten:Int) ((d.zo.length:Int)-1) true).1=x at *
   dsimp only at k40
   have hck:=i1.ok.ck u.ten
   have k72:=bMQ (d.ck.getD u.ten 0) sh ((d.ls.getD u.ten l0).A.length:Int) hck.1 hck.2
   have hgk2:(aE d.ck).getD u.ten []=[.int .i64 (d.ck.getD u.ten 0)]:=aZU (by omega)
   have hgl:=kD d.ls u.ten (by omega)
   have hgx:=kD x.ls u.ten (by omega)
   have hs1:=(i1.ok.smL u.ten).a
   have hs2:=(ox.smL u.ten).a
   generalize d.ls.getD u.ten l0=l1 at *
   obtain⟨A1,I1,B1⟩:=l1
   generalize x.ls.getD u.ten l0=l2 at *
   obtain⟨A2,I2,B2⟩:=l2
   generalize d.ck.getD u.ten 0=ckd at *
   dsimp only at *
   generalize aXD ckd sh (A1.length:Int)=wt at *
   have hfin:hasA A2 ((m+1:Nat):Int) A2.length=wt:=by
    rw [hasA_eq _ _ _ (Nat.le_refl _),List.take_length];exact g4
   have hr1:(aE A1).length=A1.length:=aA _
   have hr2:(aE A2).length=A2.length:=aA _
   clear i1 ox g4
   refine Wy ?_
   refine Lp (λi:Nat=>i<=A2.length) (λi=> [(18,.int .i64 (i:Int)),(17,.bool (hasA A2 ((m+1:Nat):Int) i))]) (λ_=> []) (λi=>A2.length-i) 0 (Nat.zero_le _) ?_ ?_
   ·exact Vr [some 0,some 1,some 2,some 3,some 4]
   intro i hi
   have hsi:hasA A2 ((m+1:Nat):Int) (i+1)=bif hasA A2 ((m+1:Nat):Int) i then true else A2.getD i 0==((m+1:Nat):Int):=rfl
   by_cases b:i<A2.length
   ·have hga:(aE A2).getD i []=[.int .i64 (A2.getD i 0)]:=aZU b
    generalize hy:hasA A2 ((m+1:Nat):Int) i=y at *
    generalize A2.getD i 0=a2 at *
    cases y with
    |true=>
     rw [cond_true] at hsi
     refine Wy ?_
     refine Le (i+1) (hv:=?_)
     simp only [hsi]
     exact Vr [some 0,some 1,some 2,some 3,some 4]
    |false=>
     rw [cond_false] at hsi
     refine Wy ?_
     refine Le (i+1) (hv:=?_)
     simp only [hsi]
     exact Vr [some 0,some 1,some 2,some 3,some 4]
   ·obtain rfl:i=A2.length:=by omega
    rw [hfin]
    cases wt <;> exact jR
end Go.Proofs.YtmhapcbjjpadnaaGreat
