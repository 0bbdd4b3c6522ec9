/- Caches. -/
import Derived.Test.YtmhapcbjjpadnaaGreatQCg
import Derived.Test.YtmhapcbjjpadnaaGreatGKg
set_option linter.all false
set_option maxRecDepth 40000
open Int renaming toNat_natCast→zD
open List renaming getD_eq_getElem?_getD→zA,length_set→zC,mem_cons_of_mem→zE,mem_cons_self→zF,getElem_mem→zH
open Nat renaming le_refl→zG
namespace Go.Proofs.YtmhapcbjjpadnaaGreat
open Go Go.Sk Go.RowKit
structure fK(c:Dc):Prop where
 pgs:∀x∈c.pt,∃m u,m<c.fr.length/\x.frame=((m+1:Nat):Int)/\c.fr.getD m none=some u
 lst:∀m u,m<c.fr.length->c.fr.getD m none=some u->rS (c.ls.getD u.ten l0) ((m+1:Nat):Int)
theorem bDN(f:Int)(p:Pt):(aBG f p).frame=p.frame:=by unfold aBG;cases(p.frame==f)<;> rfl
theorem fK.keep {c d:Dc} (hm:fK c)(e:d.fr=c.fr)(f:d.ls=c.ls)(j:d.pt=c.pt):fK d:= ⟨by rw [j,e];exact hm.pgs,by rw [e,f];exact hm.lst⟩
theorem fK.pts {c:Dc} (hm:fK c) {l:List Pt} (e:∀x∈l,∃m u,m<c.fr.length/\x.frame=((m+1:Nat):Int)/\c.fr.getD m none=some u):fK (c.pts l):=⟨e,hm.lst⟩
theorem fK.fl1 {c:Dc} (hm:fK c) {f:Nat} {x:Df} (_:f<c.fl.length)(_:x.E=(c.fl.getD f aX).E):fK ⟨c.fl.set f x,c.fr,c.zo,c.gr,c.ls,c.ck,c.pt⟩:=⟨hm.pgs,hm.lst⟩
theorem fK.e0 {c:Dc} (_:Ok c)(hm:fK c) {f p:Nat} (_:f<c.fl.length)(_:jH c f p=none):fK (c.e0 f p):=⟨hm.pgs,hm.lst⟩
theorem fK.put {c:Dc} (_:Ok c)(hm:fK c) {m:Nat} {u u':Us} (h1:m<c.fr.length)(h2:c.fr.getD m none=some u)(f:lC u'=lC u):fK (c.put m u'):=by
 have j:u'.ten=u.ten:=by simp only [lC,Prod.mk.injEq] at f;exact f.2.2
 refine⟨λx z=>?_,λn w k1 k2=>?_⟩
 ·obtain⟨n,w,a,b,d⟩:=hm.pgs x z
  by_cases e:n=m
  ·subst e;exact⟨n,u',by rw [vD];exact a,b,aE _ _ _ _ a⟩
  ·exact⟨n,w,by rw [vD];exact a,b,(getD_set_ne _ _ _ e).trans d⟩
 ·have k1:n<c.fr.length:=by rw [vD] at k1;exact k1
  have k2:(c.fr.set m (some u')).getD n none=some w:=k2;show rS (c.ls.getD w.ten l0) _
  by_cases e:n=m
  ·subst e;have k3:(c.fr.set n (some u')).getD n none=some u':=aE _ _ _ _ h1;rw [k3,zse] at k2;rw [<-k2,j];exact hm.lst n u h1 h2
  ·rw [getD_set_ne _ _ _ e] at k2;exact hm.lst n w k1 k2
theorem bCZ {l:Ls} {f x:Int} (h:rS l x)(e:x≠f):rS (kL l f).1 x:=by
 unfold kL
 cases(!eB l) with
 |true=>exact h
 |false=>
  cases(!cA f) with
  |true=>exact h
  |false=>
   cases(!lH l f) with
   |true=>exact h
   |false=>exact h.imp (λy=>dA.2 ⟨y,e⟩) λy=>dA.2 ⟨y,e⟩
theorem bD0 {l:Ls} {f x:Int} (h:rS l x):rS (oD l f).1 x:=by
 unfold oD
 cases(!eB l) with
 |true=>exact h
 |false=>
  cases(!cA f) with
  |true=>exact h
  |false=>
   cases(!lH l f) with
   |true=>exact h
   |false=>
    cases(!decide (f∈l.R)) with
    |true=>exact h
    |false=>
     cases decide (f∈l.I) with
     |false=>exact h
     |true=>
      show x∈f::wo l.A f\/x∈wo l.I f
      by_cases e:x=f
      ·exact .inl (by rw [e];exact zF)
      ·exact h.imp (λy=>zE _ (dA.2 ⟨y,e⟩)) λy=>dA.2 ⟨y,e⟩
theorem bCY {l:Ls} {f x:Int} {a:Bool} (h:rS l x):rS (sU l f a).1 x:=by
 unfold sU aPF
 cases(!eB l) with
 |true=>exact h
 |false=>
  cases(!cA f) with
  |true=>exact h
  |false=>
   cases lH l f with
   |true=>exact h
   |false=>
    cases a with
    |true=>exact h.imp (λy=>zE _ y) id
    |false=>exact h.imp id λy=>zE _ y
theorem aY6 {l:Ls} {f:Int} (a:Bool)(h1:eB l=true)(h2:cA f=true):rS (sU l f a).1 f:=by
 unfold sU aPF;rw [h1,h2]
 cases h:lH l f with
 |true=> unfold lH at h;rw [Bool.or_eq_true,decide_eq_true_iff,decide_eq_true_iff] at h;exact h
 |false=>
  cases a with
  |true=>exact .inl zF
  |false=>exact .inr zF
theorem aF4 {f:List Ls} {t s:Nat} {y:Ls} {x:Int} (h:rS (f.getD s l0) x)(m:s=t->rS y x):rS ((f.set t y).getD s l0) x:=by
 by_cases e:s=t
 ·subst e
  by_cases j:s<f.length
  ·rw [aE _ _ _ _ j];exact m rfl
  ·rw [dI _ _ (Nat.le_of_not_lt j)];exact h
 ·rw [getD_set_ne _ _ _ e];exact h
theorem fK.gone {c:Dc} (h:Ok c)(hm:fK c) {m:Nat} {u:Us} (h1:m<c.fr.length)(h2:c.fr.getD m none=some u)(v:Int):fK (c.gone m u v):=by
 refine⟨λx f=>?_,λn w k1 k2=>?_⟩
 ·have f:x∈oK c.pt ((m+1:Nat):Int):=f;unfold oK at f;rw [h.pt,zct] at f;obtain⟨f,j⟩:=List.mem_filter.1 f;obtain⟨n,w,a,b,d⟩:=hm.pgs x f;have e:n≠m:=λe=>by unfold pN at j;rw [b,e] at j;simp at j
  exact⟨n,w,by show n< (c.fr.set m none).length;rw [zC];exact a,b,(getD_set_ne _ _ _ e).trans d⟩
 ·have k2:(c.fr.set m none).getD n none=some w:=k2;have k1:n<c.fr.length:=by have :(c.gone m u v).fr.length=c.fr.length:=zC ..;omega
  by_cases e:n=m
  ·subst e;rw [aE _ _ _ _ h1] at k2;cases k2
  ·rw [getD_set_ne _ _ _ e] at k2;have k:=hm.lst n w k1 k2;refine aF4 k λes=>bCZ ?_ (by omega);rw [<-es];exact k
theorem fK.acc {c:Dc} (hm:fK c)(m t:Nat):fK (c.acc m t):= ⟨hm.pgs,λn w k1 k2=>by have k:=hm.lst n w k1 k2;exact aF4 k λes=>bD0 (by rw [<-es];exact k)⟩
theorem aY8 {c:Dc} (h:Ok c)(hm:fK c) {f p t:Nat} (B:Int)(C:Bool)(N:f<c.fl.length)(F:t<c.gr.length):fK (fC c f p t B C).1:=by
 unfold fC
 by_cases e1:0< ((c.fl.getD f aX).E p).1
 ·rw [zdt e1];exact hm
 rw [zdf e1,zcf]
 cases M:((eM c.gr t).2==0) with
 |false=>exact hm
 |true=>
  rw [zct]
  cases D:((cS c.zo c.zo B C).2.2==0) with
  |false=>exact hm
  |true=>
   rw [zct];obtain⟨m,H,J,K⟩:=take_at h (eq_of_beq D);rw [J,show(((m+1:Nat):Int)-1).toNat=m by omega];have j:t<c.ls.length:=by rw [h.nl];exact F
   have z:cA ((m+1:Nat):Int)=true:=(mX _).2 (by have :=h.nr;omega);refine⟨λx G=>?_,λn w k1 k2=>?_⟩
   ·obtain⟨n,w,a,b,d⟩:=hm.pgs x G;have e:n≠m:=λe=>by rw [e,K] at d;cases d
    exact⟨n,w,by show n< (c.fr.set m _).length;rw [zC];exact a,b,(getD_set_ne _ _ _ e).trans d⟩
   ·have k2:(c.fr.set m (some (aCJ c f p t))).getD n none=some w:=k2;have k1:n< (c.fr.set m (some (aCJ c f p t))).length:=k1;rw [zC] at k1;show rS ((c.ls.set t (sU (c.ls.getD t l0) ((m+1:Nat):Int) (aQ6 c f p t)).1).getD w.ten l0) _
    by_cases e:n=m
    ·subst e;rw [aE _ _ _ _ H,zse] at k2;subst k2;show rS ((c.ls.set t _).getD t l0) _;rw [aE _ _ _ _ j];exact aY6 _ (h.ls t j) z
    ·rw [getD_set_ne _ _ _ e] at k2;have k:=hm.lst n w k1 k2;exact aF4 k λes=>bCY (by rw [<-es];exact k)
theorem aNJ {c:Dc} (h:Ok c)(hm:fK c)(f p t j:Int)(m:Bool):fK (iZ c f p t j m).1:=by
 unfold iZ inI
 by_cases e:(0<=f/\f< (c.fl.length:Int))/\(0<=p/\p<8)/\(0<=t/\t< (c.gr.length:Int))/\0<=j/\j< (c.zo.length:Int)
 ·rw [zdt e];exact aY8 h hm j m (by omega) (by omega)
 ·rw [zdf e];exact hm
theorem aT0 {c:Dc} (h:Ok c)(hm:fK c)(n k:Int):fK (rbG c n k).1:=by
 unfold rbG;rcases bN c n with ⟨e,f⟩| ⟨m,u,e,rfl,h1,h2⟩
 ·rw [e];exact hm
 ·rw [e];dsimp only
  cases decide ((1<=k/\k<=3)/\k.toNat &&& (u.p.v ||| u.rd)=0) with
  |true=>exact hm.put h h1 h2 rfl
  |false=>exact hm
theorem aT6 {c:Dc} (h:Ok c)(hm:fK c)(n:Int)(d:ByteArray)(ok:Bool):fK (reG c n d ok).1:=by
 unfold reG;rcases bN c n with ⟨e,f⟩| ⟨m,u,e,rfl,h1,h2⟩
 ·rw [e];exact hm
 ·rw [e];dsimp only;unfold aBM
  cases(u.rd==0) with
  |true=>exact hm
  |false=>
   cases(ok&&decide (d.size≠16)) with
   |true=>exact hm
   |false=>exact hm.put h h1 h2 rfl
theorem aOI {d:Dc} (h:Ok d)(hm:fK d)(f:Nat)(p n:Int):fK (aLH d f p n):=by
 unfold aLH;split
 ·exact hm
 ·rename_i m u e
  cases(!(mK false 3 (u.p.v ||| u.rd)==0)&&u.rd==0) with
  |false=>exact hm
  |true=>exact aT6 (aHF h _ _) (aT0 h hm _ _) _ _ _
theorem aOH {c:Dc} (h:Ok c)(hm:fK c)(f:Nat)(ps:List Int):∀k,fK (aD1 c f ps k)
 |0=>hm
 |k+1=>by
  have e:=aOH h hm f ps k;have o:=(aBJ h f ps k).1;rw [aD1];generalize aD1 c f ps k=d at *;unfold aQR;split
  ·exact aOI o e _ _ _
  ·cases((iZ d f (ps.getD k 0) 0 ((d.zo.length:Int)-1) true).2.2==0) with
   |false=>exact e
   |true=>exact aOI (aB1 o _ _ _ _ _) (aNJ o e _ _ _ _ _) _ _ _
theorem aOW {c:Dc} (h:Ok c)(hm:fK c) {f:Nat} (e:Int)(j:f<c.fl.length):fK (dG c f e).1:=by
 unfold dG;split
 ·exact hm
 ·split
  ·exact hm
  ·rename_i m u z;obtain⟨q1,q2,B,C,D⟩:=cY h j z
   cases(mK false _ u.p.v==0) with
   |true=>exact hm.put h q1 q2 rfl
   |false=>exact hm
theorem aTX {c:Dc} (h:Ok c)(hm:fK c) {f off:Nat} {s:ByteArray} (e:f<c.fl.length)(z:off+s.size<=128):∀k,k<=cnt off s.size->fK (wrL c f off s k)
 |0,_=>hm
 |k+1,F=>by
  have B:=aTX h hm e z k (by omega);obtain⟨C,E,G⟩:=aDD h e z k (by omega);rw [wrL];split
  ·rename_i m u D;have j:f< (wrL c f off s k).fl.length:=by rw [E];exact e
   obtain⟨q1,q2,H,J,K⟩:=cY C j D;refine fK.acc (fK.put C B q1 q2 ?_) _ _;rfl
  ·exact B
theorem bBG {c:Dc} (h:Ok c)(hm:fK c)(f off:Int)(s:ByteArray):fK (vU c f off s).1:=by
 unfold vU
 cases E:qD c f off s.size with
 |false=>exact hm
 |true=>
  obtain⟨f,off,n,rfl,rfl,e,z,m⟩:=kU E;have m:off+s.size<=128:=by omega
  rw [zct,zD,zD];unfold aBW
  cases(s.size==0) with
  |true=>exact hm
  |false=>
   rw [zcf];obtain⟨D,F,H,J⟩:=vG h ((off+s.size:Nat):Int) z;have B:=aOW h hm ((off+s.size:Nat):Int) z;have j:f< (dG c f ((off+s.size:Nat):Int)).1.fl.length:=by rw [F];exact z
   obtain⟨K,G,M⟩:=aDD D (s:=s) (off:=off) j m _ (zG _);have C:=aTX D B (s:=s) (off:=off) j m _ (zG _)
   cases lD c f off s.size true (cnt off s.size) with
   |none=>exact hm
   |some L=>
    dsimp only
    cases((dG c f ((off+s.size:Nat):Int)).2==4) with
    |true=>exact hm
    |false=>
     rw [zcf]
     cases(L.isEmpty&&(dG c f ((off+s.size:Nat):Int)).2==0) with
     |false=>exact hm
     |true=>exact C.fl1 (by rw [G];exact j) rfl
theorem bC1 {c:Dc} (h:Ok c)(hm:fK c)(n:Int):fK (bgG c n).1:=by
 unfold bgG;rcases bN c n with ⟨e,B⟩| ⟨m,u,e,rfl,h1,h2⟩
 ·rw [e];exact hm
 ·rw [e];dsimp only
  cases(u.wr==0) with
  |false=>exact hm
  |true=>
   cases(u.p.d==0) with
   |true=>exact hm
   |false=> have f:=fK.put h hm h1 h2 (u':=aWU u (nE c u)) rfl;refine fK.pts f λx j=>?_;obtain⟨y,z,rfl⟩:=List.mem_map.1 j;rw [bDN];exact f.pgs y z
theorem bCD {c:Dc} (h:Ok c)(hm:fK c)(n e:Int):fK (enG c n e).1:=by
 unfold enG;rcases bN c n with ⟨x,z⟩| ⟨m,u,x,rfl,h1,h2⟩
 ·rw [x];exact hm
 ·rw [x];dsimp only;have z:=h.use m u h1 h2
  cases(u.wr==0) with
  |true=>exact hm
  |false=>
   rw [zcf];have j:=hm.put h h1 h2 (u':=aC8 u e) rfl;have f:u.file< (c.put m (aC8 u e)).fl.length:=by rw [vC];exact z.file
   unfold aPY
   cases(e==0) with
   |true=>exact j.fl1 f rfl
   |false=>exact j.fl1 f rfl
theorem bCM {c:Dc} (h:Ok c)(hm:fK c)(n:Int):fK (evG c n).1:=by
 unfold evG;rcases bN c n with ⟨e,f⟩| ⟨m,u,e,rfl,h1,h2⟩
 ·rw [e];exact hm
 ·rw [e];dsimp only
  cases(dW u&&decide (u.p.d=0)) with
  |false=>exact hm
  |true=>exact(hm.gone h h1 h2 (0- (c.ck.getD u.ten 0+1))).keep rfl rfl rfl
theorem aY3 {c:Dc} (h:Ok c)(hm:fK c)(n k:Int):fK (aEK c n k).1:=by
 unfold aEK;rcases bN c n with ⟨e,f⟩| ⟨m,u,e,rfl,h1,h2⟩
 ·rw [e];exact hm
 ·rw [e];dsimp only
  cases decide ((-255<=k/\k<=255)/\0<=(u.holds:Int)+k/\(u.holds:Int)+k<=255) with
  |false=>exact hm
  |true=>exact hm.put h h1 h2 rfl
theorem bB9 {c:Dc} (h:Ok c)(hm:fK c) {f off n p:Nat} (e:f<c.fl.length):fK (aEQ c f off n p):=by
 unfold aEQ
 cases isW c f off n p with
 |true=>
  rw [zct]
  cases j:jH c f p with
  |none=> have k:=hm.e0 h e j;exact k.fl1 (by show f< (c.fl.set f _).length;rw [zC];exact e) rfl
  |some x=> obtain⟨m,u⟩:=x;obtain⟨q1,q2,z,B,C⟩:=cY h e j;have k:=hm.gone h q1 q2 0;exact k.fl1 (by show f< (c.fl.set u.file _).length;rw [zC];exact e) rfl
 |false=>
  rw [zcf]
  cases j:jH c f p with
  |none=>exact hm
  |some x=> obtain⟨m,u⟩:=x;obtain⟨q1,q2,z,B,C⟩:=cY h e j;exact hm.put h q1 q2 rfl
theorem aI0 {c:Dc} (h:Ok c)(hm:fK c) {f off n:Nat} (e:f<c.fl.length)(j:off+n<=128):∀k,k<=cnt off n->fK (vT c f off n k)
 |0,_=>hm
 |k+1,C=>by have m:=aI0 h hm e j k (by omega);obtain⟨z,B,D,E⟩:=sJ h e j k (by omega);exact bB9 z m (by rw [B];exact e)
theorem aZX {c:Dc} (h:Ok c)(hm:fK c)(f off n:Int):fK (aD0 c f off n).1:=by
 unfold aD0
 cases j:qD c f off n with
 |false=>exact hm
 |true=>
  obtain⟨f,off,n,rfl,rfl,rfl,e,z⟩:=kU j;rw [zct];simp only [zD];have m:gT c f off n<=n:=by unfold gT;omega
  unfold aVF
  cases(gP c f off (gT c f off n) (cnt off (gT c f off n))).2.2 with
  |false=>exact hm
  |true=>exact aI0 h hm e (by omega) _ (zG _)
theorem bAX {c:Dc} (h:Ok c)(hm:fK c)(f z:Int):fK (uJ c f z).1:=by
 unfold uJ
 cases D:qD c f z 0 with
 |false=>exact hm
 |true=>
  obtain⟨f,z,n,rfl,rfl,-,j,H⟩:=kU D;rw [zct];simp only [zD];obtain⟨C,G,J,K⟩:=vG h (z:Int) j;have m:=aOW h hm (z:Int) j;have e:f< (dG c f (z:Int)).1.fl.length:=by rw [G];exact j
  have E:gT (dG c f (z:Int)).1 f z (128-z)<=128-z:=by unfold gT;omega
  have B:=aI0 C m (off:=z) (n:=gT (dG c f (z:Int)).1 f z (128-z)) e (by omega) _ (zG _);have F:=sJ C (f:=f) (off:=z) (n:=gT (dG c f (z:Int)).1 f z (128-z)) e (by omega) _ (zG _);unfold aW5
  cases((dG c f (z:Int)).2==0) with
  |false=>exact hm
  |true=>
   rw [zct]
   cases(gP c f z (gT c f z (128-z)) (cnt z (gT c f z (128-z)))).2.2 with
   |false=>exact hm
   |true=>exact B.fl1 (by rw [F.2.1];exact e) rfl
theorem aXE {c:Dc} (h:Ok c)(hm:fK c)(C B f a:Int)(w:Bool):fK (aC9 c C B f a w).1:=by
 unfold aC9 inE
 by_cases e:(0<=f/\f< (c.fl.length:Int))/\(0<=C/\C<8)/\(0<=B/\B<64)/\0<=a/\a<8
 ·rw [zdt e,zct];unfold aUP
  cases decide ((c.fl.getD f.toNat aX).size<=a.toNat*16) with
  |true=>exact hm
  |false=>
   rw [zcf];split
   ·exact hm
   ·rename_i m u D;obtain⟨q1,q2,F,G,H⟩:=cY h (by omega) D;have E:=h.use m u q1 q2
    cases(decide (u.p.v≠3)||(w&&decide (u.wr≠0))) with
    |true=>exact hm
    |false=>
     have z:=fK.acc (fK.put h hm q1 q2 (aKK E.pg w).1) m u.ten;refine fK.pts z λx j=>?_;rw [aRX h.pt (aQW h e.2.1 e.2.2.1 q1 w)] at j;unfold aXG at j;rw [List.mem_append,List.mem_cons] at j;rcases j with j |rfl |j
     ·exact z.pgs x (List.mem_filter.1 j).1
     ·exact⟨m,aAU u w,by show m< (c.put m (aAU u w)).fr.length;rw [vD];exact q1,rfl,by show(c.fr.set m (some (aAU u w))).getD m none=_;rw [aE _ _ _ _ q1]⟩
     ·exact z.pgs x (List.mem_filter.1 j).1
 ·rw [zdf e];exact hm
theorem pT.okP {c d:Dc} (k:pT c d):Ok c->fK c->fK d:=by
 induction k with
 |refl c=>exact λ_ h=>h
 |trans h k B C=>exact λo m=>C (h.sh o).1 (B o m)
 |ins c f p t D H=>exact λh m=>aNJ h m _ _ _ _ _
 |rdy c f G k=>exact λh m=>aOH h m _ _ _
 |wrt c f j s=>exact λh m=>bBG h m _ _ _
 |bg c n=>exact λh m=>bC1 h m _
 |en c n e=>exact λh m=>bCD h m _ _
 |rb c n k=>exact λh m=>aT0 h m _ _
 |re c n d ok=>exact λh m=>aT6 h m _ _ _
 |ev c n=>exact λh m=>bCM h m _
 |hol c n k=>exact λh m=>aY3 h m _ _
 |trn c f z=>exact λh m=>bAX h m _ _
 |pun c f j n=>exact λh m=>aZX h m _ _ _
 |ent c F E f a w=>exact λh m=>aXE h m _ _ _ _ _
theorem bHV(z:List Zn)(g:List Gr):fK (c0 z g):=by refine⟨λx e=>absurd e List.not_mem_nil,λm u h1 h2=>?_⟩;have h2:(List.replicate (szF z).toNat (none:Option Us)).getD m none=some u:=h2;rw [zA,List.getElem?_replicate] at h2;split at h2 <;> cases h2
theorem Drw.okP {c:Dc} (h:Drw c):fK c:=by obtain⟨z,g,f,hg,-,-,-,hc,e⟩:=h;exact e.okP (aRL f hg) (bHV z g)
end Go.Proofs.YtmhapcbjjpadnaaGreat
