/- Caches. -/
import Derived.Test.YtmhapcbjjpadnaaGreatQCc
import Derived.Test.YtmhapcbjjpadnaaGreatGKc
set_option linter.all false
set_option maxRecDepth 40000
open Int renaming toNat_natCast→zE
open List renaming getD_eq_getElem?_getD→zA,getElem_mem→zC,length_set→zD,mem_cons_of_mem→zF,mem_cons_self→zG
open Nat renaming le_refl→zH
namespace Go.Proofs.YtmhapcbjjpadnaaGreat
open Go Go.Sk Go.RowKit
structure iL(c:Dc):Prop where
 pgs:∀x∈c.pt,∃m u,m<c.fr.length/\x.frame=((m+1:Nat):Int)/\c.fr.getD m none=some u
 lst:∀m u,m<c.fr.length->c.fr.getD m none=some u->tD (c.ls.getD u.ten l0) ((m+1:Nat):Int)
theorem bDZ(f:Int)(p:Pt):(aC2 f p).frame=p.frame:=by unfold aC2;cases(p.frame==f)<;> rfl
theorem iL.keep {c d:Dc} (hm:iL c)(e:d.fr=c.fr)(f:d.ls=c.ls)(j:d.pt=c.pt):iL d:= ⟨by rw [j,e];exact hm.pgs,by rw [e,f];exact hm.lst⟩
theorem iL.pts {c:Dc} (hm:iL c) {l:List Pt} (e:∀x∈l,∃m u,m<c.fr.length/\x.frame=((m+1:Nat):Int)/\c.fr.getD m none=some u):iL (c.pts l):=⟨e,hm.lst⟩
theorem iL.fl1 {c:Dc} (hm:iL c) {f:Nat} {x:Df} (_:f<c.fl.length)(_:x.E=(c.fl.getD f aZ).E):iL ⟨c.fl.set f x,c.fr,c.zo,c.gr,c.ls,c.ck,c.pt⟩:=⟨hm.pgs,hm.lst⟩
theorem iL.e0 {c:Dc} (_:Ok c)(hm:iL c) {f p:Nat} (_:f<c.fl.length)(_:jP c f p=none):iL (c.e0 f p):=⟨hm.pgs,hm.lst⟩
theorem iL.put {c:Dc} (_:Ok c)(hm:iL c) {m:Nat} {u u':Us} (f:m<c.fr.length)(h2:c.fr.getD m none=some u)(j:lO u'=lO u):iL (c.put m u'):=by
 have z:u'.ten=u.ten:=by simp only [lO,Prod.mk.injEq] at j;exact j.2.2
 refine⟨λx B=>?_,λn w k1 k2=>?_⟩
 ·obtain⟨n,w,a,b,d⟩:=hm.pgs x B
  by_cases e:n=m
  ·subst e;exact⟨n,u',by rw [vW];exact a,b,aH _ _ _ _ a⟩
  ·exact⟨n,w,by rw [vW];exact a,b,(getD_set_ne _ _ _ e).trans d⟩
 ·have k1:n<c.fr.length:=by rw [vW] at k1;exact k1
  have k2:(c.fr.set m (some u')).getD n none=some w:=k2;show tD (c.ls.getD w.ten l0) _
  by_cases e:n=m
  ·subst e;have k3:(c.fr.set n (some u')).getD n none=some u':=aH _ _ _ _ f;rw [k3,zse] at k2;rw [<-k2,z];exact hm.lst n u f h2
  ·rw [getD_set_ne _ _ _ e] at k2;exact hm.lst n w k1 k2
theorem bDB {l:Ls} {f x:Int} (h:tD l x)(e:x≠f):tD (nF l f).1 x:=by
 unfold nF
 cases(!dU l) with
 |true=>exact h
 |false=>
  cases(!cI f) with
  |true=>exact h
  |false=>
   cases(!mL l f) with
   |true=>exact h
   |false=>exact h.imp (λy=>eL.2 ⟨y,e⟩) λy=>eL.2 ⟨y,e⟩
theorem bDC {l:Ls} {f x:Int} (h:tD l x):tD (nH l f).1 x:=by
 unfold nH
 cases(!dU l) with
 |true=>exact h
 |false=>
  cases(!cI f) with
  |true=>exact h
  |false=>
   cases(!mL l f) with
   |true=>exact h
   |false=>
    cases(!decide (f∈l.R)) with
    |true=>exact h
    |false=>
     cases decide (f∈l.I) with
     |false=>exact h
     |true=>
      show x∈f::wo l.A f\/x∈wo l.I f
      by_cases e:x=f
      ·exact .inl (by rw [e];exact zG)
      ·exact h.imp (λy=>zF _ (eL.2 ⟨y,e⟩)) λy=>eL.2 ⟨y,e⟩
theorem bDA {l:Ls} {f x:Int} {a:Bool} (h:tD l x):tD (tC l f a).1 x:=by
 unfold tC aQ9
 cases(!dU l) with
 |true=>exact h
 |false=>
  cases(!cI f) with
  |true=>exact h
  |false=>
   cases mL l f with
   |true=>exact h
   |false=>
    cases a with
    |true=>exact h.imp (λy=>zF _ y) id
    |false=>exact h.imp id λy=>zF _ y
theorem aZ0 {l:Ls} {f:Int} (a:Bool)(e:dU l=true)(h2:cI f=true):tD (tC l f a).1 f:=by
 unfold tC aQ9;rw [e,h2]
 cases h:mL l f with
 |true=> unfold mL at h;rw [Bool.or_eq_true,decide_eq_true_iff,decide_eq_true_iff] at h;exact h
 |false=>
  cases a with
  |true=>exact .inl zG
  |false=>exact .inr zG
theorem aLJ {f:List Ls} {t s:Nat} {y:Ls} {x:Int} (h:tD (f.getD s l0) x)(m:s=t->tD y x):tD ((f.set t y).getD s l0) x:=by
 by_cases e:s=t
 ·subst e
  by_cases j:s<f.length
  ·rw [aH _ _ _ _ j];exact m rfl
  ·rw [eG _ _ (Nat.le_of_not_lt j)];exact h
 ·rw [getD_set_ne _ _ _ e];exact h
theorem iL.gone {c:Dc} (h:Ok c)(hm:iL c) {m:Nat} {u:Us} (z:m<c.fr.length)(h2:c.fr.getD m none=some u)(v:Int):iL (c.gone m u v):=by
 refine⟨λx f=>?_,λn w k1 k2=>?_⟩
 ·have f:x∈oV c.pt ((m+1:Nat):Int):=f;unfold oV at f;rw [h.pt,zct] at f;obtain⟨f,j⟩:=List.mem_filter.1 f;obtain⟨n,w,a,b,d⟩:=hm.pgs x f;have e:n≠m:=λe=>by unfold pX at j;rw [b,e] at j;simp at j
  exact⟨n,w,by show n< (c.fr.set m none).length;rw [zD];exact a,b,(getD_set_ne _ _ _ e).trans d⟩
 ·have k2:(c.fr.set m none).getD n none=some w:=k2;have k1:n<c.fr.length:=by have :(c.gone m u v).fr.length=c.fr.length:=zD ..;omega
  by_cases e:n=m
  ·subst e;rw [aH _ _ _ _ z] at k2;cases k2
  ·rw [getD_set_ne _ _ _ e] at k2;have k:=hm.lst n w k1 k2;refine aLJ k λes=>bDB ?_ (by omega);rw [<-es];exact k
theorem iL.acc {c:Dc} (hm:iL c)(m t:Nat):iL (c.acc m t):= ⟨hm.pgs,λn w k1 k2=>by have k:=hm.lst n w k1 k2;exact aLJ k λes=>bDC (by rw [<-es];exact k)⟩
theorem aZ2 {c:Dc} (h:Ok c)(hm:iL c) {f p t:Nat} (B:Int)(C:Bool)(N:f<c.fl.length)(F:t<c.gr.length):iL (fI c f p t B C).1:=by
 unfold fI
 by_cases e1:0< ((c.fl.getD f aZ).E p).1
 ·rw [zdt e1];exact hm
 rw [zdf e1,zcf]
 cases M:((eY c.gr t).2==0) with
 |false=>exact hm
 |true=>
  rw [zct]
  cases D:((bZ c.zo c.zo B C).2.2==0) with
  |false=>exact hm
  |true=>
   rw [zct];obtain⟨m,H,J,K⟩:=take_at h (eq_of_beq D);rw [J,show(((m+1:Nat):Int)-1).toNat=m by omega];have j:t<c.ls.length:=by rw [h.nl];exact F
   have z:cI ((m+1:Nat):Int)=true:=(nL _).2 (by have :=h.nr;omega);refine⟨λx G=>?_,λn w k1 k2=>?_⟩
   ·obtain⟨n,w,a,b,d⟩:=hm.pgs x G;have e:n≠m:=λe=>by rw [e,K] at d;cases d
    exact⟨n,w,by show n< (c.fr.set m _).length;rw [zD];exact a,b,(getD_set_ne _ _ _ e).trans d⟩
   ·have k2:(c.fr.set m (some (aD7 c f p t))).getD n none=some w:=k2;have k1:n< (c.fr.set m (some (aD7 c f p t))).length:=k1;rw [zD] at k1;show tD ((c.ls.set t (tC (c.ls.getD t l0) ((m+1:Nat):Int) (aQY c f p t)).1).getD w.ten l0) _
    by_cases e:n=m
    ·subst e;rw [aH _ _ _ _ H,zse] at k2;subst k2;show tD ((c.ls.set t _).getD t l0) _;rw [aH _ _ _ _ j];exact aZ0 _ (h.ls t j) z
    ·rw [getD_set_ne _ _ _ e] at k2;have k:=hm.lst n w k1 k2;exact aLJ k λes=>bDA (by rw [<-es];exact k)
theorem aOC {c:Dc} (h:Ok c)(hm:iL c)(f p t j:Int)(m:Bool):iL (jI c f p t j m).1:=by
 unfold jI inI
 by_cases e:(0<=f/\f< (c.fl.length:Int))/\(0<=p/\p<8)/\(0<=t/\t< (c.gr.length:Int))/\0<=j/\j< (c.zo.length:Int)
 ·rw [zdt e];exact aZ2 h hm j m (by omega) (by omega)
 ·rw [zdf e];exact hm
theorem aTV {c:Dc} (h:Ok c)(hm:iL c)(n k:Int):iL (rbG c n k).1:=by
 unfold rbG;rcases cE c n with ⟨e,j⟩| ⟨m,u,e,rfl,f,h2⟩
 ·rw [e];exact hm
 ·rw [e];dsimp only
  cases decide ((1<=k/\k<=3)/\k.toNat &&& (u.p.v ||| u.rd)=0) with
  |true=>exact hm.put h f h2 rfl
  |false=>exact hm
theorem aU1 {c:Dc} (h:Ok c)(hm:iL c)(n:Int)(d:ByteArray)(ok:Bool):iL (reG c n d ok).1:=by
 unfold reG;rcases cE c n with ⟨e,j⟩| ⟨m,u,e,rfl,f,h2⟩
 ·rw [e];exact hm
 ·rw [e];dsimp only;unfold aC8
  cases(u.rd==0) with
  |true=>exact hm
  |false=>
   cases(ok&&decide (d.size≠16)) with
   |true=>exact hm
   |false=>exact hm.put h f h2 rfl
theorem aPC {d:Dc} (h:Ok d)(hm:iL d)(f:Nat)(p n:Int):iL (aM4 d f p n):=by
 unfold aM4;split
 ·exact hm
 ·rename_i m u e
  cases(!(mW false 3 (u.p.v ||| u.rd)==0)&&u.rd==0) with
  |false=>exact hm
  |true=>exact aU1 (aI4 h _ _) (aTV h hm _ _) _ _ _
theorem aPB {c:Dc} (h:Ok c)(hm:iL c)(f:Nat)(ps:List Int):∀k,iL (aDN c f ps k)
 |0=>hm
 |k+1=>by
  have e:=aPB h hm f ps k;have o:=(aC5 h f ps k).1;rw [aDN];generalize aDN c f ps k=d at *;unfold aRJ;split
  ·exact aPC o e _ _ _
  ·cases((jI d f (ps.getD k 0) 0 ((d.zo.length:Int)-1) true).2.2==0) with
   |false=>exact e
   |true=>exact aPC (aBK o _ _ _ _ _) (aOC o e _ _ _ _ _) _ _ _
theorem aPQ {c:Dc} (h:Ok c)(hm:iL c) {f:Nat} (e:Int)(j:f<c.fl.length):iL (dL c f e).1:=by
 unfold dL;split
 ·exact hm
 ·split
  ·exact hm
  ·rename_i m u z;obtain⟨q1,q2,B,C,D⟩:=dH h j z
   cases(mW false _ u.p.v==0) with
   |true=>exact hm.put h q1 q2 rfl
   |false=>exact hm
theorem aUW {c:Dc} (h:Ok c)(hm:iL c) {f off:Nat} {s:ByteArray} (e:f<c.fl.length)(z:off+s.size<=128):∀k,k<=cnt off s.size->iL (wrL c f off s k)
 |0,_=>hm
 |k+1,F=>by
  have B:=aUW h hm e z k (by omega);obtain⟨C,E,G⟩:=aE0 h e z k (by omega);rw [wrL];split
  ·rename_i m u D;have j:f< (wrL c f off s k).fl.length:=by rw [E];exact e
   obtain⟨q1,q2,H,J,K⟩:=dH C j D;refine iL.acc (iL.put C B q1 q2 ?_) _ _;rfl
  ·exact B
theorem bBW {c:Dc} (h:Ok c)(hm:iL c)(f off:Int)(s:ByteArray):iL (aAC c f off s).1:=by
 unfold aAC
 cases E:qN c f off s.size with
 |false=>exact hm
 |true=>
  obtain⟨f,off,n,rfl,rfl,e,z,m⟩:=lE E;have m:off+s.size<=128:=by omega
  rw [zct,zE,zE];unfold aCK
  cases(s.size==0) with
  |true=>exact hm
  |false=>
   rw [zcf];obtain⟨D,F,H,J⟩:=vY h ((off+s.size:Nat):Int) z;have B:=aPQ h hm ((off+s.size:Nat):Int) z;have j:f< (dL c f ((off+s.size:Nat):Int)).1.fl.length:=by rw [F];exact z
   obtain⟨K,G,M⟩:=aE0 D (s:=s) (off:=off) j m _ (zH _);have C:=aUW D B (s:=s) (off:=off) j m _ (zH _)
   cases lQ c f off s.size true (cnt off s.size) with
   |none=>exact hm
   |some L=>
    dsimp only
    cases((dL c f ((off+s.size:Nat):Int)).2==4) with
    |true=>exact hm
    |false=>
     rw [zcf]
     cases(L.isEmpty&&(dL c f ((off+s.size:Nat):Int)).2==0) with
     |false=>exact hm
     |true=>exact C.fl1 (by rw [G];exact j) rfl
theorem bCG {c:Dc} (h:Ok c)(hm:iL c)(n:Int):iL (bgG c n).1:=by
 unfold bgG;rcases cE c n with ⟨e,C⟩| ⟨m,u,e,rfl,j,h2⟩
 ·rw [e];exact hm
 ·rw [e];dsimp only
  cases(u.wr==0) with
  |false=>exact hm
  |true=>
   cases(u.p.d==0) with
   |true=>exact hm
   |false=> have f:=iL.put h hm j h2 (u':=aXS u (nT c u)) rfl;refine iL.pts f λx z=>?_;obtain⟨y,B,rfl⟩:=List.mem_map.1 z;rw [bDZ];exact f.pgs y B
theorem bCS {c:Dc} (h:Ok c)(hm:iL c)(n e:Int):iL (enG c n e).1:=by
 unfold enG;rcases cE c n with ⟨x,B⟩| ⟨m,u,x,rfl,f,h2⟩
 ·rw [x];exact hm
 ·rw [x];dsimp only;have B:=h.use m u f h2
  cases(u.wr==0) with
  |true=>exact hm
  |false=>
   rw [zcf];have z:=hm.put h f h2 (u':=aCX u e) rfl;have j:u.file< (c.put m (aCX u e)).fl.length:=by rw [vV];exact B.file
   unfold aQS
   cases(e==0) with
   |true=>exact z.fl1 j rfl
   |false=>exact z.fl1 j rfl
theorem bD0 {c:Dc} (h:Ok c)(hm:iL c)(n:Int):iL (evG c n).1:=by
 unfold evG;rcases cE c n with ⟨e,j⟩| ⟨m,u,e,rfl,f,h2⟩
 ·rw [e];exact hm
 ·rw [e];dsimp only
  cases(iJ u&&decide (u.p.d=0)) with
  |false=>exact hm
  |true=>exact(hm.gone h f h2 (0- (c.ck.getD u.ten 0+1))).keep rfl rfl rfl
theorem aYX {c:Dc} (h:Ok c)(hm:iL c)(n k:Int):iL (aF9 c n k).1:=by
 unfold aF9;rcases cE c n with ⟨e,j⟩| ⟨m,u,e,rfl,f,h2⟩
 ·rw [e];exact hm
 ·rw [e];dsimp only
  cases decide ((-255<=k/\k<=255)/\0<=(u.holds:Int)+k/\(u.holds:Int)+k<=255) with
  |false=>exact hm
  |true=>exact hm.put h f h2 rfl
theorem bBP {c:Dc} (h:Ok c)(hm:iL c) {f off n p:Nat} (e:f<c.fl.length):iL (aFF c f off n p):=by
 unfold aFF
 cases isW c f off n p with
 |true=>
  rw [zct]
  cases j:jP c f p with
  |none=> have k:=hm.e0 h e j;exact k.fl1 (by show f< (c.fl.set f _).length;rw [zD];exact e) rfl
  |some x=> obtain⟨m,u⟩:=x;obtain⟨q1,q2,z,B,C⟩:=dH h e j;have k:=hm.gone h q1 q2 0;exact k.fl1 (by show f< (c.fl.set u.file _).length;rw [zD];exact e) rfl
 |false=>
  rw [zcf]
  cases j:jP c f p with
  |none=>exact hm
  |some x=> obtain⟨m,u⟩:=x;obtain⟨q1,q2,z,B,C⟩:=dH h e j;exact hm.put h q1 q2 rfl
theorem aIM {c:Dc} (h:Ok c)(hm:iL c) {f off n:Nat} (e:f<c.fl.length)(j:off+n<=128):∀k,k<=cnt off n->iL (aAB c f off n k)
 |0,_=>hm
 |k+1,C=>by have m:=aIM h hm e j k (by omega);obtain⟨z,B,D,E⟩:=sP h e j k (by omega);exact bBP z m (by rw [B];exact e)
theorem bAM {c:Dc} (h:Ok c)(hm:iL c)(f off n:Int):iL (aDM c f off n).1:=by
 unfold aDM
 cases j:qN c f off n with
 |false=>exact hm
 |true=>
  obtain⟨f,off,n,rfl,rfl,rfl,e,z⟩:=lE j;rw [zct];simp only [zE];have m:iA c f off n<=n:=by unfold iA;omega
  unfold aWD
  cases(gY c f off (iA c f off n) (cnt off (iA c f off n))).2.2 with
  |false=>exact hm
  |true=>exact aIM h hm e (by omega) _ (zH _)
theorem bBH {c:Dc} (h:Ok c)(hm:iL c)(f z:Int):iL (uY c f z).1:=by
 unfold uY
 cases D:qN c f z 0 with
 |false=>exact hm
 |true=>
  obtain⟨f,z,n,rfl,rfl,-,j,H⟩:=lE D;rw [zct];simp only [zE];obtain⟨C,G,J,K⟩:=vY h (z:Int) j;have m:=aPQ h hm (z:Int) j;have e:f< (dL c f (z:Int)).1.fl.length:=by rw [G];exact j
  have E:iA (dL c f (z:Int)).1 f z (128-z)<=128-z:=by unfold iA;omega
  have B:=aIM C m (off:=z) (n:=iA (dL c f (z:Int)).1 f z (128-z)) e (by omega) _ (zH _);have F:=sP C (f:=f) (off:=z) (n:=iA (dL c f (z:Int)).1 f z (128-z)) e (by omega) _ (zH _);unfold aX5
  cases((dL c f (z:Int)).2==0) with
  |false=>exact hm
  |true=>
   rw [zct]
   cases(gY c f z (iA c f z (128-z)) (cnt z (iA c f z (128-z)))).2.2 with
   |false=>exact hm
   |true=>exact B.fl1 (by rw [F.2.1];exact e) rfl
theorem aY9 {c:Dc} (h:Ok c)(hm:iL c)(C B f a:Int)(w:Bool):iL (aCY c C B f a w).1:=by
 unfold aCY inE
 by_cases e:(0<=f/\f< (c.fl.length:Int))/\(0<=C/\C<8)/\(0<=B/\B<64)/\0<=a/\a<8
 ·rw [zdt e,zct];unfold aVM
  cases decide ((c.fl.getD f.toNat aZ).size<=a.toNat*16) with
  |true=>exact hm
  |false=>
   rw [zcf];split
   ·exact hm
   ·rename_i m u D;obtain⟨q1,q2,F,G,H⟩:=dH h (by omega) D;have E:=h.use m u q1 q2
    cases(decide (u.p.v≠3)||(w&&decide (u.wr≠0))) with
    |true=>exact hm
    |false=>
     have z:=iL.acc (iL.put h hm q1 q2 (aL8 E.pg w).1) m u.ten;refine iL.pts z λx j=>?_;rw [aSN h.pt (aRO h e.2.1 e.2.2.1 q1 w)] at j;unfold aYB at j;rw [List.mem_append,List.mem_cons] at j;rcases j with j |rfl |j
     ·exact z.pgs x (List.mem_filter.1 j).1
     ·exact⟨m,aB9 u w,by show m< (c.put m (aB9 u w)).fr.length;rw [vW];exact q1,rfl,by show(c.fr.set m (some (aB9 u w))).getD m none=_;rw [aH _ _ _ _ q1]⟩
     ·exact z.pgs x (List.mem_filter.1 j).1
 ·rw [zdf e];exact hm
theorem pS.okP {c d:Dc} (k:pS c d):Ok c->iL c->iL d:=by
 induction k with
 |refl c=>exact λ_ h=>h
 |trans h k B C=>exact λo m=>C (h.sh o).1 (B o m)
 |ins c f p t D H=>exact λh m=>aOC h m _ _ _ _ _
 |rdy c f G k=>exact λh m=>aPB h m _ _ _
 |wrt c f j s=>exact λh m=>bBW h m _ _ _
 |bg c n=>exact λh m=>bCG h m _
 |en c n e=>exact λh m=>bCS h m _ _
 |rb c n k=>exact λh m=>aTV h m _ _
 |re c n d ok=>exact λh m=>aU1 h m _ _ _
 |ev c n=>exact λh m=>bD0 h m _
 |hol c n k=>exact λh m=>aYX h m _ _
 |trn c f z=>exact λh m=>bBH h m _ _
 |pun c f j n=>exact λh m=>bAM h m _ _ _
 |ent c F E f a w=>exact λh m=>aY9 h m _ _ _ _ _
theorem bIK(z:List Zn)(g:List Gr):iL (c0 z g):=by refine⟨λx e=>absurd e List.not_mem_nil,λm u f h2=>?_⟩;have h2:(List.replicate (szF z).toNat (none:Option Us)).getD m none=some u:=h2;rw [zA,List.getElem?_replicate] at h2;split at h2 <;> cases h2
theorem Drw.okP {c:Dc} (h:Drw c):iL c:=by obtain⟨z,g,f,hg,-,-,-,j,e⟩:=h;exact e.okP (aSF f hg) (bIK z g)
end Go.Proofs.YtmhapcbjjpadnaaGreat
