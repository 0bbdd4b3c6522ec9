/- Caches. -/
import Derived.Test.YtmhapcbjjpadnaaGreatGKb
import Derived.Test.YtmhapcbjjpadnaaGreatGNb
import Derived.Test.YtmhapcbjjpadnaaGreatG9b
import Derived.Test.YtmhapcbjjpadnaaGreatGBb
import Derived.Test.YtmhapcbjjpadnaaGreatG2b
set_option linter.all false
set_option maxHeartbeats 8000000
set_option maxRecDepth 40000
open Int renaming toNat_natCast→zA
open List renaming length_set→zC
open Nat renaming le_refl→zD,zero_le→zE
namespace Go.Proofs.YtmhapcbjjpadnaaGreat
open Go Go.Sk Go.RowKit
def mkN(u:Us):Nat:=(bif u.p.d != 0 then 1 else 0)+(bif u.wr != 0 then 2 else 0)
def fZ(c:Dc):Prop:=∀m u,m<c.fr.length->c.fr.getD m none=some u->((c.fl.getD u.file aP).E u.page).2=mkN u
theorem aP3 {E:cM} {i m:Nat} {on:Bool} {j:Nat} (h:j≠i):jM E i on m j=E j:=by
 unfold jM;rw [cT h]
theorem sE {E:cM} {u:Us} {j:Nat} (h:j≠u.page):mE E u j=E j:=by unfold mE;rw [aP3 h,aP3 h]
theorem aP1 {E:cM} {u v:Us} (h:(E u.page).2=mkN v):(mE E u u.page).2=mkN u:=by
 unfold mE
 generalize u.page=p at *
 have e:∀(E:cM) (on:Bool) (m:Nat),(jM E p on m p).2=(bif on then(E p).2 ||| m else jC false (E p).2 m):=λE on m=>by
  unfold jM
  rw [dH]
  cases on <;> rfl
 rw [e,e,h]
 unfold mkN
 cases(u.p.d != 0)<;> cases(u.wr != 0)<;> cases(v.p.d != 0)<;> cases(v.wr != 0)<;> rfl
theorem fZ.keep {c d:Dc} (hm:fZ c)(hfr:d.fr=c.fr)(hE:∀f p,((d.fl.getD f aP).E p).2=((c.fl.getD f aP).E p).2):fZ d:=λm u h1 h2=>by
 rw [hfr] at h1 h2
 rw [hE];exact hm m u h1 h2
theorem fZ.put {c:Dc} (h:Ok c)(hm:fZ c) {m:Nat} {u u':Us} (h1:m<c.fr.length)(h2:c.fr.getD m none=some u)(hk:iF u'=iF u):fZ (c.put m u'):=λn w k1 k2=>by
 have hu:=h.use m u h1 h2
 have hM:=hm m u h1 h2
 simp only [iF,Prod.mk.injEq] at hk
 obtain⟨e1,e2,e3⟩:=hk
 have hl:u'.file<c.fl.length:=by rw [e1];exact hu.file
 have k2:(c.fr.set m (some u')).getD n none=some w:=k2
 have k1:n<c.fr.length:=by rw [tJ] at k1;exact k1
 show(((c.fl.set u'.file (eP (c.fl.getD u'.file aP) (mE (c.fl.getD u'.file aP).E u'))).getD w.file aP).E w.page).2=mkN w
 by_cases e:n=m
 ·subst e
  rw [aJ _ _ _ _ h1] at k2
  injection k2 with k2
  subst k2
  rw [aJ _ _ _ _ hl,fO]
  exact aP1 (v:=u) (by rw [e1,e2];exact hM)
 ·rw [getD_set_ne _ _ _ e] at k2
  have hw:=h.use n w k1 k2
  by_cases x:w.file=u'.file
  ·rw [x,aJ _ _ _ _ hl,fO,sE,<-x]
   ·exact hm n w k1 k2
   ·intro y
    have a:=hw.val
    have b:=hu.val
    rw [x,y,e1,e2,b] at a
    omega
  ·rw [getD_set_ne _ _ _ x]
   exact hm n w k1 k2
theorem fZ.gone {c:Dc} (h:Ok c)(hm:fZ c) {m:Nat} {u:Us} (h1:m<c.fr.length)(h2:c.fr.getD m none=some u)(v:Int):fZ (c.gone m u v):=λn w k1 k2=>by
 have hu:=h.use m u h1 h2
 have k2:(c.fr.set m none).getD n none=some w:=k2
 have k1:n<c.fr.length:=by
  have :(c.gone m u v).fr.length=c.fr.length:=zC ..
  omega
 show(((c.fl.set u.file (eP (c.fl.getD u.file aP) (cI (c.fl.getD u.file aP).E u.page (v,0)))).getD w.file aP).E w.page).2=mkN w
 by_cases e:n=m
 ·subst e
  rw [aJ _ _ _ _ h1] at k2;cases k2
 ·rw [getD_set_ne _ _ _ e] at k2
  have hw:=h.use n w k1 k2
  by_cases x:w.file=u.file
  ·rw [x,aJ _ _ _ _ hu.file,fO,cT,<-x]
   ·exact hm n w k1 k2
   ·intro y
    have a:=hw.val
    have b:=hu.val
    rw [x,y,b] at a
    omega
  ·rw [getD_set_ne _ _ _ x]
   exact hm n w k1 k2
theorem fZ.ins {c:Dc} (h:Ok c)(hm:fZ c) {f p t m:Nat} {z:List Zn} {g:List Gr} (hf:f<c.fl.length)(hE:((c.fl.getD f aP).E p).1<=0)(h1:m<c.fr.length):fZ (c.ins f p t z g m):=λn w k1 k2=>by
 have k2:(c.fr.set m (some (vL c f p t))).getD n none=some w:=k2
 have k1:n<c.fr.length:=by
  have :(c.ins f p t z g m).fr.length=c.fr.length:=zC ..
  omega
 show(((c.fl.set f (eP (c.fl.getD f aP) (cI (c.fl.getD f aP).E p (((m+1:Nat):Int),0)))).getD w.file aP).E w.page).2=mkN w
 by_cases e:n=m
 ·subst e
  rw [aJ _ _ _ _ h1] at k2
  injection k2 with k2
  subst k2
  show(((c.fl.set f (eP (c.fl.getD f aP) (cI (c.fl.getD f aP).E p (((n+1:Nat):Int),0)))).getD f aP).E p).2=_
  rw [aJ _ _ _ _ hf,fO,dH]
  unfold mkN vL aKT
  cases lZ (c.fl.getD f aP).blocks p <;> rfl
 ·rw [getD_set_ne _ _ _ e] at k2
  have hw:=h.use n w k1 k2
  by_cases x:w.file=f
  ·rw [x,aJ _ _ _ _ hf,fO,cT,<-x]
   ·exact hm n w k1 k2
   ·intro y
    have a:=hw.val
    rw [x,y] at a
    omega
  ·rw [getD_set_ne _ _ _ x]
   exact hm n w k1 k2
theorem fZ.fl1 {c:Dc} (hm:fZ c) {f:Nat} {x:Df} (hf:f<c.fl.length)(hE:x.E=(c.fl.getD f aP).E):fZ ⟨c.fl.set f x,c.fr,c.zo,c.gr,c.ls,c.ck,c.pt⟩:=hm.keep rfl λg p=>by
 show(((c.fl.set f x).getD g aP).E p).2=_
 by_cases e:g=f
 ·subst e;rw [aJ _ _ _ _ hf,hE]
 ·rw [getD_set_ne _ _ _ e]
theorem fZ.e0 {c:Dc} (h:Ok c)(hm:fZ c) {f p:Nat} (hf:f<c.fl.length)(hn:eA c f p=none):fZ (c.e0 f p):=λn w k1 k2=>by
 have hz:=vX h hf hn
 have hw:=h.use n w k1 k2
 show(((c.fl.set f (eP (c.fl.getD f aP) (cI (c.fl.getD f aP).E p (0,0)))).getD w.file aP).E w.page).2=mkN w
 by_cases x:w.file=f
 ·rw [x,aJ _ _ _ _ hf,fO,cT,<-x]
  ·exact hm n w k1 k2
  ·intro y
   have a:=hw.val
   rw [x,y] at a
   omega
 ·rw [getD_set_ne _ _ _ x]
  exact hm n w k1 k2
theorem bCY(z:List Zn)(g:List Gr):fZ (c0 z g):=λm u h1 h2=>by
 have :(c0 z g).fr.getD m none=none:=by
  show(List.replicate _ none).getD m none=none
  rw [List.getD_eq_getElem?_getD,List.getElem?_replicate]
  split <;> rfl
 rw [this] at h2;cases h2
end Go.Proofs.YtmhapcbjjpadnaaGreat
namespace Go.Proofs.YtmhapcbjjpadnaaGreat
open Go Go.Sk Go.RowKit
theorem fZ.acc {c:Dc} (hm:fZ c)(m t:Nat):fZ (c.acc m t):=hm.keep rfl λ_ _=>rfl
theorem fZ.pts {c:Dc} (hm:fZ c)(l:List Pt):fZ (c.pts l):=hm.keep rfl λ_ _=>rfl
theorem aTY {c:Dc} (h:Ok c)(hm:fZ c) {f p t:Nat} (pf:Int)(ur:Bool)(hf:f<c.fl.length):fZ (eU c f p t pf ur).1:=by
 unfold eU
 by_cases e1:0< ((c.fl.getD f aP).E p).1
 ·rw [decide_eq_true e1];exact hm
 rw [decide_eq_false e1,cond_false]
 cases e2:((cK c.gr t).2==0) with
 |false=>exact hm
 |true=>
  rw [cond_true]
  cases e3:((cJ c.zo c.zo pf ur).2.2==0) with
  |false=>exact hm
  |true=>
   obtain⟨m,m1,m2,m3⟩:=take_at h (eq_of_beq e3)
   rw [cond_true]
   dsimp only
   rw [m2,show(((m+1:Nat):Int)-1).toNat=m by omega]
   exact hm.ins h hf (by omega) m1
theorem aKF {c:Dc} (h:Ok c)(hm:fZ c)(f p t pf:Int)(ur:Bool):fZ (iZ c f p t pf ur).1:=by
 unfold iZ inI
 by_cases e:(0<=f/\f< (c.fl.length:Int))/\(0<=p/\p<8)/\(0<=t/\t< (c.gr.length:Int))/\0<=pf/\pf< (c.zo.length:Int)
 ·rw [decide_eq_true e];exact aTY h hm pf ur (by omega)
 ·rw [decide_eq_false e];exact hm
theorem aPM {c:Dc} (h:Ok c)(hm:fZ c)(n k:Int):fZ (rbG c n k).1:=by
 unfold rbG
 rcases cN c n with ⟨e,hu⟩| ⟨m,u,e,rfl,h1,h2⟩
 ·rw [e];exact hm
 ·rw [e]
  dsimp only
  cases decide ((1<=k/\k<=3)/\k.toNat &&& (u.p.v ||| u.rd)=0) with
  |true=>exact hm.put h h1 h2 rfl
  |false=>exact hm
theorem aPT {c:Dc} (h:Ok c)(hm:fZ c)(n:Int)(d:ByteArray)(ok:Bool):fZ (reG c n d ok).1:=by
 unfold reG
 rcases cN c n with ⟨e,hu⟩| ⟨m,u,e,rfl,h1,h2⟩
 ·rw [e];exact hm
 ·rw [e]
  dsimp only
  unfold aA1
  cases(u.rd==0) with
  |true=>exact hm
  |false=>
   cases(ok&&decide (d.size≠16)) with
   |true=>exact hm
   |false=>exact hm.put h h1 h2 rfl
theorem aL7 {d:Dc} (h:Ok d)(hm:fZ d)(f:Nat)(p n:Int):fZ (aII d f p n):=by
 unfold aII
 split
 ·exact hm
 ·rename_i m u e
  cases(!(jC false 3 (u.p.v ||| u.rd)==0)&&u.rd==0) with
  |false=>exact hm
  |true=>exact aPT (aEX h _ _) (aPM h hm _ _) _ _ _
theorem aEY {c:Dc} (h:Ok c)(hm:fZ c)(f:Nat)(ps:List Int):∀k,fZ (aA0 c f ps k)
 |0=>hm
 |k+1=>by
  have ih:=aEY h hm f ps k
  have o:=(tK h f ps k).1
  rw [aA0]
  generalize aA0 c f ps k=d at *
  unfold aNR
  split
  ·exact aL7 o ih _ _ _
  ·cases((iZ d f (ps.getD k 0) 0 ((d.zo.length:Int)-1) true).2.2==0) with
   |false=>exact ih
   |true=>exact aL7 (aD2 o _ _ _ _ _) (aKF o ih _ _ _ _ _) _ _ _
theorem aLM {c:Dc} (h:Ok c)(hm:fZ c) {f:Nat} (e:Int)(hf:f<c.fl.length):fZ (cB c f e).1:=by
 unfold cB
 split
 ·exact hm
 ·split
  ·exact hm
  ·rename_i m u hp
   obtain⟨q1,q2,q3,q4,q5⟩:=bM h hf hp
   cases(jC false _ u.p.v==0) with
   |true=>exact hm.put h q1 q2 rfl
   |false=>exact hm
theorem aJ1 {c:Dc} (h:Ok c)(hm:fZ c) {f off:Nat} {s:ByteArray} (hf:f<c.fl.length)(hb:off+s.size<=128):∀k,k<=cnt off s.size->fZ (kI c f off s k)
 |0,_=>hm
 |k+1,hk=>by
  have ih:=aJ1 h hm hf hb k (by omega)
  obtain⟨o1,o2,o3⟩:=qV h hf hb k (by omega)
  rw [kI]
  split
  ·rename_i m u hp
   have hf1:f< (kI c f off s k).fl.length:=by rw [o2];exact hf
   obtain⟨q1,q2,q3,q4,q5⟩:=bM o1 hf1 hp
   refine fZ.acc (fZ.put o1 ih q1 q2 ?_) _ _
   rfl
  ·exact ih
theorem aWW {c:Dc} (h:Ok c)(hm:fZ c)(f off:Int)(s:ByteArray):fZ (aBL c f off s).1:=by
 unfold aBL
 cases hr:eX c f off s.size with
 |false=>exact hm
 |true=>
  obtain⟨f,off,n,rfl,rfl,e,hf,hb⟩:=dU hr
  have hb:off+s.size<=128:=by omega
  rw [cond_true,zA,zA]
  unfold jS
  cases(s.size==0) with
  |true=>exact hm
  |false=>
   rw [cond_false]
   obtain⟨o1,o2,o3,o4⟩:=qU h ((off+s.size:Nat):Int) hf
   have hm1:=aLM h hm ((off+s.size:Nat):Int) hf
   have hf1:f< (cB c f ((off+s.size:Nat):Int)).1.fl.length:=by rw [o2];exact hf
   obtain⟨w1,w2,w3⟩:=qV o1 (s:=s) (off:=off) hf1 hb _ (zD _)
   have hm2:=aJ1 o1 hm1 (s:=s) (off:=off) hf1 hb _ (zD _)
   cases eR c f off s.size true (cnt off s.size) with
   |none=>exact hm
   |some L=>
    dsimp only
    cases((cB c f ((off+s.size:Nat):Int)).2==4) with
    |true=>exact hm
    |false=>
     rw [cond_false]
     cases(L.isEmpty&&(cB c f ((off+s.size:Nat):Int)).2==0) with
     |false=>exact hm
     |true=>exact hm2.fl1 (by rw [w2];exact hf1) rfl
theorem aXM {c:Dc} (h:Ok c)(hm:fZ c)(n:Int):fZ (bgG c n).1:=by
 unfold bgG
 rcases cN c n with ⟨e,hu⟩| ⟨m,u,e,rfl,h1,h2⟩
 ·rw [e];exact hm
 ·rw [e]
  dsimp only
  cases(u.wr==0) with
  |false=>exact hm
  |true=>
   cases(u.p.d==0) with
   |true=>exact hm
   |false=>exact fZ.pts (fZ.put h hm h1 h2 (u':=aSZ u (lS c u)) rfl) _
theorem aXX {c:Dc} (h:Ok c)(hm:fZ c)(n e:Int):fZ (enG c n e).1:=by
 unfold enG
 rcases cN c n with ⟨x,hu⟩| ⟨m,u,x,rfl,h1,h2⟩
 ·rw [x];exact hm
 ·rw [x]
  dsimp only
  have hu:=h.use m u h1 h2
  cases(u.wr==0) with
  |true=>exact hm
  |false=>
   rw [cond_false]
   have hp:=hm.put h h1 h2 (u':=aAL u e) rfl
   have hl:u.file< (c.put m (aAL u e)).fl.length:=by rw [nP];exact hu.file
   unfold aMY
   cases(e==0) with
   |true=>exact hp.fl1 hl rfl
   |false=>exact hp.fl1 hl rfl
theorem aY8 {c:Dc} (h:Ok c)(hm:fZ c)(n:Int):fZ (evG c n).1:=by
 unfold evG
 rcases cN c n with ⟨e,hu⟩| ⟨m,u,e,rfl,h1,h2⟩
 ·rw [e];exact hm
 ·rw [e]
  dsimp only
  cases(mA u&&decide (u.p.d=0)) with
  |false=>exact hm
  |true=>exact(hm.gone h h1 h2 (0- (c.ck.getD u.ten 0+1))).keep rfl λ_ _=>rfl
theorem aTU {c:Dc} (h:Ok c)(hm:fZ c)(n k:Int):fZ (aCM c n k).1:=by
 unfold aCM
 rcases cN c n with ⟨e,hu⟩| ⟨m,u,e,rfl,h1,h2⟩
 ·rw [e];exact hm
 ·rw [e]
  dsimp only
  cases decide ((-255<=k/\k<=255)/\0<=(u.holds:Int)+k/\(u.holds:Int)+k<=255) with
  |false=>exact hm
  |true=>exact hm.put h h1 h2 rfl
theorem aWK {c:Dc} (h:Ok c)(hm:fZ c) {f off n p:Nat} (hf:f<c.fl.length):fZ (aA8 c f off n p):=by
 unfold aA8
 cases oZ c f off n p with
 |true=>
  rw [cond_true]
  cases hp:eA c f p with
  |none=>
   have k:=hm.e0 h hf hp
   exact k.fl1 (by show f< (c.fl.set f _).length;rw [zC];exact hf) rfl
  |some x=>
   obtain⟨m,u⟩:=x
   obtain⟨q1,q2,q3,q4,q5⟩:=bM h hf hp
   have k:=hm.gone h q1 q2 0
   exact k.fl1 (by show f< (c.fl.set u.file _).length;rw [zC];exact hf) rfl
 |false=>
  rw [cond_false]
  cases hp:eA c f p with
  |none=>exact hm
  |some x=>
   obtain⟨m,u⟩:=x
   obtain⟨q1,q2,q3,q4,q5⟩:=bM h hf hp
   exact hm.put h q1 q2 rfl
theorem aFA {c:Dc} (h:Ok c)(hm:fZ c) {f off n:Nat} (hf:f<c.fl.length)(hb:off+n<=128):∀k,k<=cnt off n->fZ (sS c f off n k)
 |0,_=>hm
 |k+1,hk=>by
  have ih:=aFA h hm hf hb k (by omega)
  obtain⟨o1,o2,o3,o4⟩:=lK h hf hb k (by omega)
  exact aWK o1 ih (by rw [o2];exact hf)
theorem aVM {c:Dc} (h:Ok c)(hm:fZ c)(f off n:Int):fZ (vZ c f off n).1:=by
 unfold vZ
 cases hr:eX c f off n with
 |false=>exact hm
 |true=>
  obtain⟨f,off,n,rfl,rfl,rfl,hf,hb⟩:=dU hr
  rw [cond_true]
  simp only [zA]
  have hrd:bS c f off n<=n:=by unfold bS;omega
  unfold aNN
  cases(cW c f off (bS c f off n) (cnt off (bS c f off n))).2.2 with
  |false=>exact hm
  |true=>exact aFA h hm hf (by omega) _ (zD _)
theorem aWC {c:Dc} (h:Ok c)(hm:fZ c)(f z:Int):fZ (rG c f z).1:=by
 unfold rG
 cases hr:eX c f z 0 with
 |false=>exact hm
 |true=>
  obtain⟨f,z,n,rfl,rfl,-,hf,hb⟩:=dU hr
  rw [cond_true]
  simp only [zA]
  obtain⟨o1,o2,o3,o4⟩:=qU h (z:Int) hf
  have hm1:=aLM h hm (z:Int) hf
  have hf1:f< (cB c f (z:Int)).1.fl.length:=by rw [o2];exact hf
  have hrd:bS (cB c f (z:Int)).1 f z (128-z)<=128-z:=by unfold bS;omega
  have hm2:=aFA o1 hm1 (off:=z) (n:=bS (cB c f (z:Int)).1 f z (128-z)) hf1 (by omega) _ (zD _)
  have hw:=lK o1 (f:=f) (off:=z) (n:=bS (cB c f (z:Int)).1 f z (128-z)) hf1 (by omega) _ (zD _)
  unfold aO2
  cases((cB c f (z:Int)).2==0) with
  |false=>exact hm
  |true=>
   rw [cond_true]
   cases(cW c f z (bS c f z (128-z)) (cnt z (bS c f z (128-z)))).2.2 with
   |false=>exact hm
   |true=>exact hm2.fl1 (by rw [hw.2.1];exact hf1) rfl
theorem aTG {c:Dc} (h:Ok c)(hm:fZ c)(pr pg f a:Int)(w:Bool):fZ (aAM c pr pg f a w).1:=by
 unfold aAM inE
 by_cases e:(0<=f/\f< (c.fl.length:Int))/\(0<=pr/\pr<8)/\(0<=pg/\pg<64)/\0<=a/\a<8
 ·rw [decide_eq_true e,cond_true]
  unfold aR4
  cases decide ((c.fl.getD f.toNat aP).size<=a.toNat*16) with
  |true=>exact hm
  |false=>
   rw [cond_false]
   split
   ·exact hm
   ·rename_i m u hp
    obtain⟨q1,q2,q3,q4,q5⟩:=bM h (by omega) hp
    have hu:=h.use m u q1 q2
    cases(decide (u.p.v≠3)||(w&&decide (u.wr≠0))) with
    |true=>exact hm
    |false=>exact fZ.pts (fZ.acc (fZ.put h hm q1 q2 (aHJ hu.pg w).1) _ _) _
 ·rw [decide_eq_false e];exact hm
theorem oP.okM {c d:Dc} (k:oP c d):Ok c->fZ c->fZ d:=by
 induction k with
 |refl c=>exact λ_ h=>h
 |trans h k ih ik=>exact λo m=>ik (h.sh o).1 (ih o m)
 |ins c f p t pf ur=>exact λh m=>aKF h m _ _ _ _ _
 |rdy c f ps k=>exact λh m=>aEY h m _ _ _
 |wrt c f off s=>exact λh m=>aWW h m _ _ _
 |bg c n=>exact λh m=>aXM h m _
 |en c n e=>exact λh m=>aXX h m _ _
 |rb c n k=>exact λh m=>aPM h m _ _
 |re c n d ok=>exact λh m=>aPT h m _ _ _
 |ev c n=>exact λh m=>aY8 h m _
 |hol c n k=>exact λh m=>aTU h m _ _
 |trn c f z=>exact λh m=>aWC h m _ _
 |pun c f off n=>exact λh m=>aVM h m _ _ _
 |ent c pr pg f a w=>exact λh m=>aTG h m _ _ _ _ _
theorem Drw.okM {c:Dc} (h:Drw c):fZ c:=by
 obtain⟨z,g,hz,hg,-,-,-,-,hs⟩:=h
 exact hs.okM (aT2 hz hg) (bCY z g)
structure mZ(a b:Dc):Prop where
 fl:a.fl=b.fl
 fr:a.fr=b.fr
 zo:gX a.zo b.zo
 gr:a.gr=b.gr
 ls:a.ls=b.ls
 ck:a.ck=b.ck
 pt:a.pt=b.pt
theorem aYV(l:List Zn):gX (l.map noZ) l:=by
 show(l.map noZ).map gF=l.map gF
 rw [List.map_map];rfl
theorem mZ.x(c:Dc):mZ c.x c:=⟨rfl,rfl,aYV _,rfl,rfl,rfl,rfl⟩
end Go.Proofs.YtmhapcbjjpadnaaGreat
namespace Go.Proofs.YtmhapcbjjpadnaaGreat
open Go Go.Sk Go.RowKit
theorem bHX(a b:Dc)(h:Ok b)(hs:mZ a b):aM Tryz.prog 18 [] [.agg a.c,.agg b.c] (.bool true) []:=by
 obtain⟨fl,fr,za,gr,ls,ck,pt⟩:=a
 obtain⟨fl2,fr2,zb,gr2,ls2,ck2,pt2⟩:=b
 obtain⟨e1,e2,e3,e4,e5,e6,e7⟩:=hs
 dsimp only at e1 e2 e3 e4 e5 e6 e7
 subst e1 e2 e4 e5 e6 e7
 have h3:=h.nf
 have h4:=h.nr
 have h5:=h.ng
 have h6:=h.sm.ls
 have h7:=h.sm.ck
 have h8:=h.ptl
 dsimp only at h3 h4 h5 h6 h7 h8
 have hzb:=h.smZ
 have hza:eV za:=nB (by rw [e3.check];exact h.zone)
 have k89:=bMT za zb false false hza hzb
 rw [aSB e3] at k89
 have k90:=bMU gr false false (by omega)
 have k91:=aZ2 ck ck false false (by omega) (by omega)
 rw [decide_eq_true rfl] at k91
 have k92:=bMV pt false false h8
 refine aK (ob0:= []) [] Tryz.func18 rfl rfl (tL bK8 rfl) rfl ?_
 refine Wy ?_
 refine Lp (λi:Nat=>i<=fl.length) (λi=> [(5,.int .i64 (i:Int))]) (λi=> []) (λi=>fl.length-i) 0 (zE _) ?_ ?_
 ·exact Vr [_,_]
 intro i hi
 refine Wy ?_
 refine fP (λb=>?_) (λb=>?_)
 ·have b:i<fl.length:=by omega
  have kf:=h.file i b
  have hg:=eJ fl i b
  have k93:=bMW kf.E
  obtain⟨k0,k1,k2,k3,hfc,hcan⟩:=Df.cells kf.E
  dsimp only at hfc hcan k93
  rw [hfc] at hg
  rw [hcan] at k93
  refine Wy ?_
  refine Le (i+1) (hv:=?_)
  exact Vr [_,_]
 clear b
 refine Wy ?_
 refine Lp (λi:Nat=>i<=fr.length) (λi=> [(8,.int .i64 (i:Int))]) (λi=> []) (λi=>fr.length-i) 0 (zE _) ?_ ?_
 ·exact Vr [_,_]
 intro j hj
 refine Wy ?_
 refine fP (λb=>?_) (λb=>?_)
 ·have b:j<fr.length:=by omega
  have hg:=cH fr j b
  cases hu:fr.getD j none with
  |none=>
   rw [hu] at hg
   have hg:(aV fr).getD j []=fre.c:=hg
   refine Wy ?_
   refine Le (j+1) (hv:=?_)
   exact Vr [_,_]
  |some u=>
   rw [hu] at hg
   have hg:(aV fr).getD j []=u.c:=hg
   refine Wy ?_
   refine aC (λc2=>?_) (λc2=>?_)
   ·simp [aF8] at c2
   refine Wy ?_
   refine Le (j+1) (hv:=?_)
   exact Vr [_,_]
 clear b
 refine Wy ?_
 refine Lp (λi:Nat=>i<=ls.length) (λi=> [(9,.int .i64 (i:Int))]) (λi=> []) (λi=>ls.length-i) 0 (zE _) ?_ ?_
 ·exact Vr [_,_]
 intro k hk
 refine Wy ?_
 refine fP (λb=>?_) (λb=>?_)
 ·have b:k<ls.length:=by omega
  have hg:=kD ls k b
  have hl:=h.smL k
  dsimp only at hl
  have k94:=bMX (ls.getD k l0) (ls.getD k l0) hl hl
  have e94:aQ5 (ls.getD k l0) (ls.getD k l0)=true:=by simp [aQ5]
  rw [e94] at k94
  generalize ls.getD k l0=l at *
  refine Wy ?_
  refine Le (k+1) (hv:=?_)
  exact Vr [_,_]
 exact jR
end Go.Proofs.YtmhapcbjjpadnaaGreat
