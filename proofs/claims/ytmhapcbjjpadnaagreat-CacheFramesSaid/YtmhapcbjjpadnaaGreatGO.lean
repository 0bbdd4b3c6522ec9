/- Caches. -/
import Derived.Test.YtmhapcbjjpadnaaGreatGK
import Derived.Test.YtmhapcbjjpadnaaGreatGN
import Derived.Test.YtmhapcbjjpadnaaGreatG9
import Derived.Test.YtmhapcbjjpadnaaGreatGB
import Derived.Test.YtmhapcbjjpadnaaGreatG2
set_option linter.unusedSimpArgs false
set_option linter.unusedVariables false
open Int renaming toNat_natCast→zA
open List renaming getElem_mem→zC,length_set→zD,getD_eq_getElem?_getD→zE
open Nat renaming le_refl→zF,zero_le→zG
set_option maxRecDepth 40000
namespace Go.Proofs.YtmhapcbjjpadnaaGreat
open Go Go.Sk Go.RowKit
def mkN(u:Us):Nat:=(bif u.p.d != 0 then 1 else 0)+(bif u.wr != 0 then 2 else 0)
def fS(c:Dc):Prop:=∀m u,m<c.fr.length→c.fr.getD m none=some u→((c.fl.getD u.file aR).E u.page).2=mkN u
theorem aNM {E:cK} {i m:Nat} {on:Bool} {j:Nat} (h:j≠i):mW E i on m j=E j:=by
 unfold mW;rw [cS h]
theorem aYT {E:cK} {u:Us} {j:Nat} (h:j≠u.page):mE E u j=E j:=by unfold mE;rw [aNM h,aNM h]
theorem aYS {E:cK} {u v:Us} (h:(E u.page).2=mkN v):(mE E u u.page).2=mkN u:=by
 unfold mE
 generalize u.page=p at *
 have e:∀(E:cK) (on:Bool) (m:Nat),(mW E p on m p).2=(bif on then(E p).2 ||| m else jE false (E p).2 m):=fun E on m=>by
  unfold mW
  rw [dS]
  cases on <;> rfl
 rw [e,e,h]
 unfold mkN
 cases(u.p.d != 0)<;> cases(u.wr != 0)<;> cases(v.p.d != 0)<;> cases(v.wr != 0)<;> rfl
theorem aWV {E:cK} {u:Us} (h:(E u.page).2=mkN u):mE E u=E:=by
 funext j
 by_cases e:j=u.page
 ·subst e
  have h1:=aYS (E:=E) (u:=u) h
  exact Prod.ext (aH1 E u u.page) (h1.trans h.symm)
 ·exact aYT e
theorem aDY {c:Dc} (h:Ok c)(hm:fS c) {m:Nat} {u u':Us} (h1:m<c.fr.length)(h2:c.fr.getD m none=some u)(hk:iD u'=iD u)(hn:mkN u'=mkN u):c.put m u'=c.setU m u':=by
 have hu:=h.use m u h1 h2
 have hM:=hm m u h1 h2
 simp only [iD,Prod.mk.injEq] at hk
 obtain⟨e1,e2,e3⟩:=hk
 have hE:mE (c.fl.getD u'.file aR).E u'=(c.fl.getD u'.file aR).E:=aWV (by rw [e1,e2,hn];exact hM)
 unfold Dc.put Dc.mark
 have hs:(c.setU m u').fl=c.fl:=rfl
 rw [hs,hE]
 have :c.fl.set u'.file (eK (c.fl.getD u'.file aR) (c.fl.getD u'.file aR).E)=c.fl:=by
  apply List.ext_getElem?
  intro j
  rw [List.getElem?_set]
  split
  ·rename_i e
   subst e
   have hl:u'.file<c.fl.length:=by rw [e1];exact hu.file
   rw [if_pos hl,zE,List.getElem?_eq_getElem hl];rfl
  ·rfl
 rw [this];rfl
theorem fS.keep {c d:Dc} (hm:fS c)(hfr:d.fr=c.fr)(hE:∀f p,((d.fl.getD f aR).E p).2=((c.fl.getD f aR).E p).2):fS d:=fun m u h1 h2=>by
 rw [hfr] at h1 h2
 rw [hE];exact hm m u h1 h2
theorem fS.put {c:Dc} (h:Ok c)(hm:fS c) {m:Nat} {u u':Us} (h1:m<c.fr.length)(h2:c.fr.getD m none=some u)(hk:iD u'=iD u):fS (c.put m u'):=fun n w k1 k2=>by
 have hu:=h.use m u h1 h2
 have hM:=hm m u h1 h2
 simp only [iD,Prod.mk.injEq] at hk
 obtain⟨e1,e2,e3⟩:=hk
 have hl:u'.file<c.fl.length:=by rw [e1];exact hu.file
 have k2:(c.fr.set m (some u')).getD n none=some w:=k2
 have k1:n<c.fr.length:=by rw [aHH] at k1;exact k1
 show(((c.fl.set u'.file (eK (c.fl.getD u'.file aR) (mE (c.fl.getD u'.file aR).E u'))).getD w.file aR).E w.page).2=mkN w
 by_cases e:n=m
 ·subst e
  rw [aL _ _ _ _ h1] at k2
  injection k2 with k2
  subst k2
  rw [aL _ _ _ _ hl,jP]
  exact aYS (v:=u) (by rw [e1,e2];exact hM)
 ·rw [getD_set_ne _ _ _ e] at k2
  have hw:=h.use n w k1 k2
  by_cases x:w.file=u'.file
  ·rw [x,aL _ _ _ _ hl,jP,aYT,←x]
   ·exact hm n w k1 k2
   ·intro y
    have a:=hw.val
    have b:=hu.val
    rw [x,y,e1,e2,b] at a
    omega
  ·rw [getD_set_ne _ _ _ x]
   exact hm n w k1 k2
theorem fS.gone {c:Dc} (h:Ok c)(hm:fS c) {m:Nat} {u:Us} (h1:m<c.fr.length)(h2:c.fr.getD m none=some u)(v:Int):fS (c.gone m u v):=fun n w k1 k2=>by
 have hu:=h.use m u h1 h2
 have k2:(c.fr.set m none).getD n none=some w:=k2
 have k1:n<c.fr.length:=by
  have :(c.gone m u v).fr.length=c.fr.length:=zD ..
  omega
 show(((c.fl.set u.file (eK (c.fl.getD u.file aR) (cO (c.fl.getD u.file aR).E u.page (v,0)))).getD w.file aR).E w.page).2=mkN w
 by_cases e:n=m
 ·subst e
  rw [aL _ _ _ _ h1] at k2;cases k2
 ·rw [getD_set_ne _ _ _ e] at k2
  have hw:=h.use n w k1 k2
  by_cases x:w.file=u.file
  ·rw [x,aL _ _ _ _ hu.file,jP,cS,←x]
   ·exact hm n w k1 k2
   ·intro y
    have a:=hw.val
    have b:=hu.val
    rw [x,y,b] at a
    omega
  ·rw [getD_set_ne _ _ _ x]
   exact hm n w k1 k2
theorem fS.ins {c:Dc} (h:Ok c)(hm:fS c) {f p t m:Nat} {z:List Zn} {g:List Gr} (hf:f<c.fl.length)(hE:((c.fl.getD f aR).E p).1≤0)(h1:m<c.fr.length):fS (c.ins f p t z g m):=fun n w k1 k2=>by
 have k2:(c.fr.set m (some (oY c f p t))).getD n none=some w:=k2
 have k1:n<c.fr.length:=by
  have :(c.ins f p t z g m).fr.length=c.fr.length:=zD ..
  omega
 show(((c.fl.set f (eK (c.fl.getD f aR) (cO (c.fl.getD f aR).E p (((m+1:Nat):Int),0)))).getD w.file aR).E w.page).2=mkN w
 by_cases e:n=m
 ·subst e
  rw [aL _ _ _ _ h1] at k2
  injection k2 with k2
  subst k2
  show(((c.fl.set f (eK (c.fl.getD f aR) (cO (c.fl.getD f aR).E p (((n+1:Nat):Int),0)))).getD f aR).E p).2=_
  rw [aL _ _ _ _ hf,jP,dS]
  unfold mkN oY aFH
  cases kZ (c.fl.getD f aR).blocks p <;> rfl
 ·rw [getD_set_ne _ _ _ e] at k2
  have hw:=h.use n w k1 k2
  by_cases x:w.file=f
  ·rw [x,aL _ _ _ _ hf,jP,cS,←x]
   ·exact hm n w k1 k2
   ·intro y
    have a:=hw.val
    rw [x,y] at a
    omega
  ·rw [getD_set_ne _ _ _ x]
   exact hm n w k1 k2
theorem fS.fl1 {c:Dc} (hm:fS c) {f:Nat} {x:Df} (hf:f<c.fl.length)(hE:x.E=(c.fl.getD f aR).E):fS ⟨c.fl.set f x,c.fr,c.zo,c.gr,c.ls,c.ck,c.pt⟩:=hm.keep rfl fun g p=>by
 show(((c.fl.set f x).getD g aR).E p).2=_
 by_cases e:g=f
 ·subst e;rw [aL _ _ _ _ hf,hE]
 ·rw [getD_set_ne _ _ _ e]
theorem fS.e0 {c:Dc} (h:Ok c)(hm:fS c) {f p:Nat} (hf:f<c.fl.length)(hn:gV c f p=none):fS (c.e0 f p):=fun n w k1 k2=>by
 have hz:=aDU h hf hn
 have hw:=h.use n w k1 k2
 show(((c.fl.set f (eK (c.fl.getD f aR) (cO (c.fl.getD f aR).E p (0,0)))).getD w.file aR).E w.page).2=mkN w
 by_cases x:w.file=f
 ·rw [x,aL _ _ _ _ hf,jP,cS,←x]
  ·exact hm n w k1 k2
  ·intro y
   have a:=hw.val
   rw [x,y] at a
   omega
 ·rw [getD_set_ne _ _ _ x]
  exact hm n w k1 k2
theorem bAZ(z:List Zn)(g:List Gr):fS (c0 z g):=fun m u h1 h2=>by
 have :(c0 z g).fr.getD m none=none:=by
  show(List.replicate _ none).getD m none=none
  rw [zE,List.getElem?_replicate]
  split <;> rfl
 rw [this] at h2;cases h2
end Go.Proofs.YtmhapcbjjpadnaaGreat
set_option maxRecDepth 40000
namespace Go.Proofs.YtmhapcbjjpadnaaGreat
open Go Go.Sk Go.RowKit
theorem fS.acc {c:Dc} (hm:fS c)(m t:Nat):fS (c.acc m t):=hm.keep rfl fun _ _=>rfl
theorem fS.pts {c:Dc} (hm:fS c)(l:List Pt):fS (c.pts l):=hm.keep rfl fun _ _=>rfl
theorem aSJ {c:Dc} (h:Ok c)(hm:fS c) {f p t:Nat} (pf:Int)(ur:Bool)(hf:f<c.fl.length):fS (eC c f p t pf ur).1:=by
 unfold eC
 by_cases e1:0< ((c.fl.getD f aR).E p).1
 ·rw [decide_eq_true e1];exact hm
 rw [decide_eq_false e1,cond_false]
 cases e2:((cA c.gr t).2==0) with
 |false=>exact hm
 |true=>
  rw [cond_true]
  cases e3:((bX c.zo c.zo pf ur).2.2==0) with
  |false=>exact hm
  |true=>
   obtain⟨m,m1,m2,m3⟩:=take_at h (eq_of_beq e3)
   rw [cond_true]
   dsimp only
   rw [m2,show(((m+1:Nat):Int)-1).toNat=m by omega]
   exact hm.ins h hf (by omega) m1
theorem aJD {c:Dc} (h:Ok c)(hm:fS c)(f p t pf:Int)(ur:Bool):fS (gF c f p t pf ur).1:=by
 unfold gF inI
 by_cases e:(0≤f∧f< (c.fl.length:Int))∧(0≤p∧p<8)∧(0≤t∧t< (c.gr.length:Int))∧0≤pf∧pf< (c.zo.length:Int)
 ·rw [decide_eq_true e];exact aSJ h hm pf ur (by omega)
 ·rw [decide_eq_false e];exact hm
theorem aO6 {c:Dc} (h:Ok c)(hm:fS c)(n k:Int):fS (rbG c n k).1:=by
 unfold rbG
 rcases bR c n with ⟨e,hu⟩| ⟨m,u,e,rfl,h1,h2⟩
 ·rw [e];exact hm
 ·rw [e]
  dsimp only
  cases decide ((1≤k∧k≤3)∧k.toNat &&& (u.p.v ||| u.rd)=0) with
  |true=>exact hm.put h h1 h2 rfl
  |false=>exact hm
theorem aOC {c:Dc} (h:Ok c)(hm:fS c)(n:Int)(d:ByteArray)(ok:Bool):fS (reG c n d ok).1:=by
 unfold reG
 rcases bR c n with ⟨e,hu⟩| ⟨m,u,e,rfl,h1,h2⟩
 ·rw [e];exact hm
 ·rw [e]
  dsimp only
  unfold sX
  cases(u.rd==0) with
  |true=>exact hm
  |false=>
   cases(ok&&decide (d.size≠16)) with
   |true=>exact hm
   |false=>exact hm.put h h1 h2 rfl
theorem aK7 {d:Dc} (h:Ok d)(hm:fS d)(f:Nat)(p n:Int):fS (aHM d f p n):=by
 unfold aHM
 split
 ·exact hm
 ·rename_i m u e
  cases(!(jE false 3 (u.p.v ||| u.rd)==0)&&u.rd==0) with
  |false=>exact hm
  |true=>exact aOC (aAE h _ _) (aO6 h hm _ _) _ _ _
theorem aK6 {c:Dc} (h:Ok c)(hm:fS c)(f:Nat)(ps:List Int):∀k,fS (aAF c f ps k)
 |0=>hm
 |k+1=>by
  have ih:=aK6 h hm f ps k
  have o:=(uW h f ps k).1
  rw [aAF]
  generalize aAF c f ps k=d at *
  unfold aMC
  split
  ·exact aK7 o ih _ _ _
  ·cases((gF d f (ps.getD k 0) 0 ((d.zo.length:Int)-1) true).2.2==0) with
   |false=>exact ih
   |true=>exact aK7 (uJ o _ _ _ _ _) (aJD o ih _ _ _ _ _) _ _ _
theorem aKL {c:Dc} (h:Ok c)(hm:fS c) {f:Nat} (e:Int)(hf:f<c.fl.length):fS (cP c f e).1:=by
 unfold cP
 split
 ·exact hm
 ·split
  ·exact hm
  ·rename_i m u hp
   obtain⟨q1,q2,q3,q4,q5⟩:=cL h hf hp
   cases(jE false _ u.p.v==0) with
   |true=>exact hm.put h q1 q2 rfl
   |false=>exact hm
theorem aOY {c:Dc} (h:Ok c)(hm:fS c) {f off:Nat} {s:ByteArray} (hf:f<c.fl.length)(hb:off+s.size≤128):∀k,k≤cnt off s.size→fS (wrL c f off s k)
 |0,_=>hm
 |k+1,hk=>by
  have ih:=aOY h hm hf hb k (by omega)
  obtain⟨o1,o2,o3⟩:=aAO h hf hb k (by omega)
  rw [wrL]
  split
  ·rename_i m u hp
   have hf1:f< (wrL c f off s k).fl.length:=by rw [o2];exact hf
   obtain⟨q1,q2,q3,q4,q5⟩:=cL o1 hf1 hp
   refine fS.acc (fS.put o1 ih q1 q2 ?_) _ _
   rfl
  ·exact ih
theorem aVA {c:Dc} (h:Ok c)(hm:fS c)(f off:Int)(s:ByteArray):fS (aBY c f off s).1:=by
 unfold aBY
 cases hr:lR c f off s.size with
 |false=>exact hm
 |true=>
  obtain⟨f,off,n,rfl,rfl,e,hf,hb⟩:=iW hr
  have hb:off+s.size≤128:=by omega
  rw [cond_true,zA,zA]
  unfold vF
  cases(s.size==0) with
  |true=>exact hm
  |false=>
   rw [cond_false]
   obtain⟨o1,o2,o3,o4⟩:=sG h ((off+s.size:Nat):Int) hf
   have hm1:=aKL h hm ((off+s.size:Nat):Int) hf
   have hf1:f< (cP c f ((off+s.size:Nat):Int)).1.fl.length:=by rw [o2];exact hf
   obtain⟨w1,w2,w3⟩:=aAO o1 (s:=s) (off:=off) hf1 hb _ (zF _)
   have hm2:=aOY o1 hm1 (s:=s) (off:=off) hf1 hb _ (zF _)
   cases jB c f off s.size true (cnt off s.size) with
   |none=>exact hm
   |some L=>
    dsimp only
    cases((cP c f ((off+s.size:Nat):Int)).2==4) with
    |true=>exact hm
    |false=>
     rw [cond_false]
     cases(L.isEmpty&&(cP c f ((off+s.size:Nat):Int)).2==0) with
     |false=>exact hm
     |true=>exact hm2.fl1 (by rw [w2];exact hf1) rfl
theorem aVT {c:Dc} (h:Ok c)(hm:fS c)(n:Int):fS (bgG c n).1:=by
 unfold bgG
 rcases bR c n with ⟨e,hu⟩| ⟨m,u,e,rfl,h1,h2⟩
 ·rw [e];exact hm
 ·rw [e]
  dsimp only
  cases(u.wr==0) with
  |false=>exact hm
  |true=>
   cases(u.p.d==0) with
   |true=>exact hm
   |false=>exact fS.pts (fS.put h hm h1 h2 (u':=aRE u (kR c u)) rfl) _
theorem aW4 {c:Dc} (h:Ok c)(hm:fS c)(n e:Int):fS (enG c n e).1:=by
 unfold enG
 rcases bR c n with ⟨x,hu⟩| ⟨m,u,x,rfl,h1,h2⟩
 ·rw [x];exact hm
 ·rw [x]
  dsimp only
  have hu:=h.use m u h1 h2
  cases(u.wr==0) with
  |true=>exact hm
  |false=>
   rw [cond_false]
   have hp:=hm.put h h1 h2 (u':=vP u e) rfl
   have hl:u.file< (c.put m (vP u e)).fl.length:=by rw [sD];exact hu.file
   unfold aLP
   cases(e==0) with
   |true=>exact hp.fl1 hl rfl
   |false=>exact hp.fl1 hl rfl
theorem aWF {c:Dc} (h:Ok c)(hm:fS c)(n:Int):fS (evG c n).1:=by
 unfold evG
 rcases bR c n with ⟨e,hu⟩| ⟨m,u,e,rfl,h1,h2⟩
 ·rw [e];exact hm
 ·rw [e]
  dsimp only
  cases(kK u&&decide (u.p.d=0)) with
  |false=>exact hm
  |true=>exact(hm.gone h h1 h2 (0- (c.ck.getD u.ten 0+1))).keep rfl fun _ _=>rfl
theorem aSF {c:Dc} (h:Ok c)(hm:fS c)(n k:Int):fS (qX c n k).1:=by
 unfold qX
 rcases bR c n with ⟨e,hu⟩| ⟨m,u,e,rfl,h1,h2⟩
 ·rw [e];exact hm
 ·rw [e]
  dsimp only
  cases decide ((-255≤k∧k≤255)∧0≤(u.holds:Int)+k∧(u.holds:Int)+k≤255) with
  |false=>exact hm
  |true=>exact hm.put h h1 h2 rfl
theorem aV0 {c:Dc} (h:Ok c)(hm:fS c) {f off n p:Nat} (hf:f<c.fl.length):fS (aBW c f off n p):=by
 unfold aBW
 cases isW c f off n p with
 |true=>
  rw [cond_true]
  cases hp:gV c f p with
  |none=>
   have k:=hm.e0 h hf hp
   exact k.fl1 (by show f< (c.fl.set f _).length;rw [zD];exact hf) rfl
  |some x=>
   obtain⟨m,u⟩:=x
   obtain⟨q1,q2,q3,q4,q5⟩:=cL h hf hp
   have k:=hm.gone h q1 q2 0
   exact k.fl1 (by show f< (c.fl.set u.file _).length;rw [zD];exact hf) rfl
 |false=>
  rw [cond_false]
  cases hp:gV c f p with
  |none=>exact hm
  |some x=>
   obtain⟨m,u⟩:=x
   obtain⟨q1,q2,q3,q4,q5⟩:=cL h hf hp
   exact hm.put h q1 q2 rfl
theorem aEB {c:Dc} (h:Ok c)(hm:fS c) {f off n:Nat} (hf:f<c.fl.length)(hb:off+n≤128):∀k,k≤cnt off n→fS (sP c f off n k)
 |0,_=>hm
 |k+1,hk=>by
  have ih:=aEB h hm hf hb k (by omega)
  obtain⟨o1,o2,o3,o4⟩:=pO h hf hb k (by omega)
  exact aV0 o1 ih (by rw [o2];exact hf)
theorem aU2 {c:Dc} (h:Ok c)(hm:fS c)(f off n:Int):fS (aAC c f off n).1:=by
 unfold aAC
 cases hr:lR c f off n with
 |false=>exact hm
 |true=>
  obtain⟨f,off,n,rfl,rfl,rfl,hf,hb⟩:=iW hr
  rw [cond_true]
  simp only [zA]
  have hrd:fD c f off n≤n:=by unfold fD;omega
  unfold aQ8
  cases(fM c f off (fD c f off n) (cnt off (fD c f off n))).2.2 with
  |false=>exact hm
  |true=>exact aEB h hm hf (by omega) _ (zF _)
theorem aUT {c:Dc} (h:Ok c)(hm:fS c)(f z:Int):fS (rN c f z).1:=by
 unfold rN
 cases hr:lR c f z 0 with
 |false=>exact hm
 |true=>
  obtain⟨f,z,n,rfl,rfl,-,hf,hb⟩:=iW hr
  rw [cond_true]
  simp only [zA]
  obtain⟨o1,o2,o3,o4⟩:=sG h (z:Int) hf
  have hm1:=aKL h hm (z:Int) hf
  have hf1:f< (cP c f (z:Int)).1.fl.length:=by rw [o2];exact hf
  have hrd:fD (cP c f (z:Int)).1 f z (128-z)≤128-z:=by unfold fD;omega
  have hm2:=aEB o1 hm1 (off:=z) (n:=fD (cP c f (z:Int)).1 f z (128-z)) hf1 (by omega) _ (zF _)
  have hw:=pO o1 (f:=f) (off:=z) (n:=fD (cP c f (z:Int)).1 f z (128-z)) hf1 (by omega) _ (zF _)
  unfold aQU
  cases((cP c f (z:Int)).2==0) with
  |false=>exact hm
  |true=>
   rw [cond_true]
   cases(fM c f z (fD c f z (128-z)) (cnt z (fD c f z (128-z)))).2.2 with
   |false=>exact hm
   |true=>exact hm2.fl1 (by rw [hw.2.1];exact hf1) rfl
theorem aRW {c:Dc} (h:Ok c)(hm:fS c)(pr pg f a:Int)(w:Bool):fS (vR c pr pg f a w).1:=by
 unfold vR inE
 by_cases e:(0≤f∧f< (c.fl.length:Int))∧(0≤pr∧pr<8)∧(0≤pg∧pg<64)∧0≤a∧a<8
 ·rw [decide_eq_true e,cond_true]
  unfold aPJ
  cases decide ((c.fl.getD f.toNat aR).size≤a.toNat*16) with
  |true=>exact hm
  |false=>
   rw [cond_false]
   split
   ·exact hm
   ·rename_i m u hp
    obtain⟨q1,q2,q3,q4,q5⟩:=cL h (by omega) hp
    have hu:=h.use m u q1 q2
    cases(decide (u.p.v≠3)||(w&&decide (u.wr≠0))) with
    |true=>exact hm
    |false=>exact fS.pts (fS.acc (fS.put h hm q1 q2 (aGL hu.pg w).1) _ _) _
 ·rw [decide_eq_false e];exact hm
theorem nH.okM {c d:Dc} (k:nH c d):Ok c→fS c→fS d:=by
 induction k with
 |refl c=>exact fun _ h=>h
 |trans h k ih ik=>exact fun o m=>ik (h.sh o).1 (ih o m)
 |ins c f p t pf ur=>exact fun h m=>aJD h m _ _ _ _ _
 |rdy c f ps k=>exact fun h m=>aK6 h m _ _ _
 |wrt c f off s=>exact fun h m=>aVA h m _ _ _
 |bg c n=>exact fun h m=>aVT h m _
 |en c n e=>exact fun h m=>aW4 h m _ _
 |rb c n k=>exact fun h m=>aO6 h m _ _
 |re c n d ok=>exact fun h m=>aOC h m _ _ _
 |ev c n=>exact fun h m=>aWF h m _
 |hol c n k=>exact fun h m=>aSF h m _ _
 |trn c f z=>exact fun h m=>aUT h m _ _
 |pun c f off n=>exact fun h m=>aU2 h m _ _ _
 |ent c pr pg f a w=>exact fun h m=>aRW h m _ _ _ _ _
theorem Drw.okM {c:Dc} (h:Drw c):fS c:=by
 obtain⟨z,g,hz,hg,-,-,-,-,hs⟩:=h
 exact hs.okM (aRH hz hg) (bAZ z g)
structure Sim(a b:Dc):Prop where
 fl:a.fl=b.fl
 fr:a.fr=b.fr
 zo:fV a.zo b.zo
 gr:a.gr=b.gr
 ls:a.ls=b.ls
 ck:a.ck=b.ck
 pt:a.pt=b.pt
theorem aH8(l:List Zn):fV (l.map noZ) l:=by
 show(l.map noZ).map gU=l.map gU
 rw [List.map_map];rfl
theorem Sim.x(c:Dc):Sim c.x c:=⟨rfl,rfl,aH8 _,rfl,rfl,rfl,rfl⟩
theorem Sim.xu(c:Dc)(m:Nat)(u:Us):Sim (c.x.setU m u) (c.setU m u):=⟨rfl,rfl,aH8 _,rfl,rfl,rfl,rfl⟩
theorem aWK {c:Dc} (h:Ok c)(hm:fS c)(n k:Int):Sim (aJB c n k).1 (qX c n k).1∧(aJB c n k).2=(qX c n k).2:=by
 unfold aJB qX
 rcases bR c n with ⟨e,hu⟩| ⟨m,u,e,rfl,h1,h2⟩
 ·rw [e];exact⟨.x c,rfl⟩
 ·rw [e]
  dsimp only
  have hu:=h.use m u h1 h2
  have hh:=hu.holds
  by_cases x:(-255≤k∧k≤255)∧0≤(u.holds:Int)+k∧(u.holds:Int)+k≤255
  ·rw [decide_eq_true x,decide_eq_true (show k≤255- (u.holds:Int)∧-(u.holds:Int)≤k by omega),cond_true,cond_true,aDY h hm h1 h2 (u':=qY u ((u.holds:Int)+k).toNat) rfl rfl]
   exact⟨.xu _ _ _,rfl⟩
  ·rw [decide_eq_false x,decide_eq_false (show ¬(k≤255- (u.holds:Int)∧-(u.holds:Int)≤k) by omega)]
   exact⟨.x c,rfl⟩
theorem bCW {c:Dc} (h:Ok c)(hm:fS c)(n k:Int):Sim (rbP c n k).1 (rbG c n k).1∧(rbP c n k).2=(rbG c n k).2:=by
 unfold rbP rbG
 rcases bR c n with ⟨e,hu⟩| ⟨m,u,e,rfl,h1,h2⟩
 ·rw [e];exact⟨.x c,rfl⟩
 ·rw [e]
  dsimp only
  cases decide ((1≤k∧k≤3)∧k.toNat &&& (u.p.v ||| u.rd)=0) with
  |true=>
   rw [cond_true,cond_true,aDY h hm h1 h2 (u':=sW u (u.rd ||| k.toNat)) rfl rfl]
   exact⟨.xu _ _ _,rfl⟩
  |false=>exact⟨.x c,rfl⟩
theorem bD3 {c:Dc} (h:Ok c)(hm:fS c)(n:Int)(d:ByteArray)(ok:Bool):Sim (reP c n d ok).1 (reG c n d ok).1∧(reP c n d ok).2=(reG c n d ok).2:=by
 unfold reP reG
 rcases bR c n with ⟨e,hu⟩| ⟨m,u,e,rfl,h1,h2⟩
 ·rw [e];exact⟨.x c,rfl⟩
 ·rw [e]
  dsimp only
  unfold aUG sX
  cases(u.rd==0) with
  |true=>exact⟨.x c,rfl⟩
  |false=>
   rw [cond_false,cond_false]
   cases(ok&&decide (d.size≠16)) with
   |true=>exact⟨.x c,rfl⟩
   |false=>
    have e:mkN (pV c u d ok)=mkN u:=by cases ok <;> rfl
    rw [cond_false,cond_false,aDY h hm h1 h2 (u':=pV c u d ok) rfl e]
    exact⟨.xu _ _ _,rfl⟩
theorem aS9(l:List Zn)(h:bB l=true)(f:Int):fV (dW ((l.map noZ).map gU) (l.map noZ) f).1 (dW l l f).1:=by
 have hs:=aH8 l
 have hc:bB (l.map noZ)=true:=by rw [hs.check];exact h
 have k1:=aC3 (base:=(l.map noZ).map gU) (f:=f) hc
 have k2:=aC3 (base:=l) (f:=f) h
 have hb:fV ((l.map noZ).map gU) l:=(fV.ex _).trans hs
 have hgt:∀i (hi:i< (l.map noZ).length),(l.map noZ)[i]=noZ (l[i]'(by simpa using hi)):=fun i hi=>List.getElem_map ..
 have hcl:=((dX l).1 h).1
 generalize dW ((l.map noZ).map gU) (l.map noZ) f=q1 at *
 generalize dW l l f=q2 at *
 have uniq:∀i j (hi:i<l.length) (hj:j<l.length),l[i].first≤f∧f<l[i].first+l[i].size→l[j].first≤f∧f<l[j].first+l[j].size→i=j:=fun i j hi hj a b=>by
  rcases Nat.lt_trichotomy i j with e |e |e
  ·have :=hcl.sep i j hi hj e;omega
  ·exact e
  ·have :=hcl.sep j i hj hi e;omega
 cases k1 with
 |range a=>
  cases k2 with
  |range _=>exact hb
  |free i hi hf hm=>exact absurd hf (a (noZ l[i]) (List.mem_map.2 ⟨l[i],zC hi,rfl⟩))
  |ok i hi hf hm=>exact absurd hf (a (noZ l[i]) (List.mem_map.2 ⟨l[i],zC hi,rfl⟩))
 |free i hi hf hm=>
  have hi':i<l.length:=by simpa using hi
  rw [hgt i hi] at hf hm
  have hf:l[i].first≤f∧f<l[i].first+l[i].size:=hf
  cases k2 with
  |range a=>exact absurd hf (a _ (zC hi'))
  |free _ _ _ _=>exact hb
  |ok j hj hf2 hm2=>
   have :=uniq i j hi' hj hf hf2
   subst this
   exact absurd hm hm2
 |ok i hi hf hm=>
  have hi':i<l.length:=by simpa using hi
  rw [hgt i hi] at hf hm⊢
  have hf:l[i].first≤f∧f<l[i].first+l[i].size:=hf
  cases k2 with
  |range a=>exact absurd hf (a _ (zC hi'))
  |free j hj hf2 hm2=>
   have :=uniq i j hi' hj hf hf2
   subst this
   exact absurd hm2 hm
  |ok j hj hf2 hm2=>
   have :=uniq i j hi' hj hf hf2
   subst this
   exact hb.set i rfl
theorem bB8 {c:Dc} (h:Ok c)(n:Int):Sim (evP c n).1 (evG c n).1∧(evP c n).2=(evG c n).2:=by
 unfold evP evG
 rcases bR c n with ⟨e,hu⟩| ⟨m,u,e,rfl,h1,h2⟩
 ·rw [e];exact⟨.x c,rfl⟩
 ·rw [e]
  dsimp only
  cases(kK u&&decide (u.p.d=0)) with
  |false=>exact⟨.x c,rfl⟩
  |true=>exact⟨⟨rfl,rfl,aS9 c.zo h.zone _,rfl,rfl,rfl,rfl⟩,rfl⟩
theorem bAU {l:Ls} {f:Int} (act:Bool)(hn:¬inL l f):aBL l f act=sL l f act:=by
 have h1:wo l.A f=l.A:=pP fun h=>hn (.inl h)
 have h2:wo l.I f=l.I:=pP fun h=>hn (.inr h)
 unfold aBL sL aP4
 dsimp only
 rw [h1,h2]
theorem aWS {c:Dc} (h:Ok c)(f p t pf:Int)(ur:Bool):Sim (aD6 c f p t pf ur).1 (gF c f p t pf ur).1∧(aD6 c f p t pf ur).2=(gF c f p t pf ur).2:=by
 unfold aD6 gF
 cases hi:inI c f p t pf with
 |false=>exact⟨.x c,rfl⟩
 |true=>
  unfold inI at hi
  have hi:=of_decide_eq_true hi
  have ht:t.toNat<c.ls.length:=by rw [h.nl];omega
  rw [cond_true,cond_true]
  generalize t.toNat=t at *
  unfold aD7 eC
  cases decide (0< ((c.fl.getD f.toNat aR).E p.toNat).1) with
  |true=>exact⟨.x c,rfl⟩
  |false=>
   rw [cond_false,cond_false]
   cases((cA c.gr t).2==0) with
   |false=>exact⟨.x c,rfl⟩
   |true=>
    rw [cond_true,cond_true]
    obtain⟨s1,s2⟩:=aG7 (p:=pf) (u:=ur) (l:=c.zo) (fV.ex c.zo)
    rw [s2]
    cases e3:((bX c.zo c.zo pf ur).2.2==0) with
    |false=>exact⟨.x c,rfl⟩
    |true=>
     obtain⟨m,m1,m2,m3⟩:=take_at h (eq_of_beq e3)
     rw [cond_true,cond_true]
     dsimp only
     rw [m2,show(((m+1:Nat):Int)-1).toNat=m by omega]
     have hnin:¬inL (c.ls.getD t l0) ((m+1:Nat):Int):=fun hx=>by
      obtain⟨n,u,k1,k2,k3,k4⟩:=h.mem t _ ht hx
      have :n=m:=by omega
      subst this
      rw [m3] at k3;cases k3
     refine⟨⟨rfl,rfl,s1,rfl,?_,rfl,rfl⟩,rfl⟩
     show c.ls.set t (aBL (c.ls.getD t l0) ((m+1:Nat):Int) _).1=c.ls.set t (sL (c.ls.getD t l0) ((m+1:Nat):Int) _).1
     rw [bAU _ hnin]
end Go.Proofs.YtmhapcbjjpadnaaGreat
set_option maxRecDepth 40000
namespace Go.Proofs.YtmhapcbjjpadnaaGreat
open Go Go.Sk Go.RowKit
set_option maxHeartbeats 8000000 in
theorem bFN(a b:Dc)(h:Ok b)(hs:Sim a b):aN Tryz.prog 18 [] [.agg a.c,.agg b.c] (.bool true) []:=by
 obtain⟨fl,fr,za,gr,ls,ck,pt⟩:=a
 obtain⟨fl2,fr2,zb,gr2,ls2,ck2,pt2⟩:=b
 obtain⟨e1,e2,e3,e4,e5,e6,e7⟩:=hs
 dsimp only at e1 e2 e3 e4 e5 e6 e7
 subst e1 e2 e4 e5 e6 e7
 have h3:=h.nf
 have h4:=h.nr
 have h5:=h.ng
 have h6:=h.sm.ls
 have h7:=h.sm.ck
 have h8:=h.ptl
 dsimp only at h3 h4 h5 h6 h7 h8
 have hzb:=h.smZ
 have hza:eI za:=lX (by rw [e3.check];exact h.zone)
 have k89:=bJS za zb false false hza hzb
 rw [aQR e3] at k89
 have k90:=bJT gr false false (by omega)
 have k91:=aX3 ck ck false false (by omega) (by omega)
 rw [decide_eq_true rfl] at k91
 have k92:=bJU pt false false h8
 refine aJ (ob0:= []) [] Tryz.func18 rfl rfl (aCB bHK rfl) rfl ?_
 refine Wy ?_
 refine Lp (fun i:Nat=>i≤fl.length) (fun i=> [(5,.int .i64 (i:Int))]) (fun i=> []) (fun i=>fl.length-i) 0 (zG _) ?_ ?_
 ·exact Vr [_,_]
 intro i hi
 refine Wy ?_
 refine iN (fun b=>?_) (fun b=>?_)
 ·have b:i<fl.length:=by omega
  have kf:=h.file i b
  have hg:=eL fl i b
  have k93:=bJV kf.E
  obtain⟨k0,k1,k2,k3,hfc,hcan⟩:=Df.cells kf.E
  dsimp only at hfc hcan k93
  rw [hfc] at hg
  rw [hcan] at k93
  refine Wy ?_
  refine Le (i+1) (hv:=?_)
  exact Vr [_,_]
 clear b
 refine Wy ?_
 refine Lp (fun i:Nat=>i≤fr.length) (fun i=> [(8,.int .i64 (i:Int))]) (fun i=> []) (fun i=>fr.length-i) 0 (zG _) ?_ ?_
 ·exact Vr [_,_]
 intro j hj
 refine Wy ?_
 refine iN (fun b=>?_) (fun b=>?_)
 ·have b:j<fr.length:=by omega
  have hg:=cD fr j b
  cases hu:fr.getD j none with
  |none=>
   rw [hu] at hg
   have hg:(aV fr).getD j []=fre.c:=hg
   refine Wy ?_
   refine Le (j+1) (hv:=?_)
   exact Vr [_,_]
  |some u=>
   rw [hu] at hg
   have hg:(aV fr).getD j []=u.c:=hg
   refine Wy ?_
   refine aC (fun c2=>?_) (fun c2=>?_)
   ·simp [aMM] at c2
   refine Wy ?_
   refine Le (j+1) (hv:=?_)
   exact Vr [_,_]
 clear b
 refine Wy ?_
 refine Lp (fun i:Nat=>i≤ls.length) (fun i=> [(9,.int .i64 (i:Int))]) (fun i=> []) (fun i=>ls.length-i) 0 (zG _) ?_ ?_
 ·exact Vr [_,_]
 intro k hk
 refine Wy ?_
 refine iN (fun b=>?_) (fun b=>?_)
 ·have b:k<ls.length:=by omega
  have hg:=jO ls k b
  have hl:=h.smL k
  dsimp only at hl
  have k94:=bJW (ls.getD k l0) (ls.getD k l0) hl hl
  have e94:aOM (ls.getD k l0) (ls.getD k l0)=true:=by simp [aOM]
  rw [e94] at k94
  generalize ls.getD k l0=l at *
  refine Wy ?_
  refine Le (k+1) (hv:=?_)
  exact Vr [_,_]
 exact qA
end Go.Proofs.YtmhapcbjjpadnaaGreat
