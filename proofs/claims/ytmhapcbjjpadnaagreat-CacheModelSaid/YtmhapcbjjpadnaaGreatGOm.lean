/- Caches. -/
import Derived.Test.YtmhapcbjjpadnaaGreatGKm
import Derived.Test.YtmhapcbjjpadnaaGreatGNm
import Derived.Test.YtmhapcbjjpadnaaGreatG9m
import Derived.Test.YtmhapcbjjpadnaaGreatGBm
import Derived.Test.YtmhapcbjjpadnaaGreatG2m
set_option linter.unusedSimpArgs false
set_option linter.unusedVariables false
open Int renaming toNat_natCast→zA
open List renaming getElem_mem→zC,length_set→zD
open Nat renaming le_refl→zE
set_option linter.constructorNameAsVariable false
set_option maxRecDepth 40000
namespace Go.Proofs.YtmhapcbjjpadnaaGreat
open Go Go.Sk Go.RowKit
def mkN(u:Us):Nat:=(bif u.p.d != 0 then 1 else 0)+(bif u.wr != 0 then 2 else 0)
def iL(c:Dc):Prop:=∀m u,m<c.fr.length→c.fr.getD m none=some u→((c.fl.getD u.file aK).E u.page).2=mkN u
theorem aNH {E:cI} {i m:Nat} {on:Bool} {j:Nat} (h:j≠i):iQ E i on m j=E j:=by
 unfold iQ;rw [cW h]
theorem pT {E:cI} {u:Us} {j:Nat} (h:j≠u.page):mE E u j=E j:=by unfold mE;rw [aNH h,aNH h]
theorem aIR {E:cI} {u v:Us} (h:(E u.page).2=mkN v):(mE E u u.page).2=mkN u:=by
 unfold mE
 generalize u.page=p at *
 have e:∀(E:cI) (on:Bool) (m:Nat),(iQ E p on m p).2=(bif on then(E p).2 ||| m else gP false (E p).2 m):=fun E on m=>by
  unfold iQ
  rw [cR]
  cases on <;> rfl
 rw [e,e,h]
 unfold mkN
 cases(u.p.d != 0)<;> cases(u.wr != 0)<;> cases(v.p.d != 0)<;> cases(v.wr != 0)<;> rfl
theorem aX2 {E:cI} {u:Us} (h:(E u.page).2=mkN u):mE E u=E:=by
 funext j
 by_cases e:j=u.page
 ·subst e
  have h1:=aIR (E:=E) (u:=u) h
  exact Prod.ext (sZ E u u.page) (h1.trans h.symm)
 ·exact pT e
theorem aJ9 {c:Dc} (h:Ok c)(hm:iL c) {m:Nat} {u u':Us} (h1:m<c.fr.length)(h2:c.fr.getD m none=some u)(hk:gW u'=gW u)(hn:mkN u'=mkN u):c.put m u'=c.setU m u':=by
 have hu:=h.use m u h1 h2
 have hM:=hm m u h1 h2
 simp only [gW,Prod.mk.injEq] at hk
 obtain⟨e1,e2,e3⟩:=hk
 have hE:mE (c.fl.getD u'.file aK).E u'=(c.fl.getD u'.file aK).E:=aX2 (by rw [e1,e2,hn];exact hM)
 unfold Dc.put Dc.mark
 have hs:(c.setU m u').fl=c.fl:=rfl
 rw [hs,hE]
 have :c.fl.set u'.file (dG (c.fl.getD u'.file aK) (c.fl.getD u'.file aK).E)=c.fl:=by
  apply List.ext_getElem?
  intro j
  rw [List.getElem?_set]
  split
  ·rename_i e
   subst e
   have hl:u'.file<c.fl.length:=by rw [e1];exact hu.file
   rw [if_pos hl,List.getD_eq_getElem?_getD,List.getElem?_eq_getElem hl];rfl
  ·rfl
 rw [this];rfl
theorem iL.keep {c d:Dc} (hm:iL c)(hfr:d.fr=c.fr)(hE:∀f p,((d.fl.getD f aK).E p).2=((c.fl.getD f aK).E p).2):iL d:=fun m u h1 h2=>by
 rw [hfr] at h1 h2
 rw [hE];exact hm m u h1 h2
theorem iL.put {c:Dc} (h:Ok c)(hm:iL c) {m:Nat} {u u':Us} (h1:m<c.fr.length)(h2:c.fr.getD m none=some u)(hk:gW u'=gW u):iL (c.put m u'):=fun n w k1 k2=>by
 have hu:=h.use m u h1 h2
 have hM:=hm m u h1 h2
 simp only [gW,Prod.mk.injEq] at hk
 obtain⟨e1,e2,e3⟩:=hk
 have hl:u'.file<c.fl.length:=by rw [e1];exact hu.file
 have k2:(c.fr.set m (some u')).getD n none=some w:=k2
 have k1:n<c.fr.length:=by rw [aBT] at k1;exact k1
 show(((c.fl.set u'.file (dG (c.fl.getD u'.file aK) (mE (c.fl.getD u'.file aK).E u'))).getD w.file aK).E w.page).2=mkN w
 by_cases e:n=m
 ·subst e
  rw [aD _ _ _ _ h1] at k2
  injection k2 with k2
  subst k2
  rw [aD _ _ _ _ hl,dK]
  exact aIR (v:=u) (by rw [e1,e2];exact hM)
 ·rw [getD_set_ne _ _ _ e] at k2
  have hw:=h.use n w k1 k2
  by_cases x:w.file=u'.file
  ·rw [x,aD _ _ _ _ hl,dK,pT,←x]
   ·exact hm n w k1 k2
   ·intro y
    have a:=hw.val
    have b:=hu.val
    rw [x,y,e1,e2,b] at a
    omega
  ·rw [getD_set_ne _ _ _ x]
   exact hm n w k1 k2
theorem iL.gone {c:Dc} (h:Ok c)(hm:iL c) {m:Nat} {u:Us} (h1:m<c.fr.length)(h2:c.fr.getD m none=some u)(v:Int):iL (c.gone m u v):=fun n w k1 k2=>by
 have hu:=h.use m u h1 h2
 have k2:(c.fr.set m none).getD n none=some w:=k2
 have k1:n<c.fr.length:=by
  have :(c.gone m u v).fr.length=c.fr.length:=zD ..
  omega
 show(((c.fl.set u.file (dG (c.fl.getD u.file aK) (dA (c.fl.getD u.file aK).E u.page (v,0)))).getD w.file aK).E w.page).2=mkN w
 by_cases e:n=m
 ·subst e
  rw [aD _ _ _ _ h1] at k2;cases k2
 ·rw [getD_set_ne _ _ _ e] at k2
  have hw:=h.use n w k1 k2
  by_cases x:w.file=u.file
  ·rw [x,aD _ _ _ _ hu.file,dK,cW,←x]
   ·exact hm n w k1 k2
   ·intro y
    have a:=hw.val
    have b:=hu.val
    rw [x,y,b] at a
    omega
  ·rw [getD_set_ne _ _ _ x]
   exact hm n w k1 k2
theorem iL.ins {c:Dc} (h:Ok c)(hm:iL c) {f p t m:Nat} {z:List Zn} {g:List Gr} (hf:f<c.fl.length)(hE:((c.fl.getD f aK).E p).1≤0)(h1:m<c.fr.length):iL (c.ins f p t z g m):=fun n w k1 k2=>by
 have k2:(c.fr.set m (some (qP c f p t))).getD n none=some w:=k2
 have k1:n<c.fr.length:=by
  have :(c.ins f p t z g m).fr.length=c.fr.length:=zD ..
  omega
 show(((c.fl.set f (dG (c.fl.getD f aK) (dA (c.fl.getD f aK).E p (((m+1:Nat):Int),0)))).getD w.file aK).E w.page).2=mkN w
 by_cases e:n=m
 ·subst e
  rw [aD _ _ _ _ h1] at k2
  injection k2 with k2
  subst k2
  show(((c.fl.set f (dG (c.fl.getD f aK) (dA (c.fl.getD f aK).E p (((n+1:Nat):Int),0)))).getD f aK).E p).2=_
  rw [aD _ _ _ _ hf,dK,cR]
  unfold mkN qP aIX
  cases eU (c.fl.getD f aK).blocks p <;> rfl
 ·rw [getD_set_ne _ _ _ e] at k2
  have hw:=h.use n w k1 k2
  by_cases x:w.file=f
  ·rw [x,aD _ _ _ _ hf,dK,cW,←x]
   ·exact hm n w k1 k2
   ·intro y
    have a:=hw.val
    rw [x,y] at a
    omega
  ·rw [getD_set_ne _ _ _ x]
   exact hm n w k1 k2
theorem iL.fl1 {c:Dc} (hm:iL c) {f:Nat} {x:Df} (hf:f<c.fl.length)(hE:x.E=(c.fl.getD f aK).E):iL ⟨c.fl.set f x,c.fr,c.zo,c.gr,c.ls,c.ck,c.pt⟩:=hm.keep rfl fun g p=>by
 show(((c.fl.set f x).getD g aK).E p).2=_
 by_cases e:g=f
 ·subst e;rw [aD _ _ _ _ hf,hE]
 ·rw [getD_set_ne _ _ _ e]
theorem iL.e0 {c:Dc} (h:Ok c)(hm:iL c) {f p:Nat} (hf:f<c.fl.length)(hn:cC c f p=none):iL (c.e0 f p):=fun n w k1 k2=>by
 have hz:=uP h hf hn
 have hw:=h.use n w k1 k2
 show(((c.fl.set f (dG (c.fl.getD f aK) (dA (c.fl.getD f aK).E p (0,0)))).getD w.file aK).E w.page).2=mkN w
 by_cases x:w.file=f
 ·rw [x,aD _ _ _ _ hf,dK,cW,←x]
  ·exact hm n w k1 k2
  ·intro y
   have a:=hw.val
   rw [x,y] at a
   omega
 ·rw [getD_set_ne _ _ _ x]
  exact hm n w k1 k2
end Go.Proofs.YtmhapcbjjpadnaaGreat
set_option maxRecDepth 40000
namespace Go.Proofs.YtmhapcbjjpadnaaGreat
open Go Go.Sk Go.RowKit
theorem iL.acc {c:Dc} (hm:iL c)(m t:Nat):iL (c.acc m t):=hm.keep rfl fun _ _=>rfl
theorem aSF {c:Dc} (h:Ok c)(hm:iL c) {f p t:Nat} (pf:Int)(ur:Bool)(hf:f<c.fl.length):iL (eA c f p t pf ur).1:=by
 unfold eA
 by_cases e1:0< ((c.fl.getD f aK).E p).1
 ·rw [decide_eq_true e1];exact hm
 rw [decide_eq_false e1,cond_false]
 cases e2:((cB c.gr t).2==0) with
 |false=>exact hm
 |true=>
  rw [cond_true]
  cases e3:((bX c.zo c.zo pf ur).2.2==0) with
  |false=>exact hm
  |true=>
   obtain⟨m,m1,m2,m3⟩:=take_at h (eq_of_beq e3)
   rw [cond_true]
   dsimp only
   rw [m2,show(((m+1:Nat):Int)-1).toNat=m by omega]
   exact hm.ins h hf (by omega) m1
theorem aSG {c:Dc} (h:Ok c)(hm:iL c)(f p t pf:Int)(ur:Bool):iL (jB c f p t pf ur).1:=by
 unfold jB inI
 by_cases e:(0≤f∧f< (c.fl.length:Int))∧(0≤p∧p<8)∧(0≤t∧t< (c.gr.length:Int))∧0≤pf∧pf< (c.zo.length:Int)
 ·rw [decide_eq_true e];exact aSF h hm pf ur (by omega)
 ·rw [decide_eq_false e];exact hm
theorem aXO {c:Dc} (h:Ok c)(hm:iL c)(n k:Int):iL (rbG c n k).1:=by
 unfold rbG
 rcases cK c n with ⟨e,hu⟩| ⟨m,u,e,rfl,h1,h2⟩
 ·rw [e];exact hm
 ·rw [e]
  dsimp only
  cases decide ((1≤k∧k≤3)∧k.toNat &&& (u.p.v ||| u.rd)=0) with
  |true=>exact hm.put h h1 h2 rfl
  |false=>exact hm
theorem aY0 {c:Dc} (h:Ok c)(hm:iL c)(n:Int)(d:ByteArray)(ok:Bool):iL (reG c n d ok).1:=by
 unfold reG
 rcases cK c n with ⟨e,hu⟩| ⟨m,u,e,rfl,h1,h2⟩
 ·rw [e];exact hm
 ·rw [e]
  dsimp only
  unfold uR
  cases(u.rd==0) with
  |true=>exact hm
  |false=>
   cases(ok&&decide (d.size≠16)) with
   |true=>exact hm
   |false=>exact hm.put h h1 h2 rfl
theorem aJR {c:Dc} (h:Ok c)(hm:iL c) {f:Nat} (e:Int)(hf:f<c.fl.length):iL (bT c f e).1:=by
 unfold bT
 split
 ·exact hm
 ·split
  ·exact hm
  ·rename_i m u hp
   obtain⟨q1,q2,q3,q4,q5⟩:=bI h hf hp
   cases(gP false _ u.p.v==0) with
   |true=>exact hm.put h q1 q2 rfl
   |false=>exact hm
theorem aHD {c:Dc} (h:Ok c)(hm:iL c) {f off:Nat} {s:ByteArray} (hf:f<c.fl.length)(hb:off+s.size≤128):∀k,k≤cnt off s.size→iL (iZ c f off s k)
 |0,_=>hm
 |k+1,hk=>by
  have ih:=aHD h hm hf hb k (by omega)
  obtain⟨o1,o2,o3⟩:=pO h hf hb k (by omega)
  rw [iZ]
  split
  ·rename_i m u hp
   have hf1:f< (iZ c f off s k).fl.length:=by rw [o2];exact hf
   obtain⟨q1,q2,q3,q4,q5⟩:=bI o1 hf1 hp
   refine iL.acc (iL.put o1 ih q1 q2 ?_) _ _
   rfl
  ·exact ih
theorem aVB {c:Dc} (h:Ok c)(hm:iL c)(f off:Int)(s:ByteArray):iL (vB c f off s).1:=by
 unfold vB
 cases hr:jA c f off s.size with
 |false=>exact hm
 |true=>
  obtain⟨f,off,n,rfl,rfl,e,hf,hb⟩:=eC hr
  have hb:off+s.size≤128:=by omega
  rw [cond_true,zA,zA]
  unfold lM
  cases(s.size==0) with
  |true=>exact hm
  |false=>
   rw [cond_false]
   obtain⟨o1,o2,o3,o4⟩:=pL h ((off+s.size:Nat):Int) hf
   have hm1:=aJR h hm ((off+s.size:Nat):Int) hf
   have hf1:f< (bT c f ((off+s.size:Nat):Int)).1.fl.length:=by rw [o2];exact hf
   obtain⟨w1,w2,w3⟩:=pO o1 (s:=s) (off:=off) hf1 hb _ (zE _)
   have hm2:=aHD o1 hm1 (s:=s) (off:=off) hf1 hb _ (zE _)
   cases fK c f off s.size true (cnt off s.size) with
   |none=>exact hm
   |some L=>
    dsimp only
    cases((bT c f ((off+s.size:Nat):Int)).2==4) with
    |true=>exact hm
    |false=>
     rw [cond_false]
     cases(L.isEmpty&&(bT c f ((off+s.size:Nat):Int)).2==0) with
     |false=>exact hm
     |true=>exact hm2.fl1 (by rw [w2];exact hf1) rfl
theorem aWI {c:Dc} (h:Ok c)(hm:iL c)(n:Int):iL (evG c n).1:=by
 unfold evG
 rcases cK c n with ⟨e,hu⟩| ⟨m,u,e,rfl,h1,h2⟩
 ·rw [e];exact hm
 ·rw [e]
  dsimp only
  cases(pR u&&decide (u.p.d=0)) with
  |false=>exact hm
  |true=>exact(hm.gone h h1 h2 (0- (c.ck.getD u.ten 0+1))).keep rfl fun _ _=>rfl
theorem aUZ {c:Dc} (h:Ok c)(hm:iL c) {f off n p:Nat} (hf:f<c.fl.length):iL (sH c f off n p):=by
 unfold sH
 cases pW c f off n p with
 |true=>
  rw [cond_true]
  cases hp:cC c f p with
  |none=>
   have k:=hm.e0 h hf hp
   exact k.fl1 (by show f< (c.fl.set f _).length;rw [zD];exact hf) rfl
  |some x=>
   obtain⟨m,u⟩:=x
   obtain⟨q1,q2,q3,q4,q5⟩:=bI h hf hp
   have k:=hm.gone h q1 q2 0
   exact k.fl1 (by show f< (c.fl.set u.file _).length;rw [zD];exact hf) rfl
 |false=>
  rw [cond_false]
  cases hp:cC c f p with
  |none=>exact hm
  |some x=>
   obtain⟨m,u⟩:=x
   obtain⟨q1,q2,q3,q4,q5⟩:=bI h hf hp
   exact hm.put h q1 q2 rfl
theorem aDU {c:Dc} (h:Ok c)(hm:iL c) {f off n:Nat} (hf:f<c.fl.length)(hb:off+n≤128):∀k,k≤cnt off n→iL (pY c f off n k)
 |0,_=>hm
 |k+1,hk=>by
  have ih:=aDU h hm hf hb k (by omega)
  obtain⟨o1,o2,o3,o4⟩:=jU h hf hb k (by omega)
  exact aUZ o1 ih (by rw [o2];exact hf)
theorem aTZ {c:Dc} (h:Ok c)(hm:iL c)(f off n:Int):iL (uQ c f off n).1:=by
 unfold uQ
 cases hr:jA c f off n with
 |false=>exact hm
 |true=>
  obtain⟨f,off,n,rfl,rfl,rfl,hf,hb⟩:=eC hr
  rw [cond_true]
  simp only [zA]
  have hrd:bY c f off n≤n:=by unfold bY;omega
  unfold aLN
  cases(eI c f off (bY c f off n) (cnt off (bY c f off n))).2.2 with
  |false=>exact hm
  |true=>exact aDU h hm hf (by omega) _ (zE _)
theorem aUP {c:Dc} (h:Ok c)(hm:iL c)(f z:Int):iL (uU c f z).1:=by
 unfold uU
 cases hr:jA c f z 0 with
 |false=>exact hm
 |true=>
  obtain⟨f,z,n,rfl,rfl,-,hf,hb⟩:=eC hr
  rw [cond_true]
  simp only [zA]
  obtain⟨o1,o2,o3,o4⟩:=pL h (z:Int) hf
  have hm1:=aJR h hm (z:Int) hf
  have hf1:f< (bT c f (z:Int)).1.fl.length:=by rw [o2];exact hf
  have hrd:bY (bT c f (z:Int)).1 f z (128-z)≤128-z:=by unfold bY;omega
  have hm2:=aDU o1 hm1 (off:=z) (n:=bY (bT c f (z:Int)).1 f z (128-z)) hf1 (by omega) _ (zE _)
  have hw:=jU o1 (f:=f) (off:=z) (n:=bY (bT c f (z:Int)).1 f z (128-z)) hf1 (by omega) _ (zE _)
  unfold aM5
  cases((bT c f (z:Int)).2==0) with
  |false=>exact hm
  |true=>
   rw [cond_true]
   cases(eI c f z (bY c f z (128-z)) (cnt z (bY c f z (128-z)))).2.2 with
   |false=>exact hm
   |true=>exact hm2.fl1 (by rw [hw.2.1];exact hf1) rfl
structure kI(a b:Dc):Prop where
 fl:a.fl=b.fl
 fr:a.fr=b.fr
 zo:eX a.zo b.zo
 gr:a.gr=b.gr
 ls:a.ls=b.ls
 ck:a.ck=b.ck
 pt:a.pt=b.pt
theorem aGO(l:List Zn):eX (l.map vD) l:=by
 show(l.map vD).map fH=l.map fH
 rw [List.map_map];rfl
theorem kI.x(c:Dc):kI c.x c:=⟨rfl,rfl,aGO _,rfl,rfl,rfl,rfl⟩
theorem kI.xu(c:Dc)(m:Nat)(u:Us):kI (c.x.setU m u) (c.setU m u):=⟨rfl,rfl,aGO _,rfl,rfl,rfl,rfl⟩
theorem aU4 {c:Dc} (h:Ok c)(hm:iL c)(n k:Int):kI (rbP c n k).1 (rbG c n k).1∧(rbP c n k).2=(rbG c n k).2:=by
 unfold rbP rbG
 rcases cK c n with ⟨e,hu⟩| ⟨m,u,e,rfl,h1,h2⟩
 ·rw [e];exact⟨.x c,rfl⟩
 ·rw [e]
  dsimp only
  cases decide ((1≤k∧k≤3)∧k.toNat &&& (u.p.v ||| u.rd)=0) with
  |true=>
   rw [cond_true,cond_true,aJ9 h hm h1 h2 (u':=aFE u (u.rd ||| k.toNat)) rfl rfl]
   exact⟨.xu _ _ _,rfl⟩
  |false=>exact⟨.x c,rfl⟩
theorem bD6 {c:Dc} (h:Ok c)(hm:iL c)(n:Int)(d:ByteArray)(ok:Bool):kI (reP c n d ok).1 (reG c n d ok).1∧(reP c n d ok).2=(reG c n d ok).2:=by
 unfold reP reG
 rcases cK c n with ⟨e,hu⟩| ⟨m,u,e,rfl,h1,h2⟩
 ·rw [e];exact⟨.x c,rfl⟩
 ·rw [e]
  dsimp only
  unfold aUF uR
  cases(u.rd==0) with
  |true=>exact⟨.x c,rfl⟩
  |false=>
   rw [cond_false,cond_false]
   cases(ok&&decide (d.size≠16)) with
   |true=>exact⟨.x c,rfl⟩
   |false=>
    have e:mkN (aAU c u d ok)=mkN u:=by cases ok <;> rfl
    rw [cond_false,cond_false,aJ9 h hm h1 h2 (u':=aAU c u d ok) rfl e]
    exact⟨.xu _ _ _,rfl⟩
theorem aS7(l:List Zn)(h:bH l=true)(f:Int):eX (eB ((l.map vD).map fH) (l.map vD) f).1 (eB l l f).1:=by
 have hs:=aGO l
 have hc:bH (l.map vD)=true:=by rw [hs.check];exact h
 have k1:=rL (base:=(l.map vD).map fH) (f:=f) hc
 have k2:=rL (base:=l) (f:=f) h
 have hb:eX ((l.map vD).map fH) l:=(eX.ex _).trans hs
 have hgt:∀i (hi:i< (l.map vD).length),(l.map vD)[i]=vD (l[i]'(by simpa using hi)):=fun i hi=>List.getElem_map ..
 have hcl:=((dH l).1 h).1
 generalize eB ((l.map vD).map fH) (l.map vD) f=q1 at *
 generalize eB l l f=q2 at *
 have uniq:∀i j (hi:i<l.length) (hj:j<l.length),l[i].first≤f∧f<l[i].first+l[i].size→l[j].first≤f∧f<l[j].first+l[j].size→i=j:=fun i j hi hj a b=>by
  rcases Nat.lt_trichotomy i j with e |e |e
  ·have :=hcl.sep i j hi hj e;omega
  ·exact e
  ·have :=hcl.sep j i hj hi e;omega
 cases k1 with
 |range a=>
  cases k2 with
  |range _=>exact hb
  |free i hi hf hm=>exact absurd hf (a (vD l[i]) (List.mem_map.2 ⟨l[i],zC hi,rfl⟩))
  |ok i hi hf hm=>exact absurd hf (a (vD l[i]) (List.mem_map.2 ⟨l[i],zC hi,rfl⟩))
 |free i hi hf hm=>
  have hi':i<l.length:=by simpa using hi
  rw [hgt i hi] at hf hm
  have hf:l[i].first≤f∧f<l[i].first+l[i].size:=hf
  cases k2 with
  |range a=>exact absurd hf (a _ (zC hi'))
  |free _ _ _ _=>exact hb
  |ok j hj hf2 hm2=>
   have :=uniq i j hi' hj hf hf2
   subst this
   exact absurd hm hm2
 |ok i hi hf hm=>
  have hi':i<l.length:=by simpa using hi
  rw [hgt i hi] at hf hm⊢
  have hf:l[i].first≤f∧f<l[i].first+l[i].size:=hf
  cases k2 with
  |range a=>exact absurd hf (a _ (zC hi'))
  |free j hj hf2 hm2=>
   have :=uniq i j hi' hj hf hf2
   subst this
   exact absurd hm2 hm
  |ok j hj hf2 hm2=>
   have :=uniq i j hi' hj hf hf2
   subst this
   exact hb.set i rfl
theorem bBH {c:Dc} (h:Ok c)(n:Int):kI (evP c n).1 (evG c n).1∧(evP c n).2=(evG c n).2:=by
 unfold evP evG
 rcases cK c n with ⟨e,hu⟩| ⟨m,u,e,rfl,h1,h2⟩
 ·rw [e];exact⟨.x c,rfl⟩
 ·rw [e]
  dsimp only
  cases(pR u&&decide (u.p.d=0)) with
  |false=>exact⟨.x c,rfl⟩
  |true=>exact⟨⟨rfl,rfl,aS7 c.zo h.zone _,rfl,rfl,rfl,rfl⟩,rfl⟩
theorem bB2 {l:Ls} {f:Int} (act:Bool)(hn:¬inL l f):aB7 l f act=aDY l f act:=by
 have h1:wo l.A f=l.A:=rX fun h=>hn (.inl h)
 have h2:wo l.I f=l.I:=rX fun h=>hn (.inr h)
 unfold aB7 aDY aR8
 dsimp only
 rw [h1,h2]
theorem aND {c:Dc} (h:Ok c)(f p t pf:Int)(ur:Bool):kI (qO c f p t pf ur).1 (jB c f p t pf ur).1∧(qO c f p t pf ur).2=(jB c f p t pf ur).2:=by
 unfold qO jB
 cases hi:inI c f p t pf with
 |false=>exact⟨.x c,rfl⟩
 |true=>
  unfold inI at hi
  have hi:=of_decide_eq_true hi
  have ht:t.toNat<c.ls.length:=by rw [h.nl];omega
  rw [cond_true,cond_true]
  generalize t.toNat=t at *
  unfold aCU eA
  cases decide (0< ((c.fl.getD f.toNat aK).E p.toNat).1) with
  |true=>exact⟨.x c,rfl⟩
  |false=>
   rw [cond_false,cond_false]
   cases((cB c.gr t).2==0) with
   |false=>exact⟨.x c,rfl⟩
   |true=>
    rw [cond_true,cond_true]
    obtain⟨s1,s2⟩:=aFO (p:=pf) (u:=ur) (l:=c.zo) (eX.ex c.zo)
    rw [s2]
    cases e3:((bX c.zo c.zo pf ur).2.2==0) with
    |false=>exact⟨.x c,rfl⟩
    |true=>
     obtain⟨m,m1,m2,m3⟩:=take_at h (eq_of_beq e3)
     rw [cond_true,cond_true]
     dsimp only
     rw [m2,show(((m+1:Nat):Int)-1).toNat=m by omega]
     have hnin:¬inL (c.ls.getD t l0) ((m+1:Nat):Int):=fun hx=>by
      obtain⟨n,u,k1,k2,k3,k4⟩:=h.mem t _ ht hx
      have :n=m:=by omega
      subst this
      rw [m3] at k3;cases k3
     refine⟨⟨rfl,rfl,s1,rfl,?_,rfl,rfl⟩,rfl⟩
     show c.ls.set t (aB7 (c.ls.getD t l0) ((m+1:Nat):Int) _).1=c.ls.set t (aDY (c.ls.getD t l0) ((m+1:Nat):Int) _).1
     rw [bB2 _ hnin]
end Go.Proofs.YtmhapcbjjpadnaaGreat
set_option maxRecDepth 40000
namespace Go.Proofs.YtmhapcbjjpadnaaGreat
open Go Go.Sk Go.RowKit
end Go.Proofs.YtmhapcbjjpadnaaGreat
