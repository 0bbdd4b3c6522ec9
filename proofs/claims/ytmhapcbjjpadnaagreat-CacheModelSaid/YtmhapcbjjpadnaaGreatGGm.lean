/- Caches. -/
import Derived.Test.YtmhapcbjjpadnaaGreatGFm
set_option linter.unusedSimpArgs false
set_option linter.unusedVariables false
open List renaming length_set→zA
open Nat renaming le_of_not_lt→zC,zero_lt_succ→zD,or_lt_two_pow→zE
set_option linter.constructorNameAsVariable false
set_option maxRecDepth 40000
namespace Go.Proofs.YtmhapcbjjpadnaaGreat
open Go Go.Sk Go.RowKit
theorem bGU(c:Dc)(m:Nat)(u:Us)(f p:Nat):(((c.put m u).fl.getD f aK).E p).1=((c.fl.getD f aK).E p).1:=by
 show(((c.fl.set u.file (dG (c.fl.getD u.file aK) (mE (c.fl.getD u.file aK).E u))).getD f aK).E p).1=_
 by_cases e:f=u.file
 ·subst e
  by_cases hl:u.file<c.fl.length
  ·rw [aD _ _ _ _ hl,dK,sZ]
  ·rw [fD _ _ (zC hl)]
 ·rw [getD_set_ne _ _ _ e]
@[simp] theorem mJ (c:Dc) (m:Nat) (u:Us):(c.put m u).fl.length=c.fl.length:=zA ..
@[simp] theorem aBT (c:Dc) (m:Nat) (u:Us):(c.put m u).fr.length=c.fr.length:=zA ..
theorem rQ {c:Dc} (h:Ok c) {m:Nat} {u u':Us} (hm:m<c.fr.length)(hu:c.fr.getD m none=some u)(f p:Nat)(hf:f<c.fl.length):cC (c.put m u') f p=if f=u.file∧p=u.page then some (m,u') else cC c f p:=by
 have k:=h.use m u hm hu
 unfold cC
 rw [bGU]
 have e:∀j,(c.put m u').fr.getD j none=if j=m then some u' else c.fr.getD j none:=fun j=>by
  show(c.fr.set m (some u')).getD j none=_
  by_cases e:j=m
  ·subst e;rw [aD _ _ _ _ hm,if_pos rfl]
  ·rw [getD_set_ne _ _ _ e,if_neg e]
 rw [e]
 by_cases e1:f=u.file∧p=u.page
 ·obtain⟨rfl,rfl⟩:=e1
  rw [k.val,decide_eq_true (by omega),cond_true,show(((m+1:Nat):Int)-1).toNat=m by omega,if_pos rfl,if_pos (And.intro rfl rfl)];rfl
 ·rw [if_neg e1]
  cases hd:decide (0< ((c.fl.getD f aK).E p).1) with
  |false=>rfl
  |true=>
   obtain⟨n,w,k1,k2,k3,k4,k5⟩:=h.ent f p hf (of_decide_eq_true hd)
   rw [k2,show(((n+1:Nat):Int)-1).toNat=n by omega,if_neg]
   rintro rfl
   rw [hu] at k3
   injection k3 with k3
   subst k3
   exact e1 ⟨k4.symm,k5.symm⟩
theorem aAB {c:Dc} {f off n:Nat} {w:Bool} :∀ {j:Nat},fK c f off n w j=some []→∀k,k<j→∀m u,cC c f (off/16+k)=some (m,u)→gL u off n (off/16+k) w=0
 |0,_,k,hk=>by omega
 |j+1,h,k,hk=>by
  intro m u hp
  rw [fK] at h
  split at h
  ·rename_i L0 m' u' h1 h2
   have h:=Option.some.inj h
   cases hz:(gL u' off n (off/16+j) w==0) with
   |false=>rw [hz,cond_false] at h;simp at h
   |true=>
    rw [hz,cond_true] at h
    subst h
    by_cases e:k=j
    ·subst e
     rw [h2] at hp
     obtain⟨rfl,rfl⟩:=Prod.mk.inj (Option.some.inj hp)
     exact beq_iff_eq.1 hz
    ·exact aAB h1 k (by omega) m u hp
  ·cases h
theorem aK4 {b s:ByteArray} {off:Nat} (h:off+s.size≤b.size):(rH b off s).size=b.size:=by
 unfold rH
 rw [fI,fI,cA,cA];omega
theorem oB {p:Pg} (h:dU p) {off:Nat} {s:ByteArray} (hr:off+s.size≤16):dU (dX p off s):=by
 have ht:tch off s.size<4:=(pN off s.size (Nat.le_refl 2)).1
 have key:∀v d t:Fin 4,gP false d.val v.val=0→(v.val ||| t.val)<4∧(d.val ||| t.val)<4∧gP false (d.val ||| t.val) (v.val ||| t.val)=0:=by decide
 obtain⟨h1,h2,h3⟩:=key ⟨p.v,h.v⟩ ⟨p.d,h.d⟩ ⟨tch off s.size,ht⟩ h.sub
 exact⟨by show(rH p.b off s).size=16;rw [aK4 (by rw [h.size];exact hr),h.size],h1,h2,h3⟩
def jG(p off n:Nat):Nat:=p*16+(aP p off n).1-off
def iZ(c:Dc)(f off:Nat)(s:ByteArray):Nat→Dc
 |0=>c
 |k+1=>match cC (iZ c f off s k) f (off/16+k) with
  |some (m,u)=>((iZ c f off s k).put m (cD u (dX u.p (aP (off/16+k) off s.size).1 (s.extract (jG (off/16+k) off s.size) (jG (off/16+k) off s.size+(aP (off/16+k) off s.size).2))))).acc m u.ten
  |none=>iZ c f off s k
theorem aS5 {off n k:Nat} (hk:k<cnt off n):jG (off/16+k) off n+(aP (off/16+k) off n).2≤n∧off≤(off/16+k)*16+(aP (off/16+k) off n).1:=by
 have :=fF hk
 unfold jG
 omega
theorem aHE {s:ByteArray} {off k:Nat} (hk:k<cnt off s.size):(s.extract (jG (off/16+k) off s.size) (jG (off/16+k) off s.size+(aP (off/16+k) off s.size).2)).size=(aP (off/16+k) off s.size).2:=by
 have :=aS5 hk
 rw [cA];omega
theorem Ok.put' {c:Dc} (h:Ok c) {n:Nat} {u:Us} {p:Pg} (hn:n<c.fr.length)(hu:c.fr.getD n none=some u)(hp:dU p):Ok (c.put n (cD u p)):=
 have k:=h.use n u hn hu
 h.put hn hu rfl hp k.holds k.rd k.wr
theorem pO {c:Dc} (h:Ok c) {f off:Nat} {s:ByteArray} (hf:f<c.fl.length)(hb:off+s.size≤128):∀k,k≤cnt off s.size→Ok (iZ c f off s k)∧(iZ c f off s k).fl.length=c.fl.length∧∀i,k≤i→cC (iZ c f off s k) f (off/16+i)=cC c f (off/16+i)
 |0,_=>⟨h,rfl,fun _ _=>rfl⟩
 |k+1,hk=>by
  obtain⟨h1,h2,h3⟩:=pO h hf hb k (by omega)
  rw [iZ]
  split
  ·rename_i m u hp
   have hf1:f< (iZ c f off s k).fl.length:=by rw [h2];exact hf
   obtain⟨q1,q2,q3,q4,q5⟩:=bI h1 hf1 hp
   have hu:=h1.use m u q1 q2
   have hw:=oB hu.pg (off:=(aP (off/16+k) off s.size).1) (s:=s.extract (jG (off/16+k) off s.size) (jG (off/16+k) off s.size+(aP (off/16+k) off s.size).2)) (by rw [aHE hk];exact(fF hk).1)
   refine⟨(h1.put' q1 q2 hw).acc _ _,by show((iZ c f off s k).put _ _).fl.length=_;rw [mJ];exact h2,fun i hi=>?_⟩
   show cC ((iZ c f off s k).put _ _) f (off/16+i)=_
   rw [rQ h1 q1 q2 f _ hf1,if_neg (by rw [q4];omega),h3 i (by omega)]
  ·exact⟨h1,h2,fun i hi=>h3 i (by omega)⟩
def fsz(f:Df)(n:Nat):Df:=⟨f.dev,f.slot,f.E,n,f.blocks,f.ec,f.ee⟩
def Dc.sz(c:Dc)(f n:Nat):Dc:=⟨c.fl.set f (fsz (c.fl.getD f aK) n),c.fr,c.zo,c.gr,c.ls,c.ck,c.pt⟩
theorem Ok.sz {c:Dc} (h:Ok c) {f n:Nat} (hf:f<c.fl.length)(hn:n≤128):Ok (c.sz f n):=by
 refine h.same (zA ..) (fun g p=>?_) (fun g hg=>?_) rfl (fun _=>rfl) (fun m v hm hv=>?_) rfl rfl rfl h.ls (fun _ _ hx=>hx) rfl h.pt
 ·show(((c.fl.set f (fsz (c.fl.getD f aK) n)).getD g aK).E p).1=_
  by_cases e:g=f
  ·subst e;rw [aD _ _ _ _ hf];rfl
  ·rw [getD_set_ne _ _ _ e]
 ·show OkF ((c.fl.set f (fsz (c.fl.getD f aK) n)).getD g aK)
  by_cases e:g=f
  ·subst e;rw [aD _ _ _ _ hf]
   have k:=h.file g hg
   exact⟨k.E,k.sup,k.lo,hn,k.blocks,k.ec,k.ee⟩
  ·rw [getD_set_ne _ _ _ e];exact h.file g hg
 ·have :=h.use m v hm hv
  exact⟨this.pg,this.holds,this.rd,this.wr⟩
def lM(c:Dc)(f off:Nat)(s:ByteArray):Dc×Int:=bif s.size==0 then(c,0) else
 match fK c f off s.size true (cnt off s.size),(bT c f ((off+s.size:Nat):Int)).2 with
 |none,_=>(c,4)
 |some L,g=>bif g==4 then(c,4) else bif L.isEmpty&&g==0 then((iZ (bT c f ((off+s.size:Nat):Int)).1 f off s (cnt off s.size)).sz f (max ((iZ (bT c f ((off+s.size:Nat):Int)).1 f off s (cnt off s.size)).fl.getD f aK).size (off+s.size)),0) else(c,7)
theorem pL {c:Dc} (h:Ok c) {f:Nat} (e:Int)(hf:f<c.fl.length):Ok (bT c f e).1∧(bT c f e).1.fl.length=c.fl.length∧((bT c f e).2=0∨(bT c f e).2=4∨(bT c f e).2=7)∧((bT c f e).2≠0→(bT c f e).1=c):=by
 unfold bT
 split
 ·exact⟨h,rfl,.inl rfl,fun _=>rfl⟩
 ·rename_i p s ht
  obtain⟨t1,t2,t3,t4,t5⟩:=pM ht (h.file f hf).size
  split
  ·exact⟨h,rfl,.inr (.inl rfl),fun _=>rfl⟩
  ·rename_i m u hp
   obtain⟨q1,q2,q3,q4,q5⟩:=bI h hf hp
   have hu:=h.use m u q1 q2
   cases(gP false s u.p.v==0) with
   |true=>exact⟨h.put' q1 q2 (rD hu.pg t3),mJ _ _ _,.inl rfl,fun k=>absurd rfl k⟩
   |false=>exact⟨h,rfl,.inr (.inr rfl),fun _=>rfl⟩
theorem aXJ {c:Dc} (h:Ok c) {f:Nat} (e:Int)(hf:f<c.fl.length)(p:Nat):(cC (bT c f e).1 f p).map (fun x=>(x.1,x.2.p.v))=(cC c f p).map (fun x=>(x.1,x.2.p.v)):=by
 unfold bT
 split
 ·rfl
 ·rename_i pp s ht
  split
  ·rfl
  ·rename_i m u hp
   obtain⟨q1,q2,q3,q4,q5⟩:=bI h hf hp
   cases(gP false s u.p.v==0) with
   |false=>rfl
   |true=>
    show(cC (c.put m (cD u (gM u.p s))) f p).map _=_
    rw [rQ h q1 q2 f p hf]
    by_cases e1:f=u.file∧p=u.page
    ·rw [if_pos e1,e1.2,q4,hp];rfl
    ·rw [if_neg e1]
theorem aM6 {c d:Dc} {f off n:Nat} {w:Bool} (h:∀p,(cC d f p).map (fun x=>(x.1,x.2.p.v))=(cC c f p).map (fun x=>(x.1,x.2.p.v))):∀k,fK d f off n w k=fK c f off n w k
 |0=>rfl
 |k+1=>by
  have hk:=h (off/16+k)
  rw [fK,fK,aM6 h k]
  cases h1:cC d f (off/16+k) with
  |none=>
   rw [h1] at hk
   cases h2:cC c f (off/16+k) with
   |none=>rfl
   |some y=>rw [h2] at hk;cases hk
  |some x=>
   rw [h1] at hk
   cases h2:cC c f (off/16+k) with
   |none=>rw [h2] at hk;cases hk
   |some y=>
    rw [h2] at hk
    obtain⟨m,u⟩:=x
    obtain⟨m',u'⟩:=y
    simp only [Option.map_some,Option.some.injEq,Prod.mk.injEq] at hk
    obtain⟨rfl,hv⟩:=hk
    cases fK c f off n w k with
    |none=>rfl
    |some L=>
     have e:gL u off n (off/16+k) w=gL u' off n (off/16+k) w:=by unfold gL mH;rw [hv]
     dsimp only
     rw [e]
end Go.Proofs.YtmhapcbjjpadnaaGreat
set_option maxRecDepth 40000
namespace Go.Proofs.YtmhapcbjjpadnaaGreat
open Go Go.Sk Go.RowKit
theorem bAQ {L:List Df} {f n:Nat} (h:f<L.length)(hE:bK (L.getD f aK).E):(bG L).set f (aR 15 (L.getD f aK).c 6 [.int .i64 (n:Int)])=bG (L.set f (fsz (L.getD f aK) n)):=by
 rw [bG,bG,List.map_set]
 obtain⟨k0,k1,k2,k3,e,-⟩:=Df.cells hE
 obtain⟨q0,q1,q2,q3,e',e2⟩:=Df.cells (f:=fsz (L.getD f aK) n) hE
 obtain⟨k0,k1,k2,k3,e,e3⟩:=Df.cells hE
 congr 1
 unfold Df.c fsz
 dsimp only
 rw [e3]
 rfl
end Go.Proofs.YtmhapcbjjpadnaaGreat
set_option maxRecDepth 40000
namespace Go.Proofs.YtmhapcbjjpadnaaGreat
open Go Go.Sk Go.RowKit
def pW(c:Dc)(f off n p:Nat):Bool:=bif ((aP p off n).1:Int)==0 then((p*16+(aP p off n).2:Nat):Int)==((min (c.fl.getD f aK).size ((p+1)*16):Nat):Int) else false
def aIT(c:Dc)(f off n p:Nat):Bool:=bif pW c f off n p then(match cC c f p with |none=>true |some x=>pR x.2) else(match cC c f p with |none=>false |some x=>bif bif (x.2.rd:Int)==0 then(x.2.wr:Int)==0 else false then(gL x.2 off n p true:Int)==0 else false)
def eI(c:Dc)(f off n:Nat):Nat→Nat×Nat×Bool
 |0=>(0,0,true)
 |k+1=>(bif pW c f off n (off/16+k) then(eI c f off n k).1 ||| 2^(off/16+k) else(eI c f off n k).1,bif pW c f off n (off/16+k) then(eI c f off n k).2.1 else(eI c f off n k).2.1 ||| 2^(off/16+k),(eI c f off n k).2.2&&aIT c f off n (off/16+k))
theorem aMS(c:Dc)(f off n:Nat):∀k,off/16+k≤8→(eI c f off n k).1<256∧(eI c f off n k).2.1<256
 |0,_=>⟨zD _,zD _⟩
 |k+1,h=>by
  obtain⟨h1,h2⟩:=aMS c f off n k (by omega)
  have h3:2^(off/16+k)<2^8:=Nat.pow_lt_pow_right (by omega) (by omega)
  have h4:=zE (n:=8) h1 h3
  have h5:=zE (n:=8) h2 h3
  rw [eI]
  dsimp only
  cases pW c f off n (off/16+k)
  ·exact⟨h1,h5⟩
  ·exact⟨h4,h2⟩
def aW5(x:Nat×Nat×Bool):V:=.tup [.int .i64 (x.1:Int),.int .i64 (x.2.1:Int),.bool x.2.2]
end Go.Proofs.YtmhapcbjjpadnaaGreat
set_option maxRecDepth 40000
namespace Go.Proofs.YtmhapcbjjpadnaaGreat
open Go Go.Sk Go.RowKit
def fbl(f:Df)(b:Nat):Df:=⟨f.dev,f.slot,f.E,f.size,b,f.ec,f.ee⟩
def qT(b p:Nat):Nat:=b &&& (255 ^^^ 2^p)
def Dc.bl(c:Dc)(f p:Nat):Dc:=⟨c.fl.set f (fbl (c.fl.getD f aK) (qT (c.fl.getD f aK).blocks p)),c.fr,c.zo,c.gr,c.ls,c.ck,c.pt⟩
def Dc.e0(c:Dc)(f p:Nat):Dc:=⟨c.fl.set f (dG (c.fl.getD f aK) (dA (c.fl.getD f aK).E p (0,0))),c.fr,c.zo,c.gr,c.ls,c.ck,c.pt⟩
def zB(n:Nat):ByteArray:=⟨(List.replicate n (0:UInt8)).toArray⟩
theorem kK(n:Nat):(zB n).size=n:=by
 show(List.replicate n (0:UInt8)).toArray.size=n
 simp
def sH(c:Dc)(f off n p:Nat):Dc:=bif pW c f off n p then(match cC c f p with |some x=>c.gone x.1 x.2 0 |none=>c.e0 f p).bl f p else
 match cC c f p with |some x=>c.put x.1 (cD x.2 (dX x.2.p (aP p off n).1 (zB (aP p off n).2)))|none=>c
def pY(c:Dc)(f off n:Nat):Nat→Dc
 |0=>c
 |k+1=>sH (pY c f off n k) f off n (off/16+k)
theorem Ok.bl {c:Dc} (h:Ok c) {f p:Nat} (hf:f<c.fl.length)(hp:p<8):Ok (c.bl f p):=by
 refine h.same (zA ..) (fun g q=>?_) (fun g hg=>?_) rfl (fun _=>rfl) (fun m v hm hv=>?_) rfl rfl rfl h.ls (fun _ _ hx=>hx) rfl h.pt
 ·show(((c.fl.set f (fbl (c.fl.getD f aK) _)).getD g aK).E q).1=_
  by_cases e:g=f
  ·subst e;rw [aD _ _ _ _ hf];rfl
  ·rw [getD_set_ne _ _ _ e]
 ·show OkF ((c.fl.set f (fbl (c.fl.getD f aK) _)).getD g aK)
  by_cases e:g=f
  ·subst e;rw [aD _ _ _ _ hf]
   have k:=h.file g hg
   refine⟨k.E,k.sup,k.lo,k.size,?_,k.ec,k.ee⟩
   have :=Nat.and_le_left (n:=(c.fl.getD g aK).blocks) (m:=255 ^^^ 2^p)
   have hb:=k.blocks
   show qT _ p<256
   unfold qT;omega
  ·rw [getD_set_ne _ _ _ e];exact h.file g hg
 ·have :=h.use m v hm hv
  exact⟨this.pg,this.holds,this.rd,this.wr⟩
theorem Ok.e0 {c:Dc} (h:Ok c) {f p:Nat} (hf:f<c.fl.length)(hp:p<16)(hn:cC c f p=none):Ok (c.e0 f p):=by
 have hz:=uP h hf hn
 have kf:=h.file f hf
 have hE:∀g q,(((c.e0 f p).fl.getD g aK).E q).1=if g=f∧q=p then 0 else((c.fl.getD g aK).E q).1:=fun g q=>by
  show(((c.fl.set f (dG (c.fl.getD f aK) (dA (c.fl.getD f aK).E p (0,0)))).getD g aK).E q).1=_
  by_cases e:g=f
  ·subst e
   rw [aD _ _ _ _ hf,dK]
   by_cases e2:q=p
   ·subst e2;rw [cR,if_pos ⟨rfl,rfl⟩]
   ·rw [cW e2,if_neg (fun h=>e2 h.2)]
  ·rw [getD_set_ne _ _ _ e,if_neg (fun h=>e h.1)]
 have hl:(c.e0 f p).fl.length=c.fl.length:=zA ..
 refine⟨by rw [hl];exact h.nf,h.nr,h.ng,h.nl,h.nk,fun g hg=>?_,fun n u hn hu=>?_,fun g q hg hq=>?_,h.zone,h.free,h.gr,h.ls,h.mem,h.ck,h.pt⟩
 ·show OkF ((c.fl.set f (dG (c.fl.getD f aK) (dA (c.fl.getD f aK).E p (0,0)))).getD g aK)
  by_cases e:g=f
  ·subst e
   rw [aD _ _ _ _ hf]
   refine kf.dG (kf.E.set (zD _) (fun _=>rfl)) (kf.sup.set hp _) (fun q=>?_)
   by_cases e2:q=p
   ·subst e2;rw [cR];show(-1000001:Int)≤0;omega
   ·rw [cW e2];exact kf.lo q
  ·rw [getD_set_ne _ _ _ e];exact h.file g (by rw [←hl];exact hg)
 ·have k:=h.use n u hn hu
  first |refine aE ⟨by rw [hl];exact k.file,k.page,k.pg,k.ten,k.holds,k.rd,k.wr⟩ ?_ |refine⟨by rw [hl];exact k.file,k.page,k.pg,k.ten,k.holds,k.rd,k.wr,?_⟩
  rw [hE,if_neg]
  ·exact k.val
  ·rintro ⟨e1,e2⟩
   have :=k.val
   rw [e1,e2] at this
   omega
 ·rw [hE] at hq⊢
  by_cases e:g=f∧q=p
  ·rw [if_pos e] at hq;omega
  ·rw [if_neg e] at hq⊢
   exact h.ent g q (by rw [←hl];exact hg) hq
theorem aS8 {c:Dc} {m:Nat} {u:Us} {v:Int} (f p:Nat)(hf:u.file<c.fl.length):(((c.gone m u v).fl.getD f aK).E p).1=if f=u.file∧p=u.page then v else((c.fl.getD f aK).E p).1:=by
 show(((c.fl.set u.file (dG (c.fl.getD u.file aK) (dA (c.fl.getD u.file aK).E u.page (v,0)))).getD f aK).E p).1=_
 by_cases e:f=u.file
 ·subst e
  rw [aD _ _ _ _ hf,dK]
  by_cases e2:p=u.page
  ·subst e2;rw [cR,if_pos ⟨rfl,rfl⟩]
  ·rw [cW e2,if_neg (fun h=>e2 h.2)]
 ·rw [getD_set_ne _ _ _ e,if_neg (fun h=>e h.1)]
theorem aJ5 {c:Dc} (h:Ok c) {m:Nat} {u:Us} (hm:m<c.fr.length)(hu:c.fr.getD m none=some u) {v:Int} (f p:Nat)(hf:f<c.fl.length)(hne:¬(f=u.file∧p=u.page)):cC (c.gone m u v) f p=cC c f p:=by
 have k:=h.use m u hm hu
 unfold cC
 rw [aS8 f p k.file,if_neg hne]
 cases hd:decide (0< ((c.fl.getD f aK).E p).1) with
 |false=>rfl
 |true=>
  obtain⟨n,w,k1,k2,k3,k4,k5⟩:=h.ent f p hf (of_decide_eq_true hd)
  have hnm:n≠m:=by
   rintro rfl
   rw [hu] at k3
   injection k3 with k3
   subst k3
   exact hne ⟨k4.symm,k5.symm⟩
  rw [cond_true,cond_true,k2,show(((n+1:Nat):Int)-1).toNat=n by omega]
  show((c.fr.set m none).getD n none).map _=_
  rw [getD_set_ne _ _ _ hnm]
theorem aTX {c:Dc} {f p q:Nat} (hf:f<c.fl.length)(hne:q≠p):cC (c.e0 f p) f q=cC c f q:=by
 have e:((c.e0 f p).fl.getD f aK).E q=(c.fl.getD f aK).E q:=by
  show((c.fl.set f (dG (c.fl.getD f aK) (dA (c.fl.getD f aK).E p (0,0)))).getD f aK).E q=_
  rw [aD _ _ _ _ hf,dK,cW hne]
 unfold cC
 rw [e];rfl
theorem aLL {c:Dc} {f p q:Nat} (hf:f<c.fl.length):cC (c.bl f p) f q=cC c f q:=by
 have e:((c.bl f p).fl.getD f aK).E q=(c.fl.getD f aK).E q:=by
  show((c.fl.set f (fbl (c.fl.getD f aK) _)).getD f aK).E q=_
  rw [aD _ _ _ _ hf];rfl
 unfold cC
 rw [e];rfl
theorem aIN {c d:Dc} {f off n p:Nat} (h:(d.fl.getD f aK).size=(c.fl.getD f aK).size):pW d f off n p=pW c f off n p:=by unfold pW;rw [h]
theorem iT(c:Dc)(m:Nat)(u:Us)(f:Nat):((c.put m u).fl.getD f aK).size=(c.fl.getD f aK).size:=by
 show((c.fl.set u.file (dG (c.fl.getD u.file aK) (mE (c.fl.getD u.file aK).E u))).getD f aK).size=_
 by_cases e:f=u.file
 ·subst e
  by_cases hl:u.file<c.fl.length
  ·rw [aD _ _ _ _ hl];rfl
  ·rw [fD _ _ (zC hl)]
 ·rw [getD_set_ne _ _ _ e]
theorem aDP {L:List Df} {g f:Nat} {x:Df} (h:x.size=(L.getD g aK).size):((L.set g x).getD f aK).size=(L.getD f aK).size:=by
 by_cases e:f=g
 ·subst e
  by_cases hl:f<L.length
  ·rw [aD _ _ _ _ hl,h]
  ·rw [fD _ _ (zC hl)]
 ·rw [getD_set_ne _ _ _ e]
theorem aI8(d:Df)(b:Nat):(fbl d b).size=d.size:=rfl
theorem nZ(d:Df)(E:cI):(dG d E).size=d.size:=rfl
theorem aIU {c:Dc} {f off n p:Nat} (h:aIT c f off n p=true)(hw:pW c f off n p=false):∃m u,cC c f p=some (m,u)∧gL u off n p true=0:=by
 unfold aIT at h
 rw [hw,cond_false] at h
 cases hp:cC c f p with
 |none=>rw [hp] at h;cases h
 |some x=>
  rw [hp] at h
  dsimp only at h
  refine⟨x.1,x.2,rfl,?_⟩
  cases h1:(bif (x.2.rd:Int)==0 then(x.2.wr:Int)==0 else false) with
  |false=>rw [h1] at h;cases h
  |true=>rw [h1,cond_true] at h;have :=beq_iff_eq.1 h;omega
theorem aC9 {c:Dc} {f off n:Nat} :∀ {j:Nat},(eI c f off n j).2.2=true→∀k,k<j→aIT c f off n (off/16+k)=true
 |0,_,k,hk=>by omega
 |j+1,h,k,hk=>by
  rw [eI] at h
  dsimp only at h
  rw [Bool.and_eq_true] at h
  by_cases e:k=j
  ·subst e;exact h.2
  ·exact aC9 h.1 k (by omega)
theorem aOP {c:Dc} (h:Ok c) {f off n p:Nat} (hf:f<c.fl.length)(hp8:p<8)(hpt:(aP p off n).1+(aP p off n).2≤16):Ok (sH c f off n p)∧(sH c f off n p).fl.length=c.fl.length∧((sH c f off n p).fl.getD f aK).size=(c.fl.getD f aK).size∧∀q,q≠p→cC (sH c f off n p) f q=cC c f q:=by
 unfold sH
 cases pW c f off n p with
 |true=>
  rw [cond_true]
  cases hp:cC c f p with
  |none=>
   dsimp only
   have hl:(c.e0 f p).fl.length=c.fl.length:=zA ..
   refine⟨(h.e0 hf (by omega) hp).bl (by rw [hl];exact hf) hp8,by show(List.set _ _ _).length=_;rw [zA];exact hl,?_,fun q hq=>?_⟩
   ·exact(aDP (aI8 _ _)).trans (aDP (nZ _ _))
   ·show cC ((c.e0 f p).bl f p) f q=_
    rw [aLL (by rw [hl];exact hf),aTX hf hq]
  |some x=>
   obtain⟨m,u⟩:=x
   obtain⟨q1,q2,q3,q4,q5⟩:=bI h hf hp
   dsimp only
   have hl:(c.gone m u 0).fl.length=c.fl.length:=zA ..
   refine⟨(h.gone q1 q2 (Int.le_refl 0) (by omega)).bl (by rw [hl];exact hf) hp8,by show(List.set _ _ _).length=_;rw [zA];exact hl,?_,fun q hq=>?_⟩
   ·exact(aDP (aI8 _ _)).trans (aDP (nZ _ _))
   ·show cC ((c.gone m u 0).bl f p) f q=_
    rw [aLL (by rw [hl];exact hf),aJ5 h q1 q2 f q hf (fun e=>hq (e.2.trans q4))]
 |false=>
  rw [cond_false]
  cases hp:cC c f p with
  |none=>exact⟨h,rfl,rfl,fun _ _=>rfl⟩
  |some x=>
   obtain⟨m,u⟩:=x
   obtain⟨q1,q2,q3,q4,q5⟩:=bI h hf hp
   have hw:=oB (h.use m u q1 q2).pg (off:=(aP p off n).1) (s:=zB (aP p off n).2) (by rw [kK];exact hpt)
   refine⟨h.put' q1 q2 hw,mJ _ _ _,iT _ _ _ _,fun q hq=>?_⟩
   show cC (c.put m _) f q=_
   rw [rQ h q1 q2 f q hf,if_neg (fun e=>hq (e.2.trans q4))]
theorem jU {c:Dc} (h:Ok c) {f off n:Nat} (hf:f<c.fl.length)(hb:off+n≤128):∀k,k≤cnt off n→Ok (pY c f off n k)∧(pY c f off n k).fl.length=c.fl.length∧((pY c f off n k).fl.getD f aK).size=(c.fl.getD f aK).size∧∀i,k≤i→cC (pY c f off n k) f (off/16+i)=cC c f (off/16+i)
 |0,_=>⟨h,rfl,rfl,fun _ _=>rfl⟩
 |k+1,hk=>by
  obtain⟨h1,h2,h3,h4⟩:=jU h hf hb k (by omega)
  have hc:=jF hb
  obtain⟨w1,w2,w3,w4⟩:=aOP h1 (off:=off) (n:=n) (p:=off/16+k) (by rw [h2];exact hf) (by omega) (fF (show k<cnt off n by omega)).1
  exact⟨w1,w2.trans h2,w3.trans h3,fun i hi=>(w4 _ (by omega)).trans (h4 i (by omega))⟩
end Go.Proofs.YtmhapcbjjpadnaaGreat
