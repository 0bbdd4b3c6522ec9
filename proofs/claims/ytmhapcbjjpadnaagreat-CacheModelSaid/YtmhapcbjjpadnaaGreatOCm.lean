/- Caches. -/
import Derived.Test.YtmhapcbjjpadnaaGreatOBm
import Derived.Test.YtmhapcbjjpadnaaGreatXS5m
set_option linter.unusedSimpArgs false
set_option linter.unusedVariables false
open List renaming range'→zA,getD_eq_getElem?_getD→zC,length_set→zD
open Nat renaming pow_lt_pow_right→zE
set_option linter.constructorNameAsVariable false
set_option maxRecDepth 40000
namespace Go.Proofs.YtmhapcbjjpadnaaGreat
open Go Go.Sk Go.RowKit
def pgD(dk:List UInt8)(p:Nat):ByteArray:=⟨((dk.drop (p*16)).take 16).toArray⟩
theorem aTU {dk:List UInt8} (h:dk.length=128) {p:Nat} (hp:p<8):(pgD dk p).size=16:=by
 show(((dk.drop (p*16)).take 16).toArray).size=16
 simp;omega
theorem aW0 {dk:List UInt8} (p:Nat) {i:Nat} (hi:i<16):iY (pgD dk p) i=dk.getD (p*16+i) 0:=by
 unfold iY pgD
 show((dk.drop (p*16)).take 16).getD i 0=_
 rw [zC,zC,List.getElem?_take,if_pos hi,List.getElem?_drop]
def aPE(dk:List UInt8)(c:Dc)(m p:Nat)(u:Us):Dc:=bif gP false 3 u.p.v==0 then c else
 bif (rbP c ((m+1:Nat):Int) ((gP false 3 u.p.v:Nat):Int)).2==0 then(reP (rbP c ((m+1:Nat):Int) ((gP false 3 u.p.v:Nat):Int)).1 ((m+1:Nat):Int) (pgD dk p) true).1 else c
def aL2(dk:List UInt8)(c:Dc)(v:Int):Dc:=bif decide (v<0)||decide (8≤v) then c else
 match cC c 0 v.toNat with
 |some (m,u)=>aPE dk c m v.toNat u
 |none=>bif (qO c 0 v 0 0 true).2.2==0 then(match cC (qO c 0 v 0 0 true).1 0 v.toNat with
  |some (m,u)=>aPE dk (qO c 0 v 0 0 true).1 m v.toNat u
  |none=>(qO c 0 v 0 0 true).1) else c
def aE3(dk:List UInt8)(c:Dc)(L:List Int):Nat→Dc
 |0=>c
 |k+1=>aL2 dk (aE3 dk c L k) (L.getD k 0)
section
variable {W D:Nat→UInt8} {z:Nat} {dk:List UInt8}
theorem aI9(hk:dk.length=128)(hD:∀x,D x=dk.getD x 0) {c:Dc} (i:Inv c W D z) {m p:Nat} {u:Us} (hp:p<8)(h:cC c 0 p=some (m,u)):Inv (aPE dk c m p u) W D z:=by
 obtain⟨q1,q2,q3,q4,q5⟩:=bI i.ok (by rw [i.fl];omega) h
 unfold aPE
 cases(gP false 3 u.p.v==0) with
 |true=>exact i
 |false=>
  rw [cond_false]
  cases((rbP c ((m+1:Nat):Int) ((gP false 3 u.p.v:Nat):Int)).2==0) with
  |false=>exact i
  |true=>
   obtain⟨v,v1,v2⟩:=aXP i ((m+1:Nat):Int) ((gP false 3 u.p.v:Nat):Int) q1 q2
   have j:=i.rb ((m+1:Nat):Int) ((gP false 3 u.p.v:Nat):Int)
   refine j.re (u:=v) (by rw [j.fr,←i.fr];exact q1) v1 (aTU hk hp) fun x hx=>?_
   rw [aW0 p hx,hD,v2,q4]
theorem aRX(hk:dk.length=128)(hD:∀x,D x=dk.getD x 0) {c:Dc} (i:Inv c W D z)(v:Int):Inv (aL2 dk c v) W D z:=by
 unfold aL2
 cases hv:(decide (v<0)||decide (8≤v)) with
 |true=>exact i
 |false=>
  rw [Bool.or_eq_false_iff,decide_eq_false_iff_not,decide_eq_false_iff_not] at hv
  rw [cond_false]
  split
  ·rename_i m u h
   exact aI9 hk hD i (by omega) h
  ·cases((qO c 0 v 0 0 true).2.2==0) with
   |false=>exact i
   |true=>
    have j:=i.ins 0 v 0 0 true
    rw [cond_true]
    split
    ·rename_i m u h
     exact aI9 hk hD j (by omega) h
    ·exact j
theorem aCI(hk:dk.length=128)(hD:∀x,D x=dk.getD x 0) {c:Dc} (i:Inv c W D z)(L:List Int):∀k,Inv (aE3 dk c L k) W D z
 |0=>i
 |k+1=>aRX hk hD (aCI hk hD i L k) _
end
def aRY(c:Dc)(off n:Nat):List Int:=bif decide (0≤(sP (eN (c.fl.getD 0 aK) 128)).1) then(zA (off/16) (cnt off n)).map (fun x:Nat=>(x:Int))++ [(sP (eN (c.fl.getD 0 aK) 128)).1] else(zA (off/16) (cnt off n)).map (fun x:Nat=>(x:Int))
def aE2(dk:List UInt8)(c:Dc)(off n:Nat):Dc:=aE3 dk c (aRY c off n) (aRY c off n).length
theorem tY {W D:Nat→UInt8} {z:Nat} {dk:List UInt8} (hk:dk.length=128)(hD:∀x,D x=dk.getD x 0) {c:Dc} (i:Inv c W D z)(off n:Nat):Inv (aE2 dk c off n) W D z:=aCI hk hD i _ _
noncomputable def R75:Rsv Tryz.prog Tryz.f75 [.c 31,.c 64] 4:=⟨_,_,rfl,rfl⟩
set_option maxHeartbeats 16000000 in
theorem aXB {W D:Nat→UInt8} {z:Nat} {dk:List UInt8} (hk:dk.length=128)(hD:∀x,D x=dk.getD x 0) {c:Dc} (i:Inv c W D z)(off n:Nat)(hb:off+n≤128):
 aQ Tryz.prog 75 [.row 1 (cJ dk)] [.agg c.c,.int .i64 (off:Int),.int .i64 (n:Int),.sl 0 0 128] (.agg (aE2 dk c off n).c) [.row 1 (cJ dk)]:=by
 have k65:=bAM off n hb
 have k60:=bGO c i.ok 0 128 (by rw [i.fl];omega)
 rw [show((0:Nat):Int)=0 from rfl] at k60
 unfold pgR at k65
 have hpe:aRY c off n=bif decide (0≤(sP (eN (c.fl.getD 0 aK) 128)).1) then(zA (off/16) (cnt off n)).map (fun x:Nat=>(x:Int))++ [(sP (eN (c.fl.getD 0 aK) 128)).1] else(zA (off/16) (cnt off n)).map (fun x:Nat=>(x:Int)):=rfl
 have hcl:=jF hb
 have hpr:((zA (off/16) (cnt off n)).map (fun x:Nat=>(x:Int))).length≤8:=by simp;omega
 have hL8:(aRY c off n).length≤9:=by
  rw [hpe]
  cases decide (0≤(sP (eN (c.fl.getD 0 aK) 128)).1) with
  |true=>rw [cond_true,List.length_append,List.length_singleton];omega
  |false=>rw [cond_false];omega
 unfold aE2
 generalize aRY c off n=ps at *
 generalize(zA (off/16) (cnt off n)).map (fun x:Nat=>(x:Int))=pr at *
 generalize sP (eN (c.fl.getD 0 aK) 128)=ti at *
 obtain⟨tp,ts⟩:=ti
 dsimp only at *
 refine bR R75 (ob0:= [.row 1 (cJ dk)]) Tryz.func75 rfl rfl rfl ?_
 refine Wy ?_
 refine⟨Unit,fun _=>True,fun _=>⟨[(3,⟨[],true,.sl 0 0 128⟩),(4,⟨[],true,.ptr 1 0 0⟩),(8,⟨[],true,.ptr 2 0 0⟩),(9,⟨[],true,.lst 1 false (aJ ps)⟩)],[(0,.row 1 (cJ dk)),(1,.box c.c),(2,.box [bJ,bJ,bJ,bJ,bJ,bJ,bJ])],3⟩,?_,fun _ _=>?_⟩
 ·refine Wy ?_
  refine lP (fun b=>?_) (fun b=>?_)
  ·rw [decide_eq_true b,cond_true] at hpe
   refine Wy ?_
   refine⟨(),trivial,?_⟩
   simp only [hpe,aQF]
   exact Vr [some 0,some 1,some 2]
  ·rw [decide_eq_false b,cond_false] at hpe
   refine Wy ?_
   refine⟨(),trivial,?_⟩
   simp only [hpe]
   exact Vr [some 0,some 1,some 2]
 clear k60 k65 hpe hpr hcl
 refine Wy ?_
 refine Lp (fun j:Nat=>j≤ps.length) (fun j=> [(12,.int .i64 (j:Int))]) (fun j=> [(1,.box (aE3 dk c ps j).c)]) (fun j=>ps.length-j) 0 (Nat.zero_le _) ?_ ?_
 ·exact Vr [_,_,_]
 intro j hj
 have ij:=aCI hk hD i ps j
 have hst:aE3 dk c ps (j+1)=aL2 dk (aE3 dk c ps j) (ps.getD j 0):=rfl
 refine Wy ?_
 refine lP (fun b=>?_) (fun b=>?_)
 ·have b:j<ps.length:=by omega
  have hgl:=bH1 b
  generalize aE3 dk c ps j=d at *
  generalize ps.getD j 0=v at *
  by_cases a1:v<0
  ·have hst:aE3 dk c ps (j+1)=d:=by rw [hst];unfold aL2;rw [decide_eq_true a1];rfl
   refine Wy ?_
   refine Le (j+1) (hv:=?_)
   simp only [hst]
   exact Vr [_,_,_]
  by_cases a2:8≤v
  ·have hst:aE3 dk c ps (j+1)=d:=by rw [hst];unfold aL2;rw [decide_eq_true a2,Bool.or_true];rfl
   refine Wy ?_
   refine Le (j+1) (hv:=?_)
   simp only [hst]
   exact Vr [_,_,_]
  obtain⟨p,rfl⟩:∃p:Nat,v=(p:Int):=⟨v.toNat,by omega⟩
  have hp:p<8:=by omega
  have o:=ij.ok
  have hfl:=ij.fl
  unfold aL2 at hst
  rw [decide_eq_false a1,decide_eq_false a2,Bool.or_self,cond_false,Int.toNat_natCast] at hst
  have hfr:=ij.fr
  have hF:(cC d 0 p=none∧findF (d.fl.getD 0 aK).E (p:Int)=(0,false))∨∃m u,cC d 0 p=some (m,u)∧findF (d.fl.getD 0 aK).E (p:Int)=(((m+1:Nat):Int),true):=by
   cases hg:cC d 0 p with
   |none=>exact .inl ⟨rfl,aRZ o (by omega) hg⟩
   |some x=>exact .inr ⟨x.1,x.2,rfl,aS0 o (by omega) hg⟩
  have k138:=aNP d 0 p (by omega) o.sm (by omega) (o.file 0 (by omega)).E (o.file 0 (by omega)).sup
  rw [show((0:Nat):Int)=0 from rfl] at k138
  generalize findF (d.fl.getD 0 aK).E (p:Int)=q at *
  obtain⟨fi,fb⟩:=q
  dsimp only at k138
  refine Wy ?_
  refine⟨Dc×Nat×Us,fun x=>Inv x.1 W D z∧cC x.1 0 p=some (x.2.1,x.2.2)∧aE3 dk c ps (j+1)=aPE dk x.1 x.2.1 p x.2.2,fun x=>⟨[(3,⟨[],true,.sl 0 0 128⟩),(4,⟨[],true,.ptr 1 0 0⟩),(8,⟨[],true,.ptr 2 0 0⟩),(9,⟨[],true,.lst 1 false (aJ ps)⟩),(12,⟨[],true,.int .i64 (j:Int)⟩),(13,⟨[],true,.int .i64 ((x.2.1+1:Nat):Int)⟩)],[(0,.row 1 (cJ dk)),(1,.box x.1.c),(2,.box [bJ,bJ,bJ,bJ,bJ,bJ,bJ])],3⟩,?_,fun x hx=>?_⟩
  ·rcases hF with ⟨hg,hf⟩| ⟨m,u,hg,hf⟩
   ·obtain⟨rfl,rfl⟩:=Prod.mk.inj hf
    rw [hg] at hst
    dsimp only at hst
    have k40:=bJ3 d o 0 (p:Int) 0 0 true
    have jj:=ij.ins 0 (p:Int) 0 0 true
    obtain⟨s1,s2⟩:=aND o 0 (p:Int) 0 0 true
    have g0:=fun e=>aSI (t:=0) (pf:=0) (ur:=true) (p:=p) o hfl e
    rw [←s2] at g0
    generalize qO d 0 (p:Int) 0 0 true=r at *
    obtain⟨x,y1,y2⟩:=r
    dsimp only at *
    by_cases he:y2=0
    ·obtain⟨m,u,g1,g2⟩:=g0 he
     rw [←s1.pg] at g2
     rw [beq_iff_eq.2 he,cond_true,g2] at hst
     subst he g1
     refine Wy ?_
     refine⟨(x,m,u),⟨jj,g2,hst⟩,?_⟩
     exact Vr [some 0,some 1,some 2]
    ·rw [beq_eq_false_iff_ne.2 he,cond_false] at hst
     refine Wy ?_
     refine Le (j+1) (hv:=?_)
     simp only [hst]
     exact Vr [_,_,_]
   ·obtain⟨rfl,rfl⟩:=Prod.mk.inj hf
    rw [hg] at hst
    refine Wy ?_
    refine⟨(d,m,u),⟨ij,hg,hst⟩,?_⟩
    exact Vr [some 0,some 1,some 2]
  clear hst hF k138 ij
  obtain⟨e,m,u⟩:=x
  obtain⟨ie,hg,hE⟩:=hx
  dsimp only at ie hg hE⊢
  obtain⟨q1,q2,q3,q4,q5⟩:=bI ie.ok (by rw [ie.fl];omega) hg
  have hgu:=pH q1 q2
  have hfe:=ie.fr
  have hv4:=(ie.ok.use m u q1 q2).pg.v
  have hb:=gH (x:=3) (y:=u.p.v) (by omega) (by omega)
  have hw4:gP false 3 u.p.v<4:=by
   have key:∀v:Fin 4,gP false 3 v.val<4:=by decide
   exact key ⟨u.p.v,hv4⟩
  have k46:=bJ5 e ie.ok ((m+1:Nat):Int) ((gP false 3 u.p.v:Nat):Int)
  have k49:=bJ7 (rbP e ((m+1:Nat):Int) ((gP false 3 u.p.v:Nat):Int)).1 (ie.rb _ _).ok ((m+1:Nat):Int) (pgD dk p) true
  unfold aPE at hE
  generalize rbP e ((m+1:Nat):Int) ((gP false 3 u.p.v:Nat):Int)=rb at *
  generalize reP rb.1 ((m+1:Nat):Int) (pgD dk p) true=re at *
  generalize gP false 3 u.p.v=w at *
  obtain⟨rb,y⟩:=rb
  dsimp only at *
  have hrb:=kM dk
  have hbd:fM (List.take 16 (List.drop (p*16) (cJ dk)))=some ((dk.drop (p*16)).take 16):=by
   unfold cJ
   rw [←List.map_drop,←List.map_take]
   exact iN _
  unfold pgD at k49
  by_cases x1:w=0
  ·rw [beq_iff_eq.2 x1,cond_true] at hE
   refine Wy ?_
   refine Le (j+1) (hv:=?_)
   simp only [hE]
   exact Vr [_,_,_]
  rw [beq_eq_false_iff_ne.2 x1,cond_false] at hE
  by_cases x2:y=0
  ·rw [beq_iff_eq.2 x2,cond_true] at hE
   refine Wy ?_
   refine Or.inl ⟨(dk.drop (p*16)).take 16,?_,?_⟩
   ·show fM (List.take ((((p:Int)+1)*16).toNat- (((p*16:Nat):Int)).toNat) (List.drop (0+(((p*16:Nat):Int)).toNat) (cJ dk)))=_
    rw [show(((p:Int)+1)*16).toNat- (((p*16:Nat):Int)).toNat=16 by omega,show 0+(((p*16:Nat):Int)).toNat=p*16 by omega]
    exact hbd
   refine Wy ?_
   refine Le (j+1) (hI:=show j+1≤ps.length by omega) (hm:=show ps.length- (j+1)<ps.length-j by omega) (hv:=?_)
   simp only [hE]
   exact Vr [_,_,_]
  ·rw [beq_eq_false_iff_ne.2 x2,cond_false] at hE
   refine Wy ?_
   refine Le (j+1) (hI:=show j+1≤ps.length by omega) (hm:=show ps.length- (j+1)<ps.length-j by omega) (hv:=?_)
   simp only [hE]
   exact Vr [_,_,_]
 ·obtain rfl:j=ps.length:=by omega
  exact Wo
end Go.Proofs.YtmhapcbjjpadnaaGreat
set_option maxRecDepth 40000
namespace Go.Proofs.YtmhapcbjjpadnaaGreat
open Go Go.Sk Go.RowKit
def wtB(c:Dc)(u:Us)(i:Nat):Bool:=bif eU (c.fl.getD 0 aK).blocks u.page then true else(((u.p.d &&& 2^(i/8):Nat):Int) != 0)
def wtL(c:Dc)(u:Us)(dk:List UInt8):Nat→List UInt8
 |0=>dk
 |i+1=>bif wtB c u i then(wtL c u dk i).set (u.page*16+i) (iY u.p.b i) else wtL c u dk i
theorem rY(c:Dc)(u:Us)(dk:List UInt8):∀i,(wtL c u dk i).length=dk.length
 |0=>rfl
 |i+1=>by
  rw [wtL]
  cases wtB c u i with
  |true=>rw [cond_true,zD];exact rY c u dk i
  |false=>exact rY c u dk i
theorem aOX(c:Dc)(u:Us)(dk:List UInt8)(hl:dk.length=128)(hp:u.page<8):∀k,k≤16→∀q i,q<8→i<16→(wtL c u dk k).getD (q*16+i) 0=if q=u.page∧i<k∧wtB c u i=true then iY u.p.b i else dk.getD (q*16+i) 0
 |0,_,q,i,hq,hi=>by rw [if_neg (by omega)];rfl
 |k+1,hk,q,i,hq,hi=>by
  have ih:=aOX c u dk hl hp k (by omega) q i hq hi
  have hlen:=rY c u dk k
  rw [wtL]
  cases hb:wtB c u k with
  |true=>
   rw [cond_true]
   by_cases e:q=u.page∧i=k
   ·obtain⟨rfl,rfl⟩:=e
    rw [aD _ _ _ _ (by omega),if_pos ⟨rfl,by omega,hb⟩]
   ·rw [getD_set_ne _ _ _ (by omega),ih]
    by_cases x:q=u.page∧i<k∧wtB c u i=true
    ·rw [if_pos x,if_pos ⟨x.1,by omega,x.2.2⟩]
    ·rw [if_neg x,if_neg]
     rintro ⟨y1,y2,y3⟩
     exact x ⟨y1,by omega,y3⟩
  |false=>
   rw [cond_false,ih]
   by_cases x:q=u.page∧i<k∧wtB c u i=true
   ·rw [if_pos x,if_pos ⟨x.1,by omega,x.2.2⟩]
   ·rw [if_neg x,if_neg]
    rintro ⟨y1,y2,y3⟩
    have :i≠k:=fun e=>by subst e;rw [hb] at y3;cases y3
    exact x ⟨y1,by omega,y3⟩
def wtC(c:Dc)(m:Nat)(u:Us):Dc:=(c.put m (cD u ⟨u.p.b,u.p.v,0⟩)).blo 0 u.page
def aK6(c:Dc)(n:Int)(dk:List UInt8):Dc×List UInt8:=match eG c n with
 |none=>(c,dk)
 |some (m,u)=>bif u.p.d==0 then(c,dk) else(wtC c m u,wtL c u dk 16)
theorem aVX {d q:Nat} (hd:d<4)(hq:q<2):((((d &&& 2^q:Nat):Int) != 0)=true)↔d.testBit q=true:=by
 have key:∀d:Fin 4,∀q:Fin 2,((((d.val &&& 2^q.val:Nat):Int) != 0)=true)↔d.val.testBit q.val=true:=by decide
 exact key ⟨d,hd⟩ ⟨q,hq⟩
theorem aKQ {p:Pg} (h:dU p):dU ⟨p.b,p.v,0⟩:=⟨h.size,h.v,by show 0<4;omega,by show gP false 0 p.v=0;exact Nat.zero_and _⟩
theorem aYS {c:Dc} {W D:Nat→UInt8} {z:Nat} {dk:List UInt8} (hk:dk.length=128)(hD:∀x,D x=dk.getD x 0)(i:Inv c W D z)(n:Int):
 (aK6 c n dk).2.length=128∧Inv (aK6 c n dk).1 W (fun x=>(aK6 c n dk).2.getD x 0) z:=by
 have same:Inv c W (fun x=>dk.getD x 0) z:=by
  have e:D=fun x=>dk.getD x 0:=funext hD
  rw [←e];exact i
 unfold aK6
 rcases cK c n with ⟨e,hu⟩| ⟨m,u,e,rfl,m1,m2⟩
 ·rw [e];exact⟨hk,same⟩
 ·rw [e]
  dsimp only
  cases hd:(u.p.d==0) with
  |true=>exact⟨hk,same⟩
  |false=>
   rw [cond_false]
   dsimp only
   have ku:=i.ok.use m u m1 m2
   have e0:u.file=0:=by have :=ku.file;have :=i.fl;omega
   have o:=i.ok.put m1 m2 (u':=cD u ⟨u.p.b,u.p.v,0⟩) rfl (aKQ ku.pg) ku.holds ku.rd ku.wr
   have om:=i.okm.put i.ok m1 m2 (u':=cD u ⟨u.p.b,u.p.v,0⟩) rfl
   have hl:(c.put m (cD u ⟨u.p.b,u.p.v,0⟩)).fl.length=1:=by rw [mJ];exact i.fl
   first |refine aE ⟨by rw [rY];exact hk,o.blo (by omega) ku.page,om.fl1 (by omega) rfl,?_,?_,i.zo,i.gr,?_⟩ ?_ |refine⟨by rw [rY];exact hk,o.blo (by omega) ku.page,om.fl1 (by omega) rfl,?_,?_,i.zo,i.gr,?_,?_⟩
   ·show((c.put m (cD u ⟨u.p.b,u.p.v,0⟩)).fl.set 0 _).length=1
    rw [zD];exact hl
   ·show(c.fr.set m _).length=8
    rw [zD];exact i.fr
   ·refine i.md.wtn i.ok i.fl m1 m2 (by simpa using hd) fun q j hq hj=>?_
    rw [aOX c u dk hk ku.page 16 (Nat.le_refl _) q j hq hj,hD]
    have hb:wtB c u j=true↔(aH c u.page=true∨u.p.d.testBit (j/8)=true):=by
     unfold wtB aH
     cases eU (c.fl.getD 0 aK).blocks u.page with
     |true=>simp
     |false=>
      rw [cond_false,aVX ku.pg.d (by omega)]
      simp
    by_cases x:q=u.page∧(aH c u.page=true∨u.p.d.testBit (j/8)=true)
    ·rw [if_pos x,if_pos ⟨x.1,hj,hb.2 x.2⟩]
    ·rw [if_neg x,if_neg]
     rintro ⟨y1,y2,y3⟩
     exact x ⟨y1,hb.1 y3⟩
   ·unfold wtC
    rw [aFV hl]
    show((c.put m _).fl.getD 0 aK).size=z
    rw [iT];exact i.sz
theorem aXE {xs:List (List V)} {r:List V} (h:xs.length=1)(g:xs.getD 0 []=r):xs=[r]:=by
 match xs,h with
 | [a],_=>subst g;rfl
noncomputable def R79:Rsv Tryz.prog Tryz.f79 [] 3:=⟨_,_,rfl,rfl⟩
set_option maxHeartbeats 16000000 in
theorem bJH {W D:Nat→UInt8} {z:Nat} {dk:List UInt8} (hk:dk.length=128) {c:Dc} (i:Inv c W D z)(n:Nat)(hn:1≤n∧n≤8):
 aQ Tryz.prog 79 [.row 1 (cJ dk)] [.agg c.c,.int .i64 (n:Int),.sl 0 0 128] (.agg (aK6 c (n:Int) dk).1.c) [.row 1 (cJ (aK6 c (n:Int) dk).2)]:=by
 have hfr:=i.fr
 have hfl:=i.fl
 have hrl:(bE c.fr).length=8:=by rw [eV];exact hfr
 unfold aK6
 rcases cK c (n:Int) with ⟨e,hu⟩| ⟨m,u,e,hm,m1,m2⟩
 ·rw [e]
  dsimp only
  have hno:c.fr.getD (n-1) none=none:=by
   unfold oA at hu
   rw [decide_eq_true (show(1:Int)≤(n:Int) by omega),decide_eq_true (show(n:Int)≤(c.fr.length:Int) by omega),cond_true,cond_true,show((n:Int)-1).toNat=n-1 by omega] at hu
   cases h:c.fr.getD (n-1) none with
   |none=>rfl
   |some w=>rw [h] at hu;cases hu
  have hgu:=jM c.fr (n-1) (by omega)
  rw [hno] at hgu
  have hgu:(bE c.fr).getD (n-1) []=fre.c:=hgu
  clear hu e hno
  refine bR R79 (ob0:= [.row 1 (cJ dk)]) Tryz.func79 rfl rfl rfl ?_
  exact Wo
 ·rw [e]
  dsimp only
  obtain rfl:n=m+1:=by omega
  have ku:=i.ok.use m u m1 m2
  have hgu:=pH m1 m2
  cases hd:(u.p.d==0) with
  |true=>
   have hd0:u.p.d=0:=by simpa using hd
   refine bR R79 (ob0:= [.row 1 (cJ dk)]) Tryz.func79 rfl rfl rfl ?_
   exact Wo
  |false=>
   have hd0:u.p.d≠0:=by simpa using hd
   rw [cond_false]
   dsimp only
   have e0:u.file=0:=by have :=ku.file;omega
   have hp8:=ku.page
   have hsz:=ku.pg.size
   have hv4:=ku.pg.v
   have hd4:=ku.pg.d
   have h2p:2^u.page<2^8:=zE (by omega) hp8
   have k155:=i.ok.p155q (u':=cD u ⟨u.p.b,u.p.v,0⟩) m1 m2 rfl (aKQ ku.pg) ku.rd ku.wr
   have o:=i.ok.put m1 m2 (u':=cD u ⟨u.p.b,u.p.v,0⟩) rfl (aKQ ku.pg) ku.holds ku.rd ku.wr
   have hbl:=(i.ok.file 0 (by omega)).blocks
   have hl:(c.put m (cD u ⟨u.p.b,u.p.v,0⟩)).fl.length=1:=by rw [mJ];exact i.fl
   have hgf:=mV (c:=c) (f:=0) (by omega)
   obtain⟨k0,k1,k2,k3,hfc,-⟩:=Df.cells (i.ok.file 0 (by omega)).E
   rw [hfc] at hgf
   have hwl:=rY c u dk
   have hbs:u.p.b.data.toList.length=16:=hsz
   unfold wtC
   generalize hd2:c.put m (cD u ⟨u.p.b,u.p.v,0⟩)=d at *
   have kf:=o.file 0 (by omega)
   have hgf2:=mV (c:=d) (f:=0) (by omega)
   have hpb:=aU1 (L:=d.fl) (f:=0) (b:=onB (d.fl.getD 0 aK).blocks u.page) (by omega) kf.E
   obtain⟨f0,f1,f2,f3,hfc2,-⟩:=Df.cells kf.E
   rw [hfc2] at hgf2 hpb
   have hbl2:=kf.blocks
   have hor:=Nat.or_lt_two_pow (n:=8) hbl2 h2p
   have hsm:=o.sm
   have g2:=hsm.fr
   have g3:=hsm.gr
   have g4:=hsm.ls
   have g5:=hsm.ck
   have hrow:=aXE (by rw [bV];exact hl) hgf2
   unfold Dc.blo
   simp only [Dc.c,hpb]
   unfold onB
   unfold Dc.o Dc.ob at k155
   rw [hrow,hl] at k155
   rw [hrow]
   clear hgf2 hpb hrow hfc2
   refine bR R79 (ob0:= [.row 1 (cJ dk)]) Tryz.func79 rfl rfl rfl ?_
   refine Wy ?_
   refine Lp (fun j:Nat=>j≤16) (fun j=> [(8,.int .i64 (j:Int))]) (fun j=> [(0,.row 1 (cJ (wtL c u dk j)))]) (fun j=>16-j) 0 (Nat.zero_le _) ?_ ?_
   ·exact Vr [_,_,_,_]
   intro j hj
   have hlj:=hwl j
   have hrj:=kM (wtL c u dk j)
   have h2:2^(j/8)<16:=zE (m:=j/8) (n:=4) (by omega) (by omega)
   have hst:wtL c u dk (j+1)=bif wtB c u j then(wtL c u dk j).set (u.page*16+j) (iY u.p.b j) else wtL c u dk j:=rfl
   refine Wy ?_
   refine lP (fun b=>?_) (fun b=>?_)
   ·refine Wy ?_
    refine aI (fun e=>?_) (fun e=>?_)
    ·have e:wtB c u j=true:=e
     rw [e,cond_true] at hst
     refine Wy ?_
     refine Le (j+1) (hv:=?_)
     simp only [hst,←aQC]
     exact Vr [_,_,_,_]
    ·have e:wtB c u j=false:=e
     rw [e,cond_false] at hst
     refine Wy ?_
     refine Le (j+1) (hv:=?_)
     simp only [hst]
     exact Vr [_,_,_,_]
   ·obtain rfl:j=16:=by omega
    exact Wo
end Go.Proofs.YtmhapcbjjpadnaaGreat
