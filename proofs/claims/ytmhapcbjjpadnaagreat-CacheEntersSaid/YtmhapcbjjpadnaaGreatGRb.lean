/- Caches. -/
import Derived.Test.YtmhapcbjjpadnaaGreatGQb
import Derived.Test.YtmhapcbjjpadnaaGreatGOb
set_option linter.all false
set_option maxHeartbeats 8000000
set_option maxRecDepth 40000
open List renaming set_set→zC
open Nat renaming le_refl→zA
namespace Go.Proofs.YtmhapcbjjpadnaaGreat
open Go Go.Sk Go.RowKit
theorem aU6 {E E':cM} {u:Us} (h:E u.page=E' u.page):mE E u u.page=mE E' u u.page:=by
 unfold mE jM;simp only [dH,h]
theorem aYN {E:cM} {a b:Us} (h:a.page≠b.page):mE (mE E a) b=mE (mE E b) a:=by
 funext j
 by_cases e1:j=b.page
 ·subst e1
  rw [aU6 (E':=E) (sE (λx=>h x.symm)),sE (u:=a) (λx=>h x.symm)]
 ·rw [sE e1]
  by_cases e2:j=a.page
  ·subst e2;exact(aU6 (sE h)).symm
  ·rw [sE e2,sE e2,sE e1]
theorem aU7 {E:cM} {u v w:Us} (h:(E u.page).2=mkN w)(hp:v.page=u.page):mE (mE E u) v=mE E v:=by
 funext j
 by_cases e:j=v.page
 ·subst e
  have h1:(mE E u v.page).2=mkN u:=by rw [hp];exact aP1 h
  have h2:=aP1 (E:=mE E u) (u:=v) h1
  have h3:=aP1 (E:=E) (u:=v) (v:=w) (by rw [hp];exact h)
  exact Prod.ext (by rw [aAW,aAW,aAW]) (h2.trans h3.symm)
 ·rw [sE e,sE (by rw [<-hp];exact e),sE e]
theorem aGS {c:Dc} (h:Ok c)(hm:fZ c) {m:Nat} {u v w:Us} (h1:m<c.fr.length)(h2:c.fr.getD m none=some w)(hk:iF u=iF w)(hk':iF v=iF w):(c.put m u).put m v=c.put m v:=by
 have hw:=h.use m w h1 h2
 have hM:=hm m w h1 h2
 simp only [iF,Prod.mk.injEq] at hk hk'
 obtain⟨a1,a2,a3⟩:=hk
 obtain⟨b1,b2,b3⟩:=hk'
 have hl:=hw.file
 unfold Dc.put Dc.mark Dc.setU
 dsimp only
 rw [a1,b1,aJ _ _ _ _ hl,zC,zC,fO,aU7 (w:=w) (by rw [a2];exact hM) (by rw [b2,a2])]
 rfl
theorem put_comm(c:Dc) {m n:Nat} {u v:Us} (hmn:m≠n)(hf:u.file<c.fl.length)(hp:¬(u.file=v.file/\u.page=v.page)):(c.put m u).put n v=(c.put n v).put m u:=by
 unfold Dc.put Dc.mark Dc.setU
 dsimp only
 rw [List.set_comm _ _ hmn]
 by_cases e:u.file=v.file
 ·rw [<-e,aJ _ _ _ _ hf,aJ _ _ _ _ hf,zC,zC,fO,fO,aYN (λx=>hp ⟨e,x⟩)]
  rfl
 ·rw [getD_set_ne _ _ _ (λx=>e x.symm),getD_set_ne _ _ _ e,List.set_comm _ _ e]
theorem aO1 {p:Pg} (h:dI p) {off s:Nat} {d:ByteArray} (hs:s<4):dP (gR p s) off d=gR (dP p off d) s:=by
 have ht:tch off d.size<4:=(lJ off d.size (zA 2)).1
 have key:∀v d t s:Fin 4,((d.val ||| (s.val &&& v.val))||| t.val)=((d.val ||| t.val)||| (s.val &&& (v.val ||| t.val))):=by decide
 have k:=key ⟨p.v,h.v⟩ ⟨p.d,h.d⟩ ⟨tch off d.size,ht⟩ ⟨s,hs⟩
 unfold dP gR
 dsimp only at k⊢
 rw [k]
def aO0(c:Dc)(m s:Nat):Dc:=match c.fr.getD m none with
 |some u=>c.put m (dQ u (gR u.p s))
 |none=>c
theorem kF {c:Dc} {m s:Nat} {u:Us} (h:c.fr.getD m none=some u):aO0 c m s=c.put m (dQ u (gR u.p s)):=by unfold aO0;rw [h]
theorem aBF {c:Dc} {m s:Nat} (h:c.fr.getD m none=none):aO0 c m s=c:=by unfold aO0;rw [h]
theorem qG {c:Dc} {m:Nat} {u:Us} (h:c.fr.getD m none=some u):m<c.fr.length:=by
 refine Nat.lt_of_not_le λx=>?_
 rw [List.getD_eq_getElem?_getD,List.getElem?_eq_none x] at h
 cases h
theorem aQK {c:Dc} (h:Ok c)(hm:fZ c) {f off:Nat} {s:ByteArray} (hf:f<c.fl.length)(hb:off+s.size<=128) {m0 sec:Nat} (hs:sec<4):∀k,k<=cnt off s.size->kI (aO0 c m0 sec) f off s k=aO0 (kI c f off s k) m0 sec
 |0,_=>rfl
 |k+1,hk=>by
  have ih:=aQK h hm hf hb (m0:=m0) hs k (by omega)
  obtain⟨o1,o2,o3⟩:=qV h hf hb k (by omega)
  have oM:=aJ1 h hm hf hb k (by omega)
  rw [kI,ih,kI]
  generalize kI c f off s k=W at *
  have hf1:f<W.fl.length:=by rw [o2];exact hf
  cases e0:W.fr.getD m0 none with
  |none=>
   rw [aBF e0]
   cases hp:eA W f (off/16+k) with
   |none=>dsimp only;rw [aBF e0]
   |some x=>
    obtain⟨m,u⟩:=x
    obtain⟨q1,q2,q3,q4,q5⟩:=bM o1 hf1 hp
    dsimp only
    rw [aBF]
    show(W.fr.set m _).getD m0 none=none
    rw [getD_set_ne _ _ _ (by rintro rfl;rw [e0] at q2;cases q2),e0]
  |some u0=>
   have l0:=qG e0
   have hu0:=o1.use m0 u0 l0 e0
   rw [kF e0,aD4 o1 l0 e0 f _ hf1]
   cases hp:eA W f (off/16+k) with
   |none=>
    rw [if_neg]
    ·dsimp only;rw [kF e0]
    ·rintro ⟨rfl,x2⟩
     unfold eA at hp
     rw [x2,hu0.val,decide_eq_true (by omega),cond_true,show(((m0+1:Nat):Int)-1).toNat=m0 from by omega,e0] at hp
     cases hp
   |some x=>
    obtain⟨m,u⟩:=x
    obtain⟨q1,q2,q3,q4,q5⟩:=bM o1 hf1 hp
    have hu:=o1.use m u q1 q2
    by_cases e:m=m0
    ·subst e
     rw [q2] at e0
     injection e0 with e0
     subst e0
     rw [if_pos ⟨q3.symm,q4.symm⟩]
     dsimp only
     rw [kF (u:=dQ u (dP u.p (aO (off/16+k) off s.size).1 (s.extract (gO (off/16+k) off s.size) (gO (off/16+k) off s.size+(aO (off/16+k) off s.size).2)))) (aJ _ _ _ _ q1)]
     show((W.put m _).put m _).acc m u.ten=((W.put m _).put m _).acc m u.ten
     refine congrArg (λx:Dc=>x.acc m u.ten) ?_
     refine Eq.trans (aGS o1 oM q1 q2 (by rfl) (by rfl)) (Eq.trans ?_ (Eq.symm (aGS o1 oM q1 q2 (by rfl) (by rfl))))
     exact congrArg (λx=>W.put m (dQ u x)) (aO1 hu.pg hs)
    ·have hne:¬(f=u0.file/\off/16+k=u0.page):=by
      rintro ⟨x1,x2⟩
      have a:=hu0.val
      rw [<-x1,<-x2,q5] at a
      omega
     rw [if_neg hne]
     dsimp only
     rw [kF (c:=(W.put m _).acc m u.ten) (u:=u0) (by show(W.fr.set m _).getD m0 none=_;rw [getD_set_ne _ _ _ (λx=>e x.symm),e0])]
     show((W.put m0 _).put m _).acc m u.ten=((W.put m _).put m0 _).acc m u.ten
     refine congrArg (λx:Dc=>x.acc m u.ten) (put_comm W (λx=>e x.symm) hu0.file ?_)
     rintro ⟨x1,x2⟩
     exact hne ⟨q3.symm.trans x1.symm,q4.symm.trans x2.symm⟩
end Go.Proofs.YtmhapcbjjpadnaaGreat
namespace Go.Proofs.YtmhapcbjjpadnaaGreat
open Go Go.Sk Go.RowKit
theorem bFK(c:Dc)(f off n:Nat)(w:Bool)(k:Nat):eR c.x f off n w k=eR c f off n w k:=aIX (c:=c) (d:=c.x) (λ_=>rfl) k
theorem aIR(c:Dc)(f:Nat)(e:Int):(cB c.x f e).2=(iE c f e).2.2:=by
 unfold cB iE
 rw [show eZ (c.x.fl.getD f aP) e=eZ (c.fl.getD f aP) e from rfl]
 cases eZ (c.fl.getD f aP) e with
 |none=>rfl
 |some x=>
  obtain⟨p,s⟩:=x
  dsimp only
  rw [show eA c.x f p=eA c f p from rfl]
  cases eA c f p with
  |none=>rfl
  |some x=>
   obtain⟨m,u⟩:=x
   dsimp only
   cases(jC false s u.p.v==0)<;> rfl
theorem aSE {s:ByteArray} (h:s.size=0):lB s ⟨#[]⟩=true:=by
 have :s.data.toList=[]:=List.eq_nil_of_length_eq_zero h
 unfold lB;rw [this];rfl
theorem aW9 {s:ByteArray} (h:s.size≠0):lB s ⟨#[]⟩=false:=by
 cases e:lB s ⟨#[]⟩ with
 |false=>rfl
 |true=>
  have :s.data.toList=[]:=by unfold lB at e;exact eq_of_beq e
  exact absurd (show s.data.toList.length=0 by rw [this];rfl) h
theorem aG4 {c:Dc} (h:Ok c) {f:Nat} {e:Int} (hf:f<c.fl.length)(g:(iE c f e).2.2=0):(iE c f e=(0,0,0)/\(cB c.x f e).1=c.x)\/∃m s u,iE c f e=(((m+1:Nat):Int),((s:Nat):Int),0)/\m<c.fr.length/\c.fr.getD m none=some u/\s<4/\(cB c.x f e).1=aO0 c.x m s:=by
 unfold iE at g
 unfold cB iE
 rw [show eZ (c.x.fl.getD f aP) e=eZ (c.fl.getD f aP) e from rfl]
 cases ht:eZ (c.fl.getD f aP) e with
 |none=>exact .inl ⟨rfl,rfl⟩
 |some x=>
  obtain⟨p,s⟩:=x
  obtain⟨t1,t2,t3,t4,t5⟩:=mQ ht (h.file f hf).size
  rw [ht] at g
  dsimp only at g⊢
  rw [show eA c.x f p=eA c f p from rfl]
  cases hp:eA c f p with
  |none=>rw [hp] at g;cases g
  |some x=>
   obtain⟨m,u⟩:=x
   obtain⟨q1,q2,q3,q4,q5⟩:=bM h hf hp
   rw [hp] at g
   dsimp only at g⊢
   cases hb:(jC false s u.p.v==0) with
   |false=>rw [hb] at g;cases g
   |true=>exact .inr ⟨m,s,u,rfl,q1,q2,t3,(kF (c:=c.x) q2).symm⟩
theorem aLV(c:Dc)(f off:Nat)(s:ByteArray) {m:Nat} {u:Us} (h:c.fr.getD m none=some u):∀k,∃v,(kI c f off s k).fr.getD m none=some v
 |0=>⟨u,h⟩
 |k+1=>by
  obtain⟨v,ih⟩:=aLV c f off s h k
  rw [kI]
  split
  ·rename_i n w hp
   by_cases e:m=n
   ·subst e
    exact⟨_,aJ _ _ _ _ (qG ih)⟩
   ·exact⟨v,(getD_set_ne _ _ _ e).trans ih⟩
  ·exact⟨v,ih⟩
structure tX(d c:Dc):Prop where
 zo:d.zo=c.zo
 gr:d.gr=c.gr
 ck:d.ck=c.ck
 pt:d.pt=c.pt
 l1:d.fl.length=c.fl.length
 l2:d.fr.length=c.fr.length
 l3:d.ls.length=c.ls.length
theorem tX.put {d c:Dc} (h:tX d c)(m:Nat)(u:Us):tX (d.put m u) c:=⟨h.zo,h.gr,h.ck,h.pt,(nP ..).trans h.l1,(tJ ..).trans h.l2,h.l3⟩
theorem tX.acc {d c:Dc} (h:tX d c)(m t:Nat):tX (d.acc m t) c:=⟨h.zo,h.gr,h.ck,h.pt,h.l1,h.l2,(List.length_set ..).trans h.l3⟩
theorem tX.b {d c:Dc} (h:tX d c):d.b=[.box [.sl 1 0 c.fl.length,.sl 2 0 c.fr.length,.lst 6 false (aQ c.zo),.lst 3 false (bC c.gr),.sl 3 0 c.ls.length,.sl 4 0 c.ck.length,.lst 5 false (aY c.pt)],.row 15 (bA d.fl),.row 9 (aV d.fr),.row 3 (bW d.ls),.row 1 (aE c.ck)]:=by
 unfold Dc.b
 rw [h.zo,h.gr,h.ck,h.pt,h.l1,h.l2,h.l3]
theorem sV(c:Dc)(f off:Nat)(s:ByteArray):∀k,tX (kI c f off s k) c
 |0=>⟨rfl,rfl,rfl,rfl,rfl,rfl,rfl⟩
 |k+1=>by
  have ih:=sV c f off s k
  rw [kI]
  split
  ·exact(ih.put _ _).acc _ _
  ·exact ih
def oF(off n i:Nat):Nat:=min (max ((off/16+i)*16) off-off) n
theorem bH3 {off n i:Nat} (h:i<cnt off n):oF off n i=gO (off/16+i) off n/\oF off n (i+1)=oF off n i+(aO (off/16+i) off n).2:=by
 have h1:=aC2 h
 have h2:=eY h
 unfold oF gO
 unfold aO at *
 dsimp only at *
 omega
theorem aOO(s:ByteArray) {a e i j:Nat} (h:a+j<=e)(he:e<=s.size):(s.extract a e).extract i j=s.extract (a+i) (a+j):=by
 rw [ByteArray.extract_extract,Nat.min_eq_left h]
theorem bFE {c:Dc} (h:Ok c)(hm:fZ c) {f off:Nat} {s:ByteArray} (hf:f<c.fl.length)(hb:off+s.size<=128)(g:(iE c f ((off+s.size:Nat):Int)).2.2=0):∃W:Dc,Ok W/\tX W c.x/\kI (cB c.x f ((off+s.size:Nat):Int)).1 f off s (cnt off s.size)=W/\aM Tryz.prog 168 (kI c.x f off s (cnt off s.size)).b [.ptr 0 0 0,.int .i64 (iE c f ((off+s.size:Nat):Int)).1,.int .i64 (iE c f ((off+s.size:Nat):Int)).2.1] (.tup []) W.b:=by
 have hf':f<c.x.fl.length:=hf
 obtain⟨o1,o2,o3⟩:=qV h.x (s:=s) (off:=off) hf' hb _ (zA _)
 have hs:=sV c.x f off s (cnt off s.size)
 rcases aG4 h hf g with ⟨e1,e2⟩| ⟨m,se,u,e1,q1,q2,q3,e2⟩
 ·rw [e1,e2]
  exact⟨_,o1,hs,rfl,aNG _ 0⟩
 ·rw [e1,e2,aQK h.x hm hf' hb q3 _ (zA _)]
  obtain⟨v,hv⟩:=aLV c.x f off s q2 (cnt off s.size)
  have hl:=qG hv
  rw [kF hv]
  exact⟨_,o1.put' hl hv (mO (o1.use m v hl hv).pg q3),hs.put _ _,rfl,bB3 _ o1 m v hl hv se q3⟩
noncomputable def R56:aJ9 Tryz.prog Tryz.f56 [] 4:=⟨_,_,_,_,_,_,_,rfl,rfl,rfl⟩
theorem bJP(c:Dc)(h:Ok c)(f off:Int)(s:ByteArray)(hss:s.size<2^32)(hh:eX c f off s.size=false):aM Tryz.prog 56 [] [.agg c.c,.int .i64 f,.int .i64 off,.str s] (.tup [.agg c.x.c,.int .i64 2]) []:=by
 have k82:=aRQ c h
 have k141:=aN4 c f
 have k161:=qZ off s.size
 unfold eX at hh
 cases hd:decide (0<=f/\f< (c.fl.length:Int)) with
 |false=>
  rw [hd] at k141
  refine dF R56 (ob0:= []) cE Tryz.func56 rfl rfl rfl ?_
  exact jR
 |true=>
  rw [hd,cond_true] at hh
  rw [hd] at k141
  rw [hh] at k161
  refine dF R56 (ob0:= []) cE Tryz.func56 rfl rfl rfl ?_
  exact jR
theorem bMI(c:Dc)(h:Ok c)(hm:fZ c)(f off:Nat)(s:ByteArray)(hf:f<c.fl.length)(hb:off+s.size<=128):aM Tryz.prog 56 [] [.agg c.c,.int .i64 (f:Int),.int .i64 (off:Int),.str s] (.tup [.agg (jS c.x f off s).1.c,.int .i64 (jS c.x f off s).2]) []:=by
 have k82:=aRQ c h
 rw [xb] at k82
 have k141:=aGK c f hf
 have k161:=qZ (off:Int) (s.size:Int)
 rw [iN hb] at k161
 have hgf:=iS hf
 have hs:=(h.file f hf).size
 obtain⟨k0,k1,k2,k3,hfc,-⟩:=Df.cells (h.file f hf).E
 rw [hfc] at hgf
 have k52:=bEU c h f off s.size hf hb true
 have k166:=bB1 c h f ((off+s.size:Nat):Int) hf
 generalize hq:jS c.x f off s=q
 unfold jS at hq
 rw [bFK,aIR] at hq
 by_cases hz:s.size=0
 ·rw [beq_iff_eq.2 hz,cond_true] at hq
  subst hq
  have hse:=aSE hz
  refine dF R56 (ob0:= []) cE Tryz.func56 rfl rfl rfl ?_
  refine Wy ?_
  rw [hse]
  exact jR
 rw [beq_eq_false_iff_ne.2 hz,cond_false] at hq
 have hse:=aW9 hz
 have hcn:=fK (off:=off) (n:=s.size) (by omega)
 cases hL:eR c f off s.size true (cnt off s.size) with
 |none=>
  rw [hL] at hq k52
  dsimp only [aLR] at hq k52
  subst hq
  generalize iE c f ((off+s.size:Nat):Int)=g at *
  refine dF R56 (ob0:= []) cE Tryz.func56 rfl rfl rfl ?_
  refine Wy ?_
  rw [hse]
  exact jR
 |some L=>
  rw [hL] at hq k52
  dsimp only [aLR] at hq k52
  have hlz:=lD hL
  by_cases g4:(iE c f ((off+s.size:Nat):Int)).2.2=0
  ·rw [g4] at hq
   cases L with
   |cons a L=>
    subst hq
    simp only [List.length_cons] at hlz
    generalize iE c f ((off+s.size:Nat):Int)=g at *
    refine dF R56 (ob0:= []) cE Tryz.func56 rfl rfl rfl ?_
    refine Wy ?_
    rw [hse]
    exact jR
   |nil=>
    have k162:=aEL off s.size hb
    have hq:((kI (cB c.x f ((off+s.size:Nat):Int)).1 f off s (cnt off s.size)).sz f (max ((kI (cB c.x f ((off+s.size:Nat):Int)).1 f off s (cnt off s.size)).fl.getD f aP).size (off+s.size)),(0:Int))=q:=hq
    obtain⟨W',w1,w2,w3,k168⟩:=bFE h hm hf hb g4
    rw [(sV c.x f off s (cnt off s.size)).b,w2.b] at k168
    rw [w3] at hq
    clear w3
    rw [g4] at k166
    refine dF R56 (ob0:= []) cE Tryz.func56 rfl rfl rfl ?_
    refine Wy ?_
    rw [hse]
    refine Wy ?_
    have h0:s.extract (oF off s.size 0) s.size=s:=by
     rw [show oF off s.size 0=0 by unfold oF;omega]
     exact ByteArray.extract_zero_size
    refine Lp (λi:Nat=>i<=cnt off s.size) (λi=> [(93,.int .i64 (i:Int)),(3,.str (s.extract (oF off s.size i) s.size))]) (λi=> [(4,.row 15 (bA (kI c.x f off s i).fl)),(5,.row 9 (aV (kI c.x f off s i).fr)),(6,.row 3 (bW (kI c.x f off s i).ls))]) (λi=>cnt off s.size-i) 0 (Nat.zero_le _) ?_ ?_
    ·simp only [h0]
     exact Vr [some 0,some 1,some 2,some 3,some 4,some 5,some 6,some 7]
    intro i hi
    refine Wy ?_
    refine fP (λb=>?_) (λb=>?_)
    ·have b:i<cnt off s.size:=by omega
     have hg:=sJ off s.size (cnt off s.size) i b
     obtain⟨m,u0,hp0⟩:=pS hL i b
     have hz0:=tO hL i b m u0 hp0
     have hpi:=eY b
     have hq2:=aC2 b
     have k138:=h.f138s hf (by omega) hp0
     have hf':f<c.x.fl.length:=hf
     obtain⟨o1,o2,o3⟩:=qV h.x hf' hb i hi
     have hp:eA (kI c.x f off s i) f (off/16+i)=some (m,u0):=(o3 i (zA i)).trans hp0
     obtain⟨q1,q2,q3,q4,q5⟩:=bM o1 (by rw [o2];exact hf') hp
     have hu:=o1.use m u0 q1 q2
     obtain⟨t1,t2⟩:=bH3 b
     have hfi:=aN2 b
     have hwz:=aJ2 (s:=s) (off:=off) b
     have hx1:(s.extract (oF off s.size i) s.size).extract 0 (aO (off/16+i) off s.size).2=s.extract (gO (off/16+i) off s.size) (gO (off/16+i) off s.size+(aO (off/16+i) off s.size).2):=by
      rw [aOO s (by omega) (zA _),t1];rfl
     have hx2:(s.extract (oF off s.size i) s.size).extract (aO (off/16+i) off s.size).2 (s.extract (oF off s.size i) s.size).size=s.extract (oF off s.size (i+1)) s.size:=by
      rw [cF,aOO s (by omega) (zA _),t2]
      congr 1;omega
     have hxz:(s.extract (oF off s.size i) s.size).size=s.size-oF off s.size i:=by rw [cF];omega
     have hst:kI c.x f off s (i+1)=((kI c.x f off s i).put m (dQ u0 (dP u0.p (aO (off/16+i) off s.size).1 (s.extract (gO (off/16+i) off s.size) (gO (off/16+i) off s.size+(aO (off/16+i) off s.size).2))))).acc m u0.ten:=by rw [kI,hp]
     have hw:=lP hu.pg (off:=(aO (off/16+i) off s.size).1) (s:=s.extract (gO (off/16+i) off s.size) (gO (off/16+i) off s.size+(aO (off/16+i) off s.size).2)) (by rw [hwz];exact hpi.1)
     have k167:=bB2 (kI c.x f off s i) o1 m u0 q1 q2 (aO (off/16+i) off s.size).1 (s.extract (gO (off/16+i) off s.size) (gO (off/16+i) off s.size+(aO (off/16+i) off s.size).2)) (by rw [hwz];exact hpi.1) (by rw [hwz];exact hz0)
     have o4:=o1.put' q1 q2 hw
     have k97:=bJZ ((kI c.x f off s i).put m (dQ u0 (dP u0.p (aO (off/16+i) off s.size).1 (s.extract (gO (off/16+i) off s.size) (gO (off/16+i) off s.size+(aO (off/16+i) off s.size).2))))) m _ (by rw [tJ];exact q1) (aJ _ _ _ _ q1) (by rw [tJ];exact o1.nr) (by show u0.ten<_;exact(by rw [o4.nl];exact hu.ten)) (o4.smL _)
     have s1:=sV c.x f off s i
     have s3:=sV c.x f off s (i+1)
     have s2:=s1.put m (dQ u0 (dP u0.p (aO (off/16+i) off s.size).1 (s.extract (gO (off/16+i) off s.size) (gO (off/16+i) off s.size+(aO (off/16+i) off s.size).2))))
     rw [show(dQ u0 (dP u0.p (aO (off/16+i) off s.size).1 (s.extract (gO (off/16+i) off s.size) (gO (off/16+i) off s.size+(aO (off/16+i) off s.size).2)))).ten=u0.ten from rfl,<-hst] at k97
     rw [s2.b,s3.b,<-hx1] at k97
     rw [s1.b,s2.b,<-hx1] at k167
     have e1:c.x.fl.length=c.fl.length:=rfl
     have e2:c.x.fr.length=c.fr.length:=rfl
     have e3:c.x.ls.length=c.ls.length:=rfl
     have hgu:=jB q1 q2
     have hle:(aO (off/16+i) off s.size).2<=(s.extract (oF off s.size i) s.size).size/\(s.extract (oF off s.size i) s.size).size<=128/\(aO (off/16+i) off s.size).1+(aO (off/16+i) off s.size).2<=16:=by rw [hxz];omega
     clear hxz
     clear hst hx1 o4 o3 hz0 t1 t2 hfi hwz s1 s2 s3 hp hp0 hw hL hlz g4 hz hse hq q5
     generalize hW':kI c.x f off s (i+1)=W' at *
     generalize kI c.x f off s i=W at *
     generalize hR':s.extract (oF off s.size (i+1)) s.size=R' at *
     generalize s.extract (oF off s.size i) s.size=R at *
     generalize(W.put m (dQ u0 _))=W1 at *
     generalize(aO (off/16+i) off s.size).1=a1 at *
     generalize(aO (off/16+i) off s.size).2=a2 at *
     refine Wy ?_
     refine Le (i+1) (hv:=?_)
     simp only [hW',hR',<-hx2]
     exact Vr [some 0,some 1,some 2,some 3,some 4,some 5,some 6,some 7]
    obtain rfl:i=cnt off s.size:=by omega
    have hfe:f<W'.fl.length:=by rw [w2.l1];exact hf
    have hgw:=iS hfe
    have kf:=w1.file f hfe
    have hps:=aPL (n:=max (W'.fl.getD f aP).size (off+s.size)) hfe kf.E
    obtain⟨j0,j1,j2,j3,hwc,-⟩:=Df.cells kf.E
    rw [hwc] at hgw hps
    have hsw:=kf.size
    subst hq
    unfold Dc.sz Dc.c
    dsimp only
    rw [w2.zo,w2.gr,w2.ck,w2.pt,<-hps]
    have hfx:f<c.x.fl.length:=hf
    have l1:=w2.l1
    have l2:=w2.l2
    have l3:=w2.l3
    clear hgf hfc hs hps hL hlz g4 hse hz k52 k141 k161 k162 w1 w2 kf
    generalize kI c.x f off s (cnt off s.size)=W at *
    generalize(W'.fl.getD f aP).size=z at *
    exact jR
  ·rw [show(bif (iE c f ((off+s.size:Nat):Int)).2.2==4 then(c.x,4) else bif L.isEmpty&&(iE c f ((off+s.size:Nat):Int)).2.2==0 then _ else(c.x,7):Dc×Int)=(c.x,(iE c f ((off+s.size:Nat):Int)).2.2) from ?_] at hq
   ·subst hq
    generalize iE c f ((off+s.size:Nat):Int)=g at *
    refine dF R56 (ob0:= []) cE Tryz.func56 rfl rfl rfl ?_
    refine Wy ?_
    rw [hse]
    exact jR
   ·have hg:=(qU h.x ((off+s.size:Nat):Int) (show f<c.x.fl.length from hf)).2.2.1
    rw [aIR] at hg
    generalize(iE c f ((off+s.size:Nat):Int)).2.2=g at *
    rcases hg with rfl |rfl |rfl
    ·exact absurd rfl g4
    ·rfl
    ·cases L <;> rfl
end Go.Proofs.YtmhapcbjjpadnaaGreat
