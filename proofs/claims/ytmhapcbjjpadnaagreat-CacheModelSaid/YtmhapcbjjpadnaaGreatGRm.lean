/- Caches. -/
import Derived.Test.YtmhapcbjjpadnaaGreatGQm
import Derived.Test.YtmhapcbjjpadnaaGreatGOm
set_option linter.unusedSimpArgs false
set_option linter.unusedVariables false
open List renaming set_set→zC
open Nat renaming le_refl→zA
set_option linter.constructorNameAsVariable false
set_option maxRecDepth 40000
namespace Go.Proofs.YtmhapcbjjpadnaaGreat
open Go Go.Sk Go.RowKit
theorem aSO {E E':cI} {u:Us} (h:E u.page=E' u.page):mE E u u.page=mE E' u u.page:=by
 unfold mE iQ;simp only [cR,h]
theorem aX1 {E:cI} {a b:Us} (h:a.page≠b.page):mE (mE E a) b=mE (mE E b) a:=by
 funext j
 by_cases e1:j=b.page
 ·subst e1
  rw [aSO (E':=E) (pT (fun x=>h x.symm)),pT (u:=a) (fun x=>h x.symm)]
 ·rw [pT e1]
  by_cases e2:j=a.page
  ·subst e2;exact(aSO (pT h)).symm
  ·rw [pT e2,pT e2,pT e1]
theorem aSP {E:cI} {u v w:Us} (h:(E u.page).2=mkN w)(hp:v.page=u.page):mE (mE E u) v=mE E v:=by
 funext j
 by_cases e:j=v.page
 ·subst e
  have h1:(mE E u v.page).2=mkN u:=by rw [hp];exact aIR h
  have h2:=aIR (E:=mE E u) (u:=v) h1
  have h3:=aIR (E:=E) (u:=v) (v:=w) (by rw [hp];exact h)
  exact Prod.ext (by rw [sZ,sZ,sZ]) (h2.trans h3.symm)
 ·rw [pT e,pT (by rw [←hp];exact e),pT e]
theorem aFD {c:Dc} (h:Ok c)(hm:iL c) {m:Nat} {u v w:Us} (h1:m<c.fr.length)(h2:c.fr.getD m none=some w)(hk:gW u=gW w)(hk':gW v=gW w):(c.put m u).put m v=c.put m v:=by
 have hw:=h.use m w h1 h2
 have hM:=hm m w h1 h2
 simp only [gW,Prod.mk.injEq] at hk hk'
 obtain⟨a1,a2,a3⟩:=hk
 obtain⟨b1,b2,b3⟩:=hk'
 have hl:=hw.file
 unfold Dc.put Dc.mark Dc.setU
 dsimp only
 rw [a1,b1,aD _ _ _ _ hl,zC,zC,dK,aSP (w:=w) (by rw [a2];exact hM) (by rw [b2,a2])]
 rfl
theorem put_comm(c:Dc) {m n:Nat} {u v:Us} (hmn:m≠n)(hf:u.file<c.fl.length)(hp:¬(u.file=v.file∧u.page=v.page)):(c.put m u).put n v=(c.put n v).put m u:=by
 unfold Dc.put Dc.mark Dc.setU
 dsimp only
 rw [List.set_comm _ _ hmn]
 by_cases e:u.file=v.file
 ·rw [←e,aD _ _ _ _ hf,aD _ _ _ _ hf,zC,zC,dK,dK,aX1 (fun x=>hp ⟨e,x⟩)]
  rfl
 ·rw [getD_set_ne _ _ _ (fun x=>e x.symm),getD_set_ne _ _ _ e,List.set_comm _ _ e]
theorem aM3 {p:Pg} (h:dU p) {off s:Nat} {d:ByteArray} (hs:s<4):dX (gM p s) off d=gM (dX p off d) s:=by
 have ht:tch off d.size<4:=(pN off d.size (zA 2)).1
 have key:∀v d t s:Fin 4,((d.val ||| (s.val &&& v.val))||| t.val)=((d.val ||| t.val)||| (s.val &&& (v.val ||| t.val))):=by decide
 have k:=key ⟨p.v,h.v⟩ ⟨p.d,h.d⟩ ⟨tch off d.size,ht⟩ ⟨s,hs⟩
 unfold dX gM
 dsimp only at k⊢
 rw [k]
def aM2(c:Dc)(m s:Nat):Dc:=match c.fr.getD m none with
 |some u=>c.put m (cD u (gM u.p s))
 |none=>c
theorem jN {c:Dc} {m s:Nat} {u:Us} (h:c.fr.getD m none=some u):aM2 c m s=c.put m (cD u (gM u.p s)):=by unfold aM2;rw [h]
theorem aA7 {c:Dc} {m s:Nat} (h:c.fr.getD m none=none):aM2 c m s=c:=by unfold aM2;rw [h]
theorem oS {c:Dc} {m:Nat} {u:Us} (h:c.fr.getD m none=some u):m<c.fr.length:=by
 refine Nat.lt_of_not_le fun x=>?_
 rw [List.getD_eq_getElem?_getD,List.getElem?_eq_none x] at h
 cases h
theorem aOV {c:Dc} (h:Ok c)(hm:iL c) {f off:Nat} {s:ByteArray} (hf:f<c.fl.length)(hb:off+s.size≤128) {m0 sec:Nat} (hs:sec<4):∀k,k≤cnt off s.size→iZ (aM2 c m0 sec) f off s k=aM2 (iZ c f off s k) m0 sec
 |0,_=>rfl
 |k+1,hk=>by
  have ih:=aOV h hm hf hb (m0:=m0) hs k (by omega)
  obtain⟨o1,o2,o3⟩:=pO h hf hb k (by omega)
  have oM:=aHD h hm hf hb k (by omega)
  rw [iZ,ih,iZ]
  generalize iZ c f off s k=W at *
  have hf1:f<W.fl.length:=by rw [o2];exact hf
  cases e0:W.fr.getD m0 none with
  |none=>
   rw [aA7 e0]
   cases hp:cC W f (off/16+k) with
   |none=>dsimp only;rw [aA7 e0]
   |some x=>
    obtain⟨m,u⟩:=x
    obtain⟨q1,q2,q3,q4,q5⟩:=bI o1 hf1 hp
    dsimp only
    rw [aA7]
    show(W.fr.set m _).getD m0 none=none
    rw [getD_set_ne _ _ _ (by rintro rfl;rw [e0] at q2;cases q2),e0]
  |some u0=>
   have l0:=oS e0
   have hu0:=o1.use m0 u0 l0 e0
   rw [jN e0,rQ o1 l0 e0 f _ hf1]
   cases hp:cC W f (off/16+k) with
   |none=>
    rw [if_neg]
    ·dsimp only;rw [jN e0]
    ·rintro ⟨rfl,x2⟩
     unfold cC at hp
     rw [x2,hu0.val,decide_eq_true (by omega),cond_true,show(((m0+1:Nat):Int)-1).toNat=m0 from by omega,e0] at hp
     cases hp
   |some x=>
    obtain⟨m,u⟩:=x
    obtain⟨q1,q2,q3,q4,q5⟩:=bI o1 hf1 hp
    have hu:=o1.use m u q1 q2
    by_cases e:m=m0
    ·subst e
     rw [q2] at e0
     injection e0 with e0
     subst e0
     rw [if_pos ⟨q3.symm,q4.symm⟩]
     dsimp only
     rw [jN (u:=cD u (dX u.p (aP (off/16+k) off s.size).1 (s.extract (jG (off/16+k) off s.size) (jG (off/16+k) off s.size+(aP (off/16+k) off s.size).2)))) (aD _ _ _ _ q1)]
     show((W.put m _).put m _).acc m u.ten=((W.put m _).put m _).acc m u.ten
     refine congrArg (fun x:Dc=>x.acc m u.ten) ?_
     refine Eq.trans (aFD o1 oM q1 q2 (by rfl) (by rfl)) (Eq.trans ?_ (Eq.symm (aFD o1 oM q1 q2 (by rfl) (by rfl))))
     exact congrArg (fun x=>W.put m (cD u x)) (aM3 hu.pg hs)
    ·have hne:¬(f=u0.file∧off/16+k=u0.page):=by
      rintro ⟨x1,x2⟩
      have a:=hu0.val
      rw [←x1,←x2,q5] at a
      omega
     rw [if_neg hne]
     dsimp only
     rw [jN (c:=(W.put m _).acc m u.ten) (u:=u0) (by show(W.fr.set m _).getD m0 none=_;rw [getD_set_ne _ _ _ (fun x=>e x.symm),e0])]
     show((W.put m0 _).put m _).acc m u.ten=((W.put m _).put m0 _).acc m u.ten
     refine congrArg (fun x:Dc=>x.acc m u.ten) (put_comm W (fun x=>e x.symm) hu0.file ?_)
     rintro ⟨x1,x2⟩
     exact hne ⟨q3.symm.trans x1.symm,q4.symm.trans x2.symm⟩
end Go.Proofs.YtmhapcbjjpadnaaGreat
set_option maxRecDepth 40000
namespace Go.Proofs.YtmhapcbjjpadnaaGreat
open Go Go.Sk Go.RowKit
theorem bDJ(c:Dc)(f off n:Nat)(w:Bool)(k:Nat):fK c.x f off n w k=fK c f off n w k:=aM6 (c:=c) (d:=c.x) (fun _=>rfl) k
theorem aH6(c:Dc)(f:Nat)(e:Int):(bT c.x f e).2=(gN c f e).2.2:=by
 unfold bT gN
 rw [show eN (c.x.fl.getD f aK) e=eN (c.fl.getD f aK) e from rfl]
 cases eN (c.fl.getD f aK) e with
 |none=>rfl
 |some x=>
  obtain⟨p,s⟩:=x
  dsimp only
  rw [show cC c.x f p=cC c f p from rfl]
  cases cC c f p with
  |none=>rfl
  |some x=>
   obtain⟨m,u⟩:=x
   dsimp only
   cases(gP false s u.p.v==0)<;> rfl
theorem aQP {s:ByteArray} (h:s.size=0):lJ s ⟨#[]⟩=true:=by
 have :s.data.toList=[]:=List.eq_nil_of_length_eq_zero h
 unfold lJ;rw [this];rfl
theorem aJU {s:ByteArray} (h:s.size≠0):lJ s ⟨#[]⟩=false:=by
 cases e:lJ s ⟨#[]⟩ with
 |false=>rfl
 |true=>
  have :s.data.toList=[]:=by unfold lJ at e;exact eq_of_beq e
  exact absurd (show s.data.toList.length=0 by rw [this];rfl) h
theorem aET {c:Dc} (h:Ok c) {f:Nat} {e:Int} (hf:f<c.fl.length)(g:(gN c f e).2.2=0):(gN c f e=(0,0,0)∧(bT c.x f e).1=c.x)∨∃m s u,gN c f e=(((m+1:Nat):Int),((s:Nat):Int),0)∧m<c.fr.length∧c.fr.getD m none=some u∧s<4∧(bT c.x f e).1=aM2 c.x m s:=by
 unfold gN at g
 unfold bT gN
 rw [show eN (c.x.fl.getD f aK) e=eN (c.fl.getD f aK) e from rfl]
 cases ht:eN (c.fl.getD f aK) e with
 |none=>exact .inl ⟨rfl,rfl⟩
 |some x=>
  obtain⟨p,s⟩:=x
  obtain⟨t1,t2,t3,t4,t5⟩:=pM ht (h.file f hf).size
  rw [ht] at g
  dsimp only at g⊢
  rw [show cC c.x f p=cC c f p from rfl]
  cases hp:cC c f p with
  |none=>rw [hp] at g;cases g
  |some x=>
   obtain⟨m,u⟩:=x
   obtain⟨q1,q2,q3,q4,q5⟩:=bI h hf hp
   rw [hp] at g
   dsimp only at g⊢
   cases hb:(gP false s u.p.v==0) with
   |false=>rw [hb] at g;cases g
   |true=>exact .inr ⟨m,s,u,rfl,q1,q2,t3,(jN (c:=c.x) q2).symm⟩
theorem aK1(c:Dc)(f off:Nat)(s:ByteArray) {m:Nat} {u:Us} (h:c.fr.getD m none=some u):∀k,∃v,(iZ c f off s k).fr.getD m none=some v
 |0=>⟨u,h⟩
 |k+1=>by
  obtain⟨v,ih⟩:=aK1 c f off s h k
  rw [iZ]
  split
  ·rename_i n w hp
   by_cases e:m=n
   ·subst e
    exact⟨_,aD _ _ _ _ (oS ih)⟩
   ·exact⟨v,(getD_set_ne _ _ _ e).trans ih⟩
  ·exact⟨v,ih⟩
structure sI(d c:Dc):Prop where
 zo:d.zo=c.zo
 gr:d.gr=c.gr
 ck:d.ck=c.ck
 pt:d.pt=c.pt
 l1:d.fl.length=c.fl.length
 l2:d.fr.length=c.fr.length
 l3:d.ls.length=c.ls.length
theorem sI.put {d c:Dc} (h:sI d c)(m:Nat)(u:Us):sI (d.put m u) c:=⟨h.zo,h.gr,h.ck,h.pt,(mJ ..).trans h.l1,(aBT ..).trans h.l2,h.l3⟩
theorem sI.acc {d c:Dc} (h:sI d c)(m t:Nat):sI (d.acc m t) c:=⟨h.zo,h.gr,h.ck,h.pt,h.l1,h.l2,(List.length_set ..).trans h.l3⟩
theorem sI.b {d c:Dc} (h:sI d c):d.b=[.box [.sl 1 0 c.fl.length,.sl 2 0 c.fr.length,.lst 6 false (aW c.zo),.lst 3 false (bP c.gr),.sl 3 0 c.ls.length,.sl 4 0 c.ck.length,.lst 5 false (bQ c.pt)],.row 15 (bG d.fl),.row 9 (bE d.fr),.row 3 (cN d.ls),.row 1 (aJ c.ck)]:=by
 unfold Dc.b
 rw [h.zo,h.gr,h.ck,h.pt,h.l1,h.l2,h.l3]
theorem rG(c:Dc)(f off:Nat)(s:ByteArray):∀k,sI (iZ c f off s k) c
 |0=>⟨rfl,rfl,rfl,rfl,rfl,rfl,rfl⟩
 |k+1=>by
  have ih:=rG c f off s k
  rw [iZ]
  split
  ·exact(ih.put _ _).acc _ _
  ·exact ih
def oF(off n i:Nat):Nat:=min (max ((off/16+i)*16) off-off) n
theorem bF1 {off n i:Nat} (h:i<cnt off n):oF off n i=jG (off/16+i) off n∧oF off n (i+1)=oF off n i+(aP (off/16+i) off n).2:=by
 have h1:=aDF h
 have h2:=fF h
 unfold oF jG
 unfold aP at *
 dsimp only at *
 omega
theorem aMW(s:ByteArray) {a e i j:Nat} (h:a+j≤e)(he:e≤s.size):(s.extract a e).extract i j=s.extract (a+i) (a+j):=by
 rw [ByteArray.extract_extract,Nat.min_eq_left h]
theorem bDB {c:Dc} (h:Ok c)(hm:iL c) {f off:Nat} {s:ByteArray} (hf:f<c.fl.length)(hb:off+s.size≤128)(g:(gN c f ((off+s.size:Nat):Int)).2.2=0):∃W:Dc,Ok W∧sI W c.x∧iZ (bT c.x f ((off+s.size:Nat):Int)).1 f off s (cnt off s.size)=W∧aQ Tryz.prog 168 (iZ c.x f off s (cnt off s.size)).b [.ptr 0 0 0,.int .i64 (gN c f ((off+s.size:Nat):Int)).1,.int .i64 (gN c f ((off+s.size:Nat):Int)).2.1] (.tup []) W.b:=by
 have hf':f<c.x.fl.length:=hf
 obtain⟨o1,o2,o3⟩:=pO h.x (s:=s) (off:=off) hf' hb _ (zA _)
 have hs:=rG c.x f off s (cnt off s.size)
 rcases aET h hf g with ⟨e1,e2⟩| ⟨m,se,u,e1,q1,q2,q3,e2⟩
 ·rw [e1,e2]
  exact⟨_,o1,hs,rfl,aLF _ 0⟩
 ·rw [e1,e2,aOV h.x hm hf' hb q3 _ (zA _)]
  obtain⟨v,hv⟩:=aK1 c.x f off s q2 (cnt off s.size)
  have hl:=oS hv
  rw [jN hv]
  exact⟨_,o1.put' hl hv (rD (o1.use m v hl hv).pg q3),hs.put _ _,rfl,aZO _ o1 m v hl hv se q3⟩
noncomputable def R56:aHJ Tryz.prog Tryz.f56 [] 4:=⟨_,_,_,_,_,_,_,rfl,rfl,rfl⟩
theorem bGM(c:Dc)(h:Ok c)(f off:Int)(s:ByteArray)(hss:s.size<2^32)(hh:jA c f off s.size=false):aQ Tryz.prog 56 [] [.agg c.c,.int .i64 f,.int .i64 off,.str s] (.tup [.agg c.x.c,.int .i64 2]) []:=by
 have k82:=aE6 c h
 have k141:=aWO c f
 have k161:=uL off s.size
 unfold jA at hh
 cases hd:decide (0≤f∧f< (c.fl.length:Int)) with
 |false=>
  rw [hd] at k141
  refine bD R56 (ob0:= []) aV Tryz.func56 rfl rfl rfl ?_
  exact eR
 |true=>
  rw [hd,cond_true] at hh
  rw [hd] at k141
  rw [hh] at k161
  refine bD R56 (ob0:= []) aV Tryz.func56 rfl rfl rfl ?_
  exact eR
set_option maxHeartbeats 8000000 in
theorem bJ9(c:Dc)(h:Ok c)(hm:iL c)(f off:Nat)(s:ByteArray)(hf:f<c.fl.length)(hb:off+s.size≤128):aQ Tryz.prog 56 [] [.agg c.c,.int .i64 (f:Int),.int .i64 (off:Int),.str s] (.tup [.agg (lM c.x f off s).1.c,.int .i64 (lM c.x f off s).2]) []:=by
 have k82:=aE6 c h
 rw [xb] at k82
 have k141:=aD7 c f hf
 have k161:=uL (off:Int) (s.size:Int)
 rw [sU hb] at k161
 have hgf:=mV hf
 have hs:=(h.file f hf).size
 obtain⟨k0,k1,k2,k3,hfc,-⟩:=Df.cells (h.file f hf).E
 rw [hfc] at hgf
 have k52:=bGL c h f off s.size hf hb true
 have k166:=aZM c h f ((off+s.size:Nat):Int) hf
 generalize hq:lM c.x f off s=q
 unfold lM at hq
 rw [bDJ,aH6] at hq
 by_cases hz:s.size=0
 ·rw [beq_iff_eq.2 hz,cond_true] at hq
  subst hq
  have hse:=aQP hz
  refine bD R56 (ob0:= []) aV Tryz.func56 rfl rfl rfl ?_
  refine Wy ?_
  rw [hse]
  exact eR
 rw [beq_eq_false_iff_ne.2 hz,cond_false] at hq
 have hse:=aJU hz
 have hcn:=jF (off:=off) (n:=s.size) (by omega)
 cases hL:fK c f off s.size true (cnt off s.size) with
 |none=>
  rw [hL] at hq k52
  dsimp only [aYI] at hq k52
  subst hq
  generalize gN c f ((off+s.size:Nat):Int)=g at *
  refine bD R56 (ob0:= []) aV Tryz.func56 rfl rfl rfl ?_
  refine Wy ?_
  rw [hse]
  exact eR
 |some L=>
  rw [hL] at hq k52
  dsimp only [aYI] at hq k52
  have hlz:=uW hL
  by_cases g4:(gN c f ((off+s.size:Nat):Int)).2.2=0
  ·rw [g4] at hq
   cases L with
   |cons a L=>
    subst hq
    simp only [List.length_cons] at hlz
    generalize gN c f ((off+s.size:Nat):Int)=g at *
    refine bD R56 (ob0:= []) aV Tryz.func56 rfl rfl rfl ?_
    refine Wy ?_
    rw [hse]
    exact eR
   |nil=>
    have k162:=aD8 off s.size hb
    have hq:((iZ (bT c.x f ((off+s.size:Nat):Int)).1 f off s (cnt off s.size)).sz f (max ((iZ (bT c.x f ((off+s.size:Nat):Int)).1 f off s (cnt off s.size)).fl.getD f aK).size (off+s.size)),(0:Int))=q:=hq
    obtain⟨W',w1,w2,w3,k168⟩:=bDB h hm hf hb g4
    rw [(rG c.x f off s (cnt off s.size)).b,w2.b] at k168
    rw [w3] at hq
    clear w3
    rw [g4] at k166
    refine bD R56 (ob0:= []) aV Tryz.func56 rfl rfl rfl ?_
    refine Wy ?_
    rw [hse]
    refine Wy ?_
    have h0:s.extract (oF off s.size 0) s.size=s:=by
     rw [show oF off s.size 0=0 by unfold oF;omega]
     exact ByteArray.extract_zero_size
    refine Lp (fun i:Nat=>i≤cnt off s.size) (fun i=> [(93,.int .i64 (i:Int)),(3,.str (s.extract (oF off s.size i) s.size))]) (fun i=> [(4,.row 15 (bG (iZ c.x f off s i).fl)),(5,.row 9 (bE (iZ c.x f off s i).fr)),(6,.row 3 (cN (iZ c.x f off s i).ls))]) (fun i=>cnt off s.size-i) 0 (Nat.zero_le _) ?_ ?_
    ·simp only [h0]
     exact Vr [some 0,some 1,some 2,some 3,some 4,some 5,some 6,some 7]
    intro i hi
    refine Wy ?_
    refine lP (fun b=>?_) (fun b=>?_)
    ·have b:i<cnt off s.size:=by omega
     have hg:=qV off s.size (cnt off s.size) i b
     obtain⟨m,u0,hp0⟩:=aAA hL i b
     have hz0:=aAB hL i b m u0 hp0
     have hpi:=fF b
     have hq2:=aDF b
     have k138:=h.f138s hf (by omega) hp0
     have hf':f<c.x.fl.length:=hf
     obtain⟨o1,o2,o3⟩:=pO h.x hf' hb i hi
     have hp:cC (iZ c.x f off s i) f (off/16+i)=some (m,u0):=(o3 i (zA i)).trans hp0
     obtain⟨q1,q2,q3,q4,q5⟩:=bI o1 (by rw [o2];exact hf') hp
     have hu:=o1.use m u0 q1 q2
     obtain⟨t1,t2⟩:=bF1 b
     have hfi:=aS5 b
     have hwz:=aHE (s:=s) (off:=off) b
     have hx1:(s.extract (oF off s.size i) s.size).extract 0 (aP (off/16+i) off s.size).2=s.extract (jG (off/16+i) off s.size) (jG (off/16+i) off s.size+(aP (off/16+i) off s.size).2):=by
      rw [aMW s (by omega) (zA _),t1];rfl
     have hx2:(s.extract (oF off s.size i) s.size).extract (aP (off/16+i) off s.size).2 (s.extract (oF off s.size i) s.size).size=s.extract (oF off s.size (i+1)) s.size:=by
      rw [cA,aMW s (by omega) (zA _),t2]
      congr 1;omega
     have hxz:(s.extract (oF off s.size i) s.size).size=s.size-oF off s.size i:=by rw [cA];omega
     have hst:iZ c.x f off s (i+1)=((iZ c.x f off s i).put m (cD u0 (dX u0.p (aP (off/16+i) off s.size).1 (s.extract (jG (off/16+i) off s.size) (jG (off/16+i) off s.size+(aP (off/16+i) off s.size).2))))).acc m u0.ten:=by rw [iZ,hp]
     have hw:=oB hu.pg (off:=(aP (off/16+i) off s.size).1) (s:=s.extract (jG (off/16+i) off s.size) (jG (off/16+i) off s.size+(aP (off/16+i) off s.size).2)) (by rw [hwz];exact hpi.1)
     have k167:=aZN (iZ c.x f off s i) o1 m u0 q1 q2 (aP (off/16+i) off s.size).1 (s.extract (jG (off/16+i) off s.size) (jG (off/16+i) off s.size+(aP (off/16+i) off s.size).2)) (by rw [hwz];exact hpi.1) (by rw [hwz];exact hz0)
     have o4:=o1.put' q1 q2 hw
     have k97:=bGR ((iZ c.x f off s i).put m (cD u0 (dX u0.p (aP (off/16+i) off s.size).1 (s.extract (jG (off/16+i) off s.size) (jG (off/16+i) off s.size+(aP (off/16+i) off s.size).2))))) m _ (by rw [aBT];exact q1) (aD _ _ _ _ q1) (by rw [aBT];exact o1.nr) (by show u0.ten<_;exact(by rw [o4.nl];exact hu.ten)) (o4.smL _)
     have s1:=rG c.x f off s i
     have s3:=rG c.x f off s (i+1)
     have s2:=s1.put m (cD u0 (dX u0.p (aP (off/16+i) off s.size).1 (s.extract (jG (off/16+i) off s.size) (jG (off/16+i) off s.size+(aP (off/16+i) off s.size).2))))
     rw [show(cD u0 (dX u0.p (aP (off/16+i) off s.size).1 (s.extract (jG (off/16+i) off s.size) (jG (off/16+i) off s.size+(aP (off/16+i) off s.size).2)))).ten=u0.ten from rfl,←hst] at k97
     rw [s2.b,s3.b,←hx1] at k97
     rw [s1.b,s2.b,←hx1] at k167
     have e1:c.x.fl.length=c.fl.length:=rfl
     have e2:c.x.fr.length=c.fr.length:=rfl
     have e3:c.x.ls.length=c.ls.length:=rfl
     have hgu:=pH q1 q2
     have hle:(aP (off/16+i) off s.size).2≤(s.extract (oF off s.size i) s.size).size∧(s.extract (oF off s.size i) s.size).size≤128∧(aP (off/16+i) off s.size).1+(aP (off/16+i) off s.size).2≤16:=by rw [hxz];omega
     clear hxz
     clear hst hx1 o4 o3 hz0 t1 t2 hfi hwz s1 s2 s3 hp hp0 hw hL hlz g4 hz hse hq q5
     generalize hW':iZ c.x f off s (i+1)=W' at *
     generalize iZ c.x f off s i=W at *
     generalize hR':s.extract (oF off s.size (i+1)) s.size=R' at *
     generalize s.extract (oF off s.size i) s.size=R at *
     generalize(W.put m (cD u0 _))=W1 at *
     generalize(aP (off/16+i) off s.size).1=a1 at *
     generalize(aP (off/16+i) off s.size).2=a2 at *
     refine Wy ?_
     refine Le (i+1) (hv:=?_)
     simp only [hW',hR',←hx2]
     exact Vr [some 0,some 1,some 2,some 3,some 4,some 5,some 6,some 7]
    obtain rfl:i=cnt off s.size:=by omega
    have hfe:f<W'.fl.length:=by rw [w2.l1];exact hf
    have hgw:=mV hfe
    have kf:=w1.file f hfe
    have hps:=bAQ (n:=max (W'.fl.getD f aK).size (off+s.size)) hfe kf.E
    obtain⟨j0,j1,j2,j3,hwc,-⟩:=Df.cells kf.E
    rw [hwc] at hgw hps
    have hsw:=kf.size
    subst hq
    unfold Dc.sz Dc.c
    dsimp only
    rw [w2.zo,w2.gr,w2.ck,w2.pt,←hps]
    have hfx:f<c.x.fl.length:=hf
    have l1:=w2.l1
    have l2:=w2.l2
    have l3:=w2.l3
    clear hgf hfc hs hps hL hlz g4 hse hz k52 k141 k161 k162 w1 w2 kf
    generalize iZ c.x f off s (cnt off s.size)=W at *
    generalize(W'.fl.getD f aK).size=z at *
    exact eR
  ·rw [show(bif (gN c f ((off+s.size:Nat):Int)).2.2==4 then(c.x,4) else bif L.isEmpty&&(gN c f ((off+s.size:Nat):Int)).2.2==0 then _ else(c.x,7):Dc×Int)=(c.x,(gN c f ((off+s.size:Nat):Int)).2.2) from ?_] at hq
   ·subst hq
    generalize gN c f ((off+s.size:Nat):Int)=g at *
    refine bD R56 (ob0:= []) aV Tryz.func56 rfl rfl rfl ?_
    refine Wy ?_
    rw [hse]
    exact eR
   ·have hg:=(pL h.x ((off+s.size:Nat):Int) (show f<c.x.fl.length from hf)).2.2.1
    rw [aH6] at hg
    generalize(gN c f ((off+s.size:Nat):Int)).2.2=g at *
    rcases hg with rfl |rfl |rfl
    ·exact absurd rfl g4
    ·rfl
    ·cases L <;> rfl
end Go.Proofs.YtmhapcbjjpadnaaGreat
