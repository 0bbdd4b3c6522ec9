/- Caches. -/
import Derived.Test.YtmhapcbjjpadnaaGreatGG
import Derived.Test.YtmhapcbjjpadnaaGreatK8
set_option linter.unusedSimpArgs false
set_option linter.unusedVariables false
open Int renaming toNat_natCast→zD
open List renaming length_set→zA
open Nat renaming le_refl→zC
set_option maxRecDepth 40000
namespace Go.Proofs.YtmhapcbjjpadnaaGreat
open Go Go.Sk Go.RowKit
theorem aU3 {L:List Df} {f b:Nat} (h:f<L.length)(hE:bG (L.getD f aR).E):bM (L.set f (fbl (L.getD f aR) b))=(bM L).set f (aQ 15 (L.getD f aR).c 7 [.int .i64 (b:Int)]):=by
 rw [bM,bM,List.map_set]
 obtain⟨k0,k1,k2,k3,e,e3⟩:=Df.cells hE
 congr 1
 unfold Df.c fbl
 dsimp only
 rw [e3]
 rfl
theorem aJV {x k:Nat} (hx:x<256)(hk:k<8):eX .andNot .i64 (x:Int) ((2^k:Nat):Int)=((aJU x k:Nat):Int):=by
 have key:∀x:Fin 256,∀k:Fin 8,eX .andNot .i64 (x.val:Int) ((2^k.val:Nat):Int)=((aJU x.val k.val:Nat):Int):=by decide +kernel
 exact key ⟨x,hx⟩ ⟨k,hk⟩
set_option maxHeartbeats 8000000 in
theorem aZ3(c:Dc)(h:Ok c)(f off n:Nat)(hf:f<c.fl.length)(hb:off+n≤128)(hm:(fM c f off (fD c f off n) (cnt off (fD c f off n))).2.2=true):aN Tryz.prog 124 [] [.agg c.c,.int .i64 (f:Int),.int .i64 (off:Int),.int .i64 (n:Int)] (.agg (sP c f off (fD c f off n) (cnt off (fD c f off n))).c) []:=by
 have hgf:=qB hf
 have hs:=(h.file f hf).size
 obtain⟨k0,k1,k2,k3,hfc,-⟩:=Df.cells (h.file f hf).E
 rw [hfc] at hgf
 have hrd:max (min (n:Int) (((c.fl.getD f aR).size:Int)- (off:Int))) 0=((fD c f off n:Nat):Int):=by unfold fD;omega
 have hnl:fD c f off n≤n∧(fD c f off n=0∨off+fD c f off n≤(c.fl.getD f aR).size):=by unfold fD;omega
 have hr2:fD c f off (fD c f off n)=fD c f off n:=by unfold fD;omega
 have k59:=bCR c h f off (fD c f off n) hf (by omega)
 rw [hr2] at k59
 have k66:=aO2 off (fD c f off n) (by omega)
 have hcn:=oO (off:=off) (n:=fD c f off n) (by omega)
 have hlt:=aGH c f off (fD c f off n) (cnt off (fD c f off n)) (by omega)
 have hbit:=aIP c f off (fD c f off n) (cnt off (fD c f off n))
 have hmay:=aIQ hm
 generalize fD c f off n=n2 at *
 have hb2:off+n2≤128:=by omega
 unfold aRK at k59
 generalize hQ:fM c f off n2 (cnt off n2)=Q at *
 obtain⟨w,t,m⟩:=Q
 dsimp only at hlt hbit hm k59
 subst hm
 refine aJ (ob0:= []) [] Tryz.func124 rfl rfl rfl rfl ?_
 refine Wx ?_
 refine Lp (fun i:Nat=>i≤cnt off n2) (fun i=> [(13,.int .i64 (i:Int))]) (fun i=> [(0,.box (sP c f off n2 i).c)]) (fun i=>cnt off n2-i) 0 (Nat.zero_le _) ?_ ?_
 ·exact Vr [_,_]
 intro i hi
 refine Wx ?_
 refine iN (fun b=>?_) (fun b=>?_)
 ·have b:i<cnt off n2:=by omega
  have hg:=aC7 (off/16) (cnt off n2) i b
  have k126:=aH9 hb2 b
  have hpi:=pI b
  have h2p:2^(off/16+i)<2^8:=Nat.pow_lt_pow_right (by omega) (by omega)
  obtain⟨o1,o2,o3,o4⟩:=pO h hf hb2 i hi
  have hmi:=hmay i b
  have hst:sP c f off n2 (i+1)=aBW (sP c f off n2 i) f off n2 (off/16+i):=rfl
  unfold aBW at hst
  rw [aSM o3] at hst
  obtain⟨b1,b2⟩:=hbit (off/16+i)
  rw [decide_eq_true (show off/16≤off/16+i∧off/16+i<off/16+cnt off n2 by omega),Bool.true_and] at b1 b2
  rw [←aVN] at b1 b2
  have hp0:=o4 i (zC i)
  generalize sP c f off n2 i=d at *
  have hf1:f<d.fl.length:=by rw [o2];exact hf
  have hnr:=o1.nr
  cases hw:isW c f off n2 (off/16+i) with
  |true=>
   rw [hw] at b1 b2 hst
   rw [cond_true] at hst
   cases hp:gV d f (off/16+i) with
   |some x=>
    obtain⟨j,u⟩:=x
    have k33:=o1.f33s hf1 hp
    obtain⟨q1,q2,q3,q4,q5⟩:=cL o1 hf1 hp
    rw [hp] at hst
    dsimp only at hst
    have k154:=aZ8 d j u 0 o1.sm (o1.good q1 q2) (o1.use j u q1 q2).ten o1.gr o1.smZ (o1.smL _) o1.pt o1.ptl
    have o5:Ok (d.gone j u 0):=o1.gone q1 q2 (Int.le_refl 0) (by omega)
    have hle:(d.gone j u 0).fl.length=d.fl.length:=zA ..
    generalize d.gone j u 0=e at *
    have hfe:f<e.fl.length:=by rw [hle];exact hf1
    have hge:=qB hfe
    have kf:=o5.file f hfe
    have hps:=aU3 (b:=aJU (e.fl.getD f aR).blocks (off/16+i)) hfe kf.E
    have hob:=aJV kf.blocks (show off/16+i<8 by omega)
    obtain⟨e0,e1,e2,e3,hec,-⟩:=Df.cells kf.E
    rw [hec] at hge hps
    refine Wx ?_
    refine Le (i+1) (hv:=?_)
    simp only [hst,Dc.bl,Dc.c,hps]
    exact Vr [_,_]
   |none=>
    have k33:=o1.f33n hf1 hp
    rw [hp] at hst
    dsimp only at hst
    have k85:=aJZ d o1.sm
    have kd:=o1.file f hf1
    have hgd:=qB hf1
    have hE':bG (cO (d.fl.getD f aR).E (off/16+i) (0,0)):=kd.E.set (Nat.zero_lt_succ _) (fun _=>rfl)
    have k118:=aT2 kd.E kd.sup (off/16+i) (by omega) 0
    have hpt:=sC d.fl f _ hf1 kd.E hE'
    rw [eL d.fl f hf1] at hpt
    have hle:(d.e0 f (off/16+i)).fl.length=d.fl.length:=zA ..
    have hx:(d.e0 f (off/16+i)).fl.getD f aR=eK (d.fl.getD f aR) (cO (d.fl.getD f aR).E (off/16+i) (0,0)):=aL _ _ _ _ hf1
    have hge:(bM (d.fl.set f (eK (d.fl.getD f aR) (cO (d.fl.getD f aR).E (off/16+i) (0,0))))).getD f []=((d.e0 f (off/16+i)).fl.getD f aR).c:=eL _ f (by rw [zA];exact hf1)
    have hps:=aU3 (L:=(d.e0 f (off/16+i)).fl) (f:=f) (b:=aJU (d.fl.getD f aR).blocks (off/16+i)) (by rw [hle];exact hf1) (by rw [hx];exact hE')
    have hq:bM (d.e0 f (off/16+i)).fl=bM (d.fl.set f (eK (d.fl.getD f aR) (cO (d.fl.getD f aR).E (off/16+i) (0,0)))):=rfl
    have hob:=aJV kd.blocks (show off/16+i<8 by omega)
    have hbs:=kd.blocks
    obtain⟨e0,e1,e2,e3,hec,hcan⟩:=Df.cells kd.E
    obtain⟨g0,g1,g2,g3,hgd2,hgc⟩:=Df.cells (f:=eK (d.fl.getD f aR) (cO (d.fl.getD f aR).E (off/16+i) (0,0))) hE'
    have hgc:can (cO (d.fl.getD f aR).E (off/16+i) (0,0))=[.int .i64 (hgt (cO (d.fl.getD f aR).E (off/16+i) (0,0)):Int),.lst g0 g1 g2,.int .i64 g3,.int .i64 (kL (cO (d.fl.getD f aR).E (off/16+i) (0,0)) 0 (4^hgt (cO (d.fl.getD f aR).E (off/16+i) (0,0))):Nat)]:=hgc
    rw [hec] at hgd hpt
    rw [hcan,hgc] at k118
    rw [hgc] at hpt
    rw [←hpt,hx,hgd2] at hge
    rw [hq,←hpt,hx,hgd2] at hps
    have hst:sP c f off n2 (i+1)=⟨(d.e0 f (off/16+i)).fl.set f (fbl (eK (d.fl.getD f aR) (cO (d.fl.getD f aR).E (off/16+i) (0,0))) (aJU (d.fl.getD f aR).blocks (off/16+i))),d.fr,d.zo,d.gr,d.ls,d.ck,d.pt⟩:=by
     rw [hst]
     unfold Dc.bl
     rw [hx];rfl
    have hsm:=o1.sm
    have g1:=hsm.fl
    have g2:=hsm.fr
    have g3:=hsm.gr
    have g4:=hsm.ls
    have g5:=hsm.ck
    refine Wx ?_
    refine Le (i+1) (hv:=?_)
    simp only [hst,Dc.c,hps]
    exact Vr [_,_]
  |false=>
   rw [hw] at b1 b2 hst
   rw [cond_false] at hst
   obtain⟨j,u,hp,hz⟩:=aSS hmi hw
   rw [←hp0] at hp
   have k33:=o1.f33s hf1 hp
   obtain⟨q1,q2,q3,q4,q5⟩:=cL o1 hf1 hp
   have hu:=o1.use j u q1 q2
   have hgu:=nB q1 q2
   rw [hp] at hst
   dsimp only at hst
   have hzs:=aI4 (bY (off/16+i) off n2).2
   unfold iZ at hz
   have k220:=aZN u.p hu.pg (bY (off/16+i) off n2).1 (zB (bY (off/16+i) off n2).2) (by rw [hzs];exact hpi.1) (by rw [hzs];exact hz)
   have hwp:=sI hu.pg (off:=(bY (off/16+i) off n2).1) (s:=zB (bY (off/16+i) off n2).2) (by rw [hzs];exact hpi.1)
   have k155:=o1.p155 (u':=pZ u (rQ u.p (bY (off/16+i) off n2).1 (zB (bY (off/16+i) off n2).2))) q1 q2 rfl hwp hu.rd hu.wr
   refine Wx ?_
   rw [mkT (by omega) (by omega)]
   refine Wx ?_
   refine Le (i+1) (hv:=?_)
   simp only [hst]
   exact Vr [_,_]
 obtain rfl:i=cnt off n2:=by omega
 exact Wz
end Go.Proofs.YtmhapcbjjpadnaaGreat
set_option maxRecDepth 40000
namespace Go.Proofs.YtmhapcbjjpadnaaGreat
open Go Go.Sk Go.RowKit
theorem aSA(c:Dc)(f:Int):aN Tryz.prog 115 [] [.agg c.c,.int .i64 f] (.bool (decide (0≤f∧f< (c.fl.length:Int)))) []:=by
 by_cases e:0≤f∧f< (c.fl.length:Int)
 ·rw [decide_eq_true e]
  have :=aDM c f.toNat (by omega)
  rwa [show((f.toNat:Nat):Int)=f by omega] at this
 ·rw [decide_eq_false e];exact bBZ c f e
def lR(c:Dc)(f off n:Int):Bool:=bif decide (0≤f∧f< (c.fl.length:Int)) then kS off n else false
theorem iW {c:Dc} {f off n:Int} (h:lR c f off n=true):∃a b k:Nat,f=a∧off=b∧n=k∧a<c.fl.length∧b+k≤128:=by
 unfold lR at h
 by_cases e:0≤f∧f< (c.fl.length:Int)
 ·rw [decide_eq_true e,cond_true] at h
  obtain⟨b,k,rfl,rfl,h2⟩:=aLA h
  exact⟨f.toNat,b,k,by omega,rfl,rfl,by omega,h2⟩
 ·rw [decide_eq_false e] at h;cases h
theorem bIS {c:Dc} {f off n:Nat} (hf:f<c.fl.length)(hb:off+n≤128):lR c (f:Int) (off:Int) (n:Int)=true:=by
 unfold lR
 rw [decide_eq_true (by omega),cond_true,tE hb]
def aQ8(c:Dc)(f off n:Nat):Dc×Int:=bif (fM c f off (fD c f off n) (cnt off (fD c f off n))).2.2 then(sP c f off (fD c f off n) (cnt off (fD c f off n)),0) else(c,7)
def aAC(c:Dc)(f off n:Int):Dc×Int:=bif lR c f off n then aQ8 c f.toNat off.toNat n.toNat else(c,2)
theorem bJL(c:Dc)(h:Ok c)(f off n:Int):aN Tryz.prog 63 [] [.agg c.c,.int .i64 f,.int .i64 off,.int .i64 n] (.tup [.agg (aAC c f off n).1.c,.int .i64 (aAC c f off n).2]) []:=by
 have k115:=aSA c f
 have k125:=uR off n
 generalize hq:aAC c f off n=q
 unfold aAC at hq
 cases hr:lR c f off n with
 |false=>
  rw [hr,cond_false] at hq
  subst hq
  unfold lR at hr
  cases hd:decide (0≤f∧f< (c.fl.length:Int)) with
  |false=>
   rw [hd] at k115
   refine aJ (ob0:= []) [] Tryz.func63 rfl rfl rfl rfl ?_
   exact Wz
  |true=>
   rw [hd,cond_true] at hr
   rw [hd] at k115
   rw [hr] at k125
   refine aJ (ob0:= []) [] Tryz.func63 rfl rfl rfl rfl ?_
   exact Wz
 |true=>
  rw [hr,cond_true] at hq
  obtain⟨f,off,n,rfl,rfl,rfl,hf,hb⟩:=iW hr
  rw [decide_eq_true (by omega)] at k115
  rw [tE hb] at k125
  simp only [zD] at hq
  have k59:=bCR c h f off n hf hb
  have k124:=aZ3 c h f off n hf hb
  unfold aQ8 at hq
  unfold aRK at k59
  generalize fM c f off (fD c f off n) (cnt off (fD c f off n))=x at *
  obtain⟨w,t,m⟩:=x
  dsimp only at *
  cases m with
  |true=>
   have k124:=k124 rfl
   subst hq
   refine aJ (ob0:= []) [] Tryz.func63 rfl rfl rfl rfl ?_
   exact Wz
  |false=>
   subst hq
   refine aJ (ob0:= []) [] Tryz.func63 rfl rfl rfl rfl ?_
   exact Wz
theorem aXC {c:Dc} (h:Ok c) {f off n:Nat} (hf:f<c.fl.length)(hb:off+n≤128):Ok (aQ8 c f off n).1:=by
 unfold aQ8
 have hrd:fD c f off n≤n:=by unfold fD;omega
 cases(fM c f off (fD c f off n) (cnt off (fD c f off n))).2.2 with
 |true=>exact(pO h hf (by omega) _ (zC _)).1
 |false=>exact h
theorem aXD {c:Dc} (h:Ok c)(f off n:Int):Ok (aAC c f off n).1:=by
 unfold aAC
 cases hr:lR c f off n with
 |false=>exact h
 |true=>
  obtain⟨f,off,n,rfl,rfl,rfl,hf,hb⟩:=iW hr
  exact aXC h hf hb
def aQU(c:Dc)(f z:Nat):Dc×Int:=bif (cP c f (z:Int)).2==0 then
    (bif (fM c f z (fD c f z (128-z)) (cnt z (fD c f z (128-z)))).2.2 then((sP (cP c f (z:Int)).1 f z (fD (cP c f (z:Int)).1 f z (128-z)) (cnt z (fD (cP c f (z:Int)).1 f z (128-z)))).sz f z,0) else(c,7))
 else(c,(cP c f (z:Int)).2)
def rN(c:Dc)(f z:Int):Dc×Int:=bif lR c f z 0 then aQU c f.toNat z.toNat else(c,2)
theorem aY0 {c:Dc} (h:Ok c) {f z:Nat} (hf:f<c.fl.length)(hz:z≤128)(hm:(fM c f z (fD c f z (128-z)) (cnt z (fD c f z (128-z)))).2.2=true):
 (fM (cP c f (z:Int)).1 f z (fD (cP c f (z:Int)).1 f z (128-z)) (cnt z (fD (cP c f (z:Int)).1 f z (128-z)))).2.2=true:=by
 by_cases e:z≤(c.fl.getD f aR).size
 ·have :cP c f (z:Int)=(c,0):=by
   unfold cP mN
   rw [decide_eq_true (by omega)];rfl
  rw [this];exact hm
 ·have hs:((cP c f (z:Int)).1.fl.getD f aR).size=(c.fl.getD f aR).size:=by
   unfold cP
   split
   ·rfl
   ·split
    ·rfl
    ·cases(jE false _ _==0)
     ·rfl
     ·exact aK3 _ _ _ _
  have :fD (cP c f (z:Int)).1 f z (128-z)=0:=by unfold fD;rw [hs];omega
  rw [this];rfl
set_option maxHeartbeats 4000000 in
theorem bCM(c:Dc)(h:Ok c)(f z:Int):aN Tryz.prog 31 [] [.agg c.c,.int .i64 f,.int .i64 z] (.tup [.agg (rN c f z).1.c,.int .i64 (rN c f z).2]) []:=by
 have k115:=aSA c f
 generalize hq:rN c f z=q
 unfold rN at hq
 cases hr:lR c f z 0 with
 |false=>
  rw [hr,cond_false] at hq
  subst hq
  unfold lR at hr
  cases hd:decide (0≤f∧f< (c.fl.length:Int)) with
  |false=>
   rw [hd] at k115
   refine aJ (ob0:= []) [] Tryz.func31 rfl rfl rfl rfl ?_
   exact Wz
  |true=>
   rw [hd,cond_true] at hr
   rw [hd] at k115
   have :=of_decide_eq_false hr
   by_cases h0:z<0
   ·refine aJ (ob0:= []) [] Tryz.func31 rfl rfl rfl rfl ?_
    exact Wz
   ·have h1:128<z:=by omega
    refine aJ (ob0:= []) [] Tryz.func31 rfl rfl rfl rfl ?_
    exact Wz
 |true=>
  rw [hr,cond_true] at hq
  obtain⟨f,z,n,rfl,rfl,-,hf,hb⟩:=iW hr
  rw [decide_eq_true (by omega)] at k115
  simp only [zD] at hq
  have hz:z≤128:=by omega
  have k123:=aZ2 c h f (z:Int) hf
  obtain⟨o1,o2,o3,o4⟩:=sG h (z:Int) hf
  have k59:=bCR c h f z (128-z) hf (by omega)
  have hsc:=aY0 h hf hz
  have k124:=fun hm=>aZ3 (cP c f (z:Int)).1 o1 f z (128-z) (by rw [o2];exact hf) (by omega) hm
  have hrd:fD (cP c f (z:Int)).1 f z (128-z)≤128-z:=by unfold fD;omega
  have hw:=pO o1 (f:=f) (off:=z) (n:=fD (cP c f (z:Int)).1 f z (128-z)) (by rw [o2];exact hf) (by omega) _ (zC _)
  unfold aQU at hq
  unfold aRK at k59
  generalize fM c f z (fD c f z (128-z)) (cnt z (fD c f z (128-z)))=x at *
  generalize sP (cP c f (z:Int)).1 f z (fD (cP c f (z:Int)).1 f z (128-z)) (cnt z (fD (cP c f (z:Int)).1 f z (128-z)))=e at *
  generalize cP c f (z:Int)=y at *
  obtain⟨d,g⟩:=y
  obtain⟨w,t,m⟩:=x
  dsimp only at *
  by_cases g0:g=0
  ·subst g0
   rw [beq_self_eq_true,cond_true] at hq
   cases m with
   |true=>
    have k124:=k124 (hsc rfl)
    obtain⟨w1,w2,w3,w4⟩:=hw
    have hfe:f<e.fl.length:=by rw [w2,o2];exact hf
    have k85:=aJZ e w1.sm
    have hgf:=qB hfe
    have kf:=w1.file f hfe
    have hps:=bAG (n:=z) hfe kf.E
    obtain⟨k0,k1,k2,k3,hfc,-⟩:=Df.cells kf.E
    rw [hfc] at hgf hps
    subst hq
    unfold Dc.sz
    simp only [Dc.c,cond_true]
    rw [←hps]
    have hsm:=w1.sm
    have h1:=hsm.fl
    have h2:=hsm.fr
    have h3:=hsm.gr
    have h4:=hsm.ls
    have h5:=hsm.ck
    refine aJ (ob0:= []) [] Tryz.func31 rfl rfl rfl rfl ?_
    exact Wz
   |false=>
    subst hq
    refine aJ (ob0:= []) [] Tryz.func31 rfl rfl rfl rfl ?_
    exact Wz
  ·rw [beq_eq_false_iff_ne.2 g0,cond_false] at hq
   subst hq
   refine aJ (ob0:= []) [] Tryz.func31 rfl rfl rfl rfl ?_
   exact Wz
theorem aY3 {c:Dc} (h:Ok c) {f z:Nat} (hf:f<c.fl.length)(hz:z≤128):Ok (aQU c f z).1:=by
 obtain⟨o1,o2,o3,o4⟩:=sG h (z:Int) hf
 have hrd:fD (cP c f (z:Int)).1 f z (128-z)≤128-z:=by unfold fD;omega
 have hw:=pO o1 (f:=f) (off:=z) (n:=fD (cP c f (z:Int)).1 f z (128-z)) (by rw [o2];exact hf) (by omega) _ (zC _)
 unfold aQU
 cases((cP c f (z:Int)).2==0) with
 |false=>exact h
 |true=>
  rw [cond_true]
  cases(fM c f z (fD c f z (128-z)) (cnt z (fD c f z (128-z)))).2.2 with
  |false=>exact h
  |true=>exact hw.1.sz (by rw [hw.2.1,o2];exact hf) hz
theorem aY4 {c:Dc} (h:Ok c)(f z:Int):Ok (rN c f z).1:=by
 unfold rN
 cases hr:lR c f z 0 with
 |false=>exact h
 |true=>
  obtain⟨f,z,n,rfl,rfl,-,hf,hb⟩:=iW hr
  exact aY3 h hf (by omega)
end Go.Proofs.YtmhapcbjjpadnaaGreat
