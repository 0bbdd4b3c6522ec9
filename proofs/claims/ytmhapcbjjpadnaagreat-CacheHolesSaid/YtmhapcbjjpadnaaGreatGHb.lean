/- Caches. -/
import Derived.Test.YtmhapcbjjpadnaaGreatGGb
import Derived.Test.YtmhapcbjjpadnaaGreatK8b
set_option linter.all false
set_option maxHeartbeats 8000000
set_option maxRecDepth 40000
open Int renaming toNat_natCast→zD
open List renaming length_set→zA
open Nat renaming le_refl→zC
namespace Go.Proofs.YtmhapcbjjpadnaaGreat
open Go Go.Sk Go.RowKit
theorem aL4 {L:List Df} {f b:Nat} (h:f<L.length)(hE:bH (L.getD f aP).E):bA (L.set f (fbl (L.getD f aP) b))=(bA L).set f (aU 15 (L.getD f aP).c 7 [.int .i64 (b:Int)]):=by
 rw [bA,bA,List.map_set]
 obtain⟨k0,k1,k2,k3,e,e3⟩:=Df.cells hE
 congr 1
 unfold Df.c fbl
 dsimp only
 rw [e3]
 rfl
theorem aEI {x k:Nat} (hx:x<256)(hk:k<8):fH .andNot .i64 (x:Int) ((2^k:Nat):Int)=((uO x k:Nat):Int):=by
 have key:∀x:Fin 256,∀k:Fin 8,fH .andNot .i64 (x.val:Int) ((2^k.val:Nat):Int)=((uO x.val k.val:Nat):Int):=by decide +kernel
 exact key ⟨x,hx⟩ ⟨k,hk⟩
theorem bAU(c:Dc)(h:Ok c)(f off n:Nat)(hf:f<c.fl.length)(hb:off+n<=128)(hm:(cW c f off (bS c f off n) (cnt off (bS c f off n))).2.2=true):aM Tryz.prog 124 [] [.agg c.c,.int .i64 (f:Int),.int .i64 (off:Int),.int .i64 (n:Int)] (.agg (sS c f off (bS c f off n) (cnt off (bS c f off n))).c) []:=by
 have hgf:=iS hf
 have hs:=(h.file f hf).size
 obtain⟨k0,k1,k2,k3,hfc,-⟩:=Df.cells (h.file f hf).E
 rw [hfc] at hgf
 have hrd:max (min (n:Int) (((c.fl.getD f aP).size:Int)- (off:Int))) 0=((bS c f off n:Nat):Int):=by unfold bS;omega
 have hnl:bS c f off n<=n/\(bS c f off n=0\/off+bS c f off n<=(c.fl.getD f aP).size):=by unfold bS;omega
 have hr2:bS c f off (bS c f off n)=bS c f off n:=by unfold bS;omega
 have k59:=aZ1 c h f off (bS c f off n) hf (by omega)
 rw [hr2] at k59
 have k66:=aGO off (bS c f off n) (by omega)
 have hcn:=fK (off:=off) (n:=bS c f off n) (by omega)
 have hlt:=aCU c f off (bS c f off n) (cnt off (bS c f off n)) (by omega)
 have hbit:=aJR c f off (bS c f off n) (cnt off (bS c f off n))
 have hmay:=aDM hm
 generalize bS c f off n=n2 at *
 have hb2:off+n2<=128:=by omega
 unfold aHG at k59
 generalize hQ:cW c f off n2 (cnt off n2)=Q at *
 obtain⟨w,t,m⟩:=Q
 dsimp only at hlt hbit hm k59
 subst hm
 refine aK (ob0:= []) [] Tryz.func124 rfl rfl rfl rfl ?_
 refine Wx ?_
 refine Lp (λi:Nat=>i<=cnt off n2) (λi=> [(13,.int .i64 (i:Int))]) (λi=> [(0,.box (sS c f off n2 i).c)]) (λi=>cnt off n2-i) 0 (Nat.zero_le _) ?_ ?_
 ·exact Vr [_,_]
 intro i hi
 refine Wx ?_
 refine fP (λb=>?_) (λb=>?_)
 ·have b:i<cnt off n2:=by omega
  have hg:=tH (off/16) (cnt off n2) i b
  have k126:=aEK hb2 b
  have hpi:=eY b
  have h2p:2^(off/16+i)<2^8:=Nat.pow_lt_pow_right (by omega) (by omega)
  obtain⟨o1,o2,o3,o4⟩:=lK h hf hb2 i hi
  have hmi:=hmay i b
  have hst:sS c f off n2 (i+1)=aA8 (sS c f off n2 i) f off n2 (off/16+i):=rfl
  unfold aA8 at hst
  rw [aKJ o3] at hst
  obtain⟨b1,b2⟩:=hbit (off/16+i)
  rw [decide_eq_true (show off/16<=off/16+i/\off/16+i<off/16+cnt off n2 by omega),Bool.true_and] at b1 b2
  rw [<-aXG] at b1 b2
  have hp0:=o4 i (zC i)
  generalize sS c f off n2 i=d at *
  have hf1:f<d.fl.length:=by rw [o2];exact hf
  have hnr:=o1.nr
  cases hw:oZ c f off n2 (off/16+i) with
  |true=>
   rw [hw] at b1 b2 hst
   rw [cond_true] at hst
   cases hp:eA d f (off/16+i) with
   |some x=>
    obtain⟨j,u⟩:=x
    have k33:=o1.f33s hf1 hp
    obtain⟨q1,q2,q3,q4,q5⟩:=bM o1 hf1 hp
    rw [hp] at hst
    dsimp only at hst
    have k154:=bAX d j u 0 o1.sm (o1.good q1 q2) (o1.use j u q1 q2).ten o1.gr o1.smZ (o1.smL _) o1.pt o1.ptl
    have o5:Ok (d.gone j u 0):=o1.gone q1 q2 (Int.le_refl 0) (by omega)
    have hle:(d.gone j u 0).fl.length=d.fl.length:=zA ..
    generalize d.gone j u 0=e at *
    have hfe:f<e.fl.length:=by rw [hle];exact hf1
    have hge:=iS hfe
    have kf:=o5.file f hfe
    have hps:=aL4 (b:=uO (e.fl.getD f aP).blocks (off/16+i)) hfe kf.E
    have hob:=aEI kf.blocks (show off/16+i<8 by omega)
    obtain⟨e0,e1,e2,e3,hec,-⟩:=Df.cells kf.E
    rw [hec] at hge hps
    refine Wx ?_
    refine Le (i+1) (hv:=?_)
    simp only [hst,Dc.bl,Dc.c,hps]
    exact Vr [_,_]
   |none=>
    have k33:=o1.f33n hf1 hp
    rw [hp] at hst
    dsimp only at hst
    have k85:=aL1 d o1.sm
    have kd:=o1.file f hf1
    have hgd:=iS hf1
    have hE':bH (cI (d.fl.getD f aP).E (off/16+i) (0,0)):=kd.E.set (Nat.zero_lt_succ _) (λ_=>rfl)
    have k118:=aUH kd.E kd.sup (off/16+i) (by omega) 0
    have hpt:=nN d.fl f _ hf1 kd.E hE'
    rw [eJ d.fl f hf1] at hpt
    have hle:(d.e0 f (off/16+i)).fl.length=d.fl.length:=zA ..
    have hx:(d.e0 f (off/16+i)).fl.getD f aP=eP (d.fl.getD f aP) (cI (d.fl.getD f aP).E (off/16+i) (0,0)):=aJ _ _ _ _ hf1
    have hge:(bA (d.fl.set f (eP (d.fl.getD f aP) (cI (d.fl.getD f aP).E (off/16+i) (0,0))))).getD f []=((d.e0 f (off/16+i)).fl.getD f aP).c:=eJ _ f (by rw [zA];exact hf1)
    have hps:=aL4 (L:=(d.e0 f (off/16+i)).fl) (f:=f) (b:=uO (d.fl.getD f aP).blocks (off/16+i)) (by rw [hle];exact hf1) (by rw [hx];exact hE')
    have hq:bA (d.e0 f (off/16+i)).fl=bA (d.fl.set f (eP (d.fl.getD f aP) (cI (d.fl.getD f aP).E (off/16+i) (0,0)))):=rfl
    have hob:=aEI kd.blocks (show off/16+i<8 by omega)
    have hbs:=kd.blocks
    obtain⟨e0,e1,e2,e3,hec,hcan⟩:=Df.cells kd.E
    obtain⟨g0,g1,g2,g3,hgd2,hgc⟩:=Df.cells (f:=eP (d.fl.getD f aP) (cI (d.fl.getD f aP).E (off/16+i) (0,0))) hE'
    have hgc:can (cI (d.fl.getD f aP).E (off/16+i) (0,0))=[.int .i64 (hgt (cI (d.fl.getD f aP).E (off/16+i) (0,0)):Int),.lst g0 g1 g2,.int .i64 g3,.int .i64 (lI (cI (d.fl.getD f aP).E (off/16+i) (0,0)) 0 (4^hgt (cI (d.fl.getD f aP).E (off/16+i) (0,0))):Nat)]:=hgc
    rw [hec] at hgd hpt
    rw [hcan,hgc] at k118
    rw [hgc] at hpt
    rw [<-hpt,hx,hgd2] at hge
    rw [hq,<-hpt,hx,hgd2] at hps
    have hst:sS c f off n2 (i+1)=⟨(d.e0 f (off/16+i)).fl.set f (fbl (eP (d.fl.getD f aP) (cI (d.fl.getD f aP).E (off/16+i) (0,0))) (uO (d.fl.getD f aP).blocks (off/16+i))),d.fr,d.zo,d.gr,d.ls,d.ck,d.pt⟩:=by
     rw [hst]
     unfold Dc.bl
     rw [hx];rfl
    have hsm:=o1.sm
    have g1:=hsm.fl
    have g2:=hsm.fr
    have g3:=hsm.gr
    have g4:=hsm.ls
    have g5:=hsm.ck
    refine Wx ?_
    refine Le (i+1) (hv:=?_)
    simp only [hst,Dc.c,hps]
    exact Vr [_,_]
  |false=>
   rw [hw] at b1 b2 hst
   rw [cond_false] at hst
   obtain⟨j,u,hp,hz⟩:=aKQ hmi hw
   rw [<-hp0] at hp
   have k33:=o1.f33s hf1 hp
   obtain⟨q1,q2,q3,q4,q5⟩:=bM o1 hf1 hp
   have hu:=o1.use j u q1 q2
   have hgu:=jB q1 q2
   rw [hp] at hst
   dsimp only at hst
   have hzs:=aJ3 (aO (off/16+i) off n2).2
   unfold fT at hz
   have k220:=bBH u.p hu.pg (aO (off/16+i) off n2).1 (zB (aO (off/16+i) off n2).2) (by rw [hzs];exact hpi.1) (by rw [hzs];exact hz)
   have hwp:=lP hu.pg (off:=(aO (off/16+i) off n2).1) (s:=zB (aO (off/16+i) off n2).2) (by rw [hzs];exact hpi.1)
   have k155:=o1.p155 (u':=dQ u (dP u.p (aO (off/16+i) off n2).1 (zB (aO (off/16+i) off n2).2))) q1 q2 rfl hwp hu.rd hu.wr
   refine Wx ?_
   rw [mkT (by omega) (by omega)]
   refine Wx ?_
   refine Le (i+1) (hv:=?_)
   simp only [hst]
   exact Vr [_,_]
 obtain rfl:i=cnt off n2:=by omega
 exact Wz
end Go.Proofs.YtmhapcbjjpadnaaGreat
namespace Go.Proofs.YtmhapcbjjpadnaaGreat
open Go Go.Sk Go.RowKit
theorem aHR(c:Dc)(f:Int):aM Tryz.prog 115 [] [.agg c.c,.int .i64 f] (.bool (decide (0<=f/\f< (c.fl.length:Int)))) []:=by
 by_cases e:0<=f/\f< (c.fl.length:Int)
 ·rw [decide_eq_true e]
  have :=aBY c f.toNat (by omega)
  rwa [show((f.toNat:Nat):Int)=f by omega] at this
 ·rw [decide_eq_false e];exact bE0 c f e
def eX(c:Dc)(f off n:Int):Bool:=bif decide (0<=f/\f< (c.fl.length:Int)) then gE off n else false
theorem dU {c:Dc} {f off n:Int} (h:eX c f off n=true):∃a b k:Nat,f=a/\off=b/\n=k/\a<c.fl.length/\b+k<=128:=by
 unfold eX at h
 by_cases e:0<=f/\f< (c.fl.length:Int)
 ·rw [decide_eq_true e,cond_true] at h
  obtain⟨b,k,rfl,rfl,h2⟩:=aHD h
  exact⟨f.toNat,b,k,by omega,rfl,rfl,by omega,h2⟩
 ·rw [decide_eq_false e] at h;cases h
theorem bLU {c:Dc} {f off n:Nat} (hf:f<c.fl.length)(hb:off+n<=128):eX c (f:Int) (off:Int) (n:Int)=true:=by
 unfold eX
 rw [decide_eq_true (by omega),cond_true,iN hb]
def aNN(c:Dc)(f off n:Nat):Dc×Int:=bif (cW c f off (bS c f off n) (cnt off (bS c f off n))).2.2 then(sS c f off (bS c f off n) (cnt off (bS c f off n)),0) else(c,7)
def vZ(c:Dc)(f off n:Int):Dc×Int:=bif eX c f off n then aNN c f.toNat off.toNat n.toNat else(c,2)
theorem bJT(c:Dc)(h:Ok c)(f off n:Int):aM Tryz.prog 63 [] [.agg c.c,.int .i64 f,.int .i64 off,.int .i64 n] (.tup [.agg (vZ c f off n).1.c,.int .i64 (vZ c f off n).2]) []:=by
 have k115:=aHR c f
 have k125:=pJ off n
 generalize hq:vZ c f off n=q
 unfold vZ at hq
 cases hr:eX c f off n with
 |false=>
  rw [hr,cond_false] at hq
  subst hq
  unfold eX at hr
  cases hd:decide (0<=f/\f< (c.fl.length:Int)) with
  |false=>
   rw [hd] at k115
   refine aK (ob0:= []) [] Tryz.func63 rfl rfl rfl rfl ?_
   exact Wz
  |true=>
   rw [hd,cond_true] at hr
   rw [hd] at k115
   rw [hr] at k125
   refine aK (ob0:= []) [] Tryz.func63 rfl rfl rfl rfl ?_
   exact Wz
 |true=>
  rw [hr,cond_true] at hq
  obtain⟨f,off,n,rfl,rfl,rfl,hf,hb⟩:=dU hr
  rw [decide_eq_true (by omega)] at k115
  rw [iN hb] at k125
  simp only [zD] at hq
  have k59:=aZ1 c h f off n hf hb
  have k124:=bAU c h f off n hf hb
  unfold aNN at hq
  unfold aHG at k59
  generalize cW c f off (bS c f off n) (cnt off (bS c f off n))=x at *
  obtain⟨w,t,m⟩:=x
  dsimp only at *
  cases m with
  |true=>
   have k124:=k124 rfl
   subst hq
   refine aK (ob0:= []) [] Tryz.func63 rfl rfl rfl rfl ?_
   exact Wz
  |false=>
   subst hq
   refine aK (ob0:= []) [] Tryz.func63 rfl rfl rfl rfl ?_
   exact Wz
theorem aZA {c:Dc} (h:Ok c) {f off n:Nat} (hf:f<c.fl.length)(hb:off+n<=128):Ok (aNN c f off n).1:=by
 unfold aNN
 have hrd:bS c f off n<=n:=by unfold bS;omega
 cases(cW c f off (bS c f off n) (cnt off (bS c f off n))).2.2 with
 |true=>exact(lK h hf (by omega) _ (zC _)).1
 |false=>exact h
theorem aPJ {c:Dc} (h:Ok c)(f off n:Int):Ok (vZ c f off n).1:=by
 unfold vZ
 cases hr:eX c f off n with
 |false=>exact h
 |true=>
  obtain⟨f,off,n,rfl,rfl,rfl,hf,hb⟩:=dU hr
  exact aZA h hf hb
def aO2(c:Dc)(f z:Nat):Dc×Int:=bif (cB c f (z:Int)).2==0 then
    (bif (cW c f z (bS c f z (128-z)) (cnt z (bS c f z (128-z)))).2.2 then((sS (cB c f (z:Int)).1 f z (bS (cB c f (z:Int)).1 f z (128-z)) (cnt z (bS (cB c f (z:Int)).1 f z (128-z)))).sz f z,0) else(c,7))
 else(c,(cB c f (z:Int)).2)
def rG(c:Dc)(f z:Int):Dc×Int:=bif eX c f z 0 then aO2 c f.toNat z.toNat else(c,2)
theorem aZY {c:Dc} (h:Ok c) {f z:Nat} (hf:f<c.fl.length)(hz:z<=128)(hm:(cW c f z (bS c f z (128-z)) (cnt z (bS c f z (128-z)))).2.2=true):
 (cW (cB c f (z:Int)).1 f z (bS (cB c f (z:Int)).1 f z (128-z)) (cnt z (bS (cB c f (z:Int)).1 f z (128-z)))).2.2=true:=by
 by_cases e:z<=(c.fl.getD f aP).size
 ·have :cB c f (z:Int)=(c,0):=by
   unfold cB eZ
   rw [decide_eq_true (by omega)];rfl
  rw [this];exact hm
 ·have hs:((cB c f (z:Int)).1.fl.getD f aP).size=(c.fl.getD f aP).size:=by
   unfold cB
   split
   ·rfl
   ·split
    ·rfl
    ·cases(jC false _ _==0)
     ·rfl
     ·exact aEW _ _ _ _
  have :bS (cB c f (z:Int)).1 f z (128-z)=0:=by unfold bS;rw [hs];omega
  rw [this];rfl
theorem aZ0(c:Dc)(h:Ok c)(f z:Int):aM Tryz.prog 31 [] [.agg c.c,.int .i64 f,.int .i64 z] (.tup [.agg (rG c f z).1.c,.int .i64 (rG c f z).2]) []:=by
 have k115:=aHR c f
 generalize hq:rG c f z=q
 unfold rG at hq
 cases hr:eX c f z 0 with
 |false=>
  rw [hr,cond_false] at hq
  subst hq
  unfold eX at hr
  cases hd:decide (0<=f/\f< (c.fl.length:Int)) with
  |false=>
   rw [hd] at k115
   refine aK (ob0:= []) [] Tryz.func31 rfl rfl rfl rfl ?_
   exact Wz
  |true=>
   rw [hd,cond_true] at hr
   rw [hd] at k115
   have :=of_decide_eq_false hr
   by_cases h0:z<0
   ·refine aK (ob0:= []) [] Tryz.func31 rfl rfl rfl rfl ?_
    exact Wz
   ·have h1:128<z:=by omega
    refine aK (ob0:= []) [] Tryz.func31 rfl rfl rfl rfl ?_
    exact Wz
 |true=>
  rw [hr,cond_true] at hq
  obtain⟨f,z,n,rfl,rfl,-,hf,hb⟩:=dU hr
  rw [decide_eq_true (by omega)] at k115
  simp only [zD] at hq
  have hz:z<=128:=by omega
  have k123:=bAT c h f (z:Int) hf
  obtain⟨o1,o2,o3,o4⟩:=qU h (z:Int) hf
  have k59:=aZ1 c h f z (128-z) hf (by omega)
  have hsc:=aZY h hf hz
  have k124:=λhm=>bAU (cB c f (z:Int)).1 o1 f z (128-z) (by rw [o2];exact hf) (by omega) hm
  have hrd:bS (cB c f (z:Int)).1 f z (128-z)<=128-z:=by unfold bS;omega
  have hw:=lK o1 (f:=f) (off:=z) (n:=bS (cB c f (z:Int)).1 f z (128-z)) (by rw [o2];exact hf) (by omega) _ (zC _)
  unfold aO2 at hq
  unfold aHG at k59
  generalize cW c f z (bS c f z (128-z)) (cnt z (bS c f z (128-z)))=x at *
  generalize sS (cB c f (z:Int)).1 f z (bS (cB c f (z:Int)).1 f z (128-z)) (cnt z (bS (cB c f (z:Int)).1 f z (128-z)))=e at *
  generalize cB c f (z:Int)=y at *
  obtain⟨d,g⟩:=y
  obtain⟨w,t,m⟩:=x
  dsimp only at *
  by_cases g0:g=0
  ·subst g0
   rw [beq_self_eq_true,cond_true] at hq
   cases m with
   |true=>
    have k124:=k124 (hsc rfl)
    obtain⟨w1,w2,w3,w4⟩:=hw
    have hfe:f<e.fl.length:=by rw [w2,o2];exact hf
    have k85:=aL1 e w1.sm
    have hgf:=iS hfe
    have kf:=w1.file f hfe
    have hps:=aPL (n:=z) hfe kf.E
    obtain⟨k0,k1,k2,k3,hfc,-⟩:=Df.cells kf.E
    rw [hfc] at hgf hps
    subst hq
    unfold Dc.sz
    simp only [Dc.c,cond_true]
    rw [<-hps]
    have hsm:=w1.sm
    have h1:=hsm.fl
    have h2:=hsm.fr
    have h3:=hsm.gr
    have h4:=hsm.ls
    have h5:=hsm.ck
    refine aK (ob0:= []) [] Tryz.func31 rfl rfl rfl rfl ?_
    exact Wz
   |false=>
    subst hq
    refine aK (ob0:= []) [] Tryz.func31 rfl rfl rfl rfl ?_
    exact Wz
  ·rw [beq_eq_false_iff_ne.2 g0,cond_false] at hq
   subst hq
   refine aK (ob0:= []) [] Tryz.func31 rfl rfl rfl rfl ?_
   exact Wz
theorem bA1 {c:Dc} (h:Ok c) {f z:Nat} (hf:f<c.fl.length)(hz:z<=128):Ok (aO2 c f z).1:=by
 obtain⟨o1,o2,o3,o4⟩:=qU h (z:Int) hf
 have hrd:bS (cB c f (z:Int)).1 f z (128-z)<=128-z:=by unfold bS;omega
 have hw:=lK o1 (f:=f) (off:=z) (n:=bS (cB c f (z:Int)).1 f z (128-z)) (by rw [o2];exact hf) (by omega) _ (zC _)
 unfold aO2
 cases((cB c f (z:Int)).2==0) with
 |false=>exact h
 |true=>
  rw [cond_true]
  cases(cW c f z (bS c f z (128-z)) (cnt z (bS c f z (128-z)))).2.2 with
  |false=>exact h
  |true=>exact hw.1.sz (by rw [hw.2.1,o2];exact hf) hz
theorem aQE {c:Dc} (h:Ok c)(f z:Int):Ok (rG c f z).1:=by
 unfold rG
 cases hr:eX c f z 0 with
 |false=>exact h
 |true=>
  obtain⟨f,z,n,rfl,rfl,-,hf,hb⟩:=dU hr
  exact bA1 h hf (by omega)
end Go.Proofs.YtmhapcbjjpadnaaGreat
