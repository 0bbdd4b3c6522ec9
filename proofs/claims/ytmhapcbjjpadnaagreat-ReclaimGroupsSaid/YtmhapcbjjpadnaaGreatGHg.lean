/- Caches. -/
import Derived.Test.YtmhapcbjjpadnaaGreatGXg
import Derived.Test.YtmhapcbjjpadnaaGreatK8g
set_option linter.all false
set_option maxHeartbeats 8000000
set_option maxRecDepth 40000
open Int renaming toNat_natCast→zD
open List renaming length_set→zA
open Nat renaming le_refl→zC
namespace Go.Proofs.YtmhapcbjjpadnaaGreat
open Go Go.Sk Go.RowKit
theorem aZY {L:List Df} {f b:Nat} (h:f<L.length)(m:bG (L.getD f aX).E):bF (L.set f (fbl (L.getD f aX) b))=(bF L).set f (aS 15 (L.getD f aX).c 7 [.int .i64 (b:Int)]):=by
 rw [bF,bF,List.map_set];obtain⟨k0,k1,k2,k3,e,j⟩:=Df.cells m
 congr 1
 unfold Df.c fbl;dsimp only;rw [j];rfl
theorem aNY {x k:Nat} (j:x<256)(f:k<8):fX .andNot .i64 (x:Int) ((2^k:Nat):Int)=((aNX x k:Nat):Int):=by
 have e:∀x:Fin 256,∀k:Fin 8,fX .andNot .i64 (x.val:Int) ((2^k.val:Nat):Int)=((aNX x.val k.val:Nat):Int):=by decide +kernel
 exact e ⟨x,j⟩ ⟨k,f⟩
theorem bG5(c:Dc)(h:Ok c)(f off n:Nat)(hf:f<c.fl.length)(hb:off+n<=128)(hm:(gP c f off (gT c f off n) (cnt off (gT c f off n))).2.2=true):aM Tryz.prog 124 [] [.agg c.c,.int .i64 (f:Int),.int .i64 (off:Int),.int .i64 (n:Int)] (.agg (vT c f off (gT c f off n) (cnt off (gT c f off n))).c) []:=by
 have aj:=vS hf;have hs:=(h.file f hf).size;obtain⟨k0,k1,k2,k3,ah,-⟩:=Df.cells (h.file f hf).E;rw [ah] at aj;have a3:max (min (n:Int) (((c.fl.getD f aX).size:Int)- (off:Int))) 0=((gT c f off n:Nat):Int):=by unfold gT;omega
 have a1:gT c f off n<=n/\(gT c f off n=0\/off+gT c f off n<=(c.fl.getD f aX).size):=by unfold gT;omega
 have ap:gT c f off (gT c f off n)=gT c f off n:=by unfold gT;omega
 have aa:=bJW c h f off (gT c f off n) hf (by omega);rw [ap] at aa;have a4:=aSV off (gT c f off n) (by omega);have az:=rI (off:=off) (n:=gT c f off n) (by omega);have ak:=aKG c f off (gT c f off n) (cnt off (gT c f off n)) (by omega);have M:=aMQ c f off (gT c f off n) (cnt off (gT c f off n));have ad:=aMR hm;generalize gT c f off n=C at *;have ab:off+C<=128:=by omega
 unfold aX1 at aa;generalize hQ:gP c f off C (cnt off C)=Q at *;obtain⟨w,t,m⟩:=Q;dsimp only at ak M hm aa;subst hm;refine aG (ob0:= []) [] Tryz.func124 rfl rfl rfl rfl ?_;refine Wx ?_;refine Lp (λi:Nat=>i<=cnt off C) (λi=> [(13,.int .i64 (i:Int))]) (λi=> [(0,.box (vT c f off C i).c)]) (λi=>cnt off C-i) 0 (Nat.zero_le _) ?_ ?_
 ·exact Vr [_,_]
 intro i hi;refine Wx ?_;refine iF (λb=>?_) (λb=>?_)
 ·have b:i<cnt off C:=by omega
  have hg:=aF6 (off/16) (cnt off C) i b;have ar:=aL5 ab b;have ae:=sC b;have ax:2^(off/16+i)<2^8:=Nat.pow_lt_pow_right (by omega) (by omega);obtain⟨D,o2,o3,o4⟩:=sJ h hf ab i hi;have al:=ad i b;have z:vT c f off C (i+1)=aEQ (vT c f off C i) f off C (off/16+i):=rfl;unfold aEQ at z;rw [aYC o3] at z;obtain⟨b1,b2⟩:=M (off/16+i);rw [zdt (show off/16<=off/16+i/\off/16+i<off/16+cnt off C by omega),Bool.true_and] at b1 b2;rw [<-bBV] at b1 b2;have ao:=o4 i (zC i)
  generalize vT c f off C i=d at *;have B:f<d.fl.length:=by rw [o2];exact hf
  have a2:=D.nr
  cases hw:isW c f off C (off/16+i) with
  |true=>
   rw [hw] at b1 b2 z;rw [zct] at z
   cases J:jH d f (off/16+i) with
   |some x=>
    obtain⟨j,u⟩:=x;have ag:=D.f33s B J;obtain⟨q1,q2,q3,q4,q5⟩:=cY D B J;rw [J] at z;dsimp only at z;have au:=bG8 d j u 0 D.sm (D.good q1 q2) (D.use j u q1 q2).ten D.gr D.smZ (D.smL _) D.pt D.ptl;have o5:Ok (d.gone j u 0):=D.gone q1 q2 (Int.le_refl 0) (by omega);have Y:(d.gone j u 0).fl.length=d.fl.length:=zA ..;generalize d.gone j u 0=e at *;have T:f<e.fl.length:=by rw [Y];exact B
    have W:=vS T;have kf:=o5.file f T;have F:=aZY (b:=aNX (e.fl.getD f aX).blocks (off/16+i)) T kf.E;have am:=aNY kf.blocks (show off/16+i<8 by omega);obtain⟨e0,e1,e2,e3,R,-⟩:=Df.cells kf.E;rw [R] at W F;refine Wx ?_;refine Le (i+1) (hv:=?_);simp only [z,Dc.bl,Dc.c,F];exact Vr [_,_]
   |none=>
    have ag:=D.f33n B J;rw [J] at z;dsimp only at z;have a5:=aO4 d D.sm;have kd:=D.file f B;have ai:=vS B;have O:bG (dZ (d.fl.getD f aX).E (off/16+i) (0,0)):=kd.E.set (Nat.zero_lt_succ _) (λ_=>rfl);have af:=aYZ kd.E kd.sup (off/16+i) (by omega) 0;have G:=aBI d.fl f _ B kd.E O;rw [gX d.fl f B] at G;have Y:(d.e0 f (off/16+i)).fl.length=d.fl.length:=zA ..
    have hx:(d.e0 f (off/16+i)).fl.getD f aX=hY (d.fl.getD f aX) (dZ (d.fl.getD f aX).E (off/16+i) (0,0)):=aE _ _ _ _ B;have W:(bF (d.fl.set f (hY (d.fl.getD f aX) (dZ (d.fl.getD f aX).E (off/16+i) (0,0))))).getD f []=((d.e0 f (off/16+i)).fl.getD f aX).c:=gX _ f (by rw [zA];exact B);have F:=aZY (L:=(d.e0 f (off/16+i)).fl) (f:=f) (b:=aNX (d.fl.getD f aX).blocks (off/16+i)) (by rw [Y];exact B) (by rw [hx];exact O)
    have hq:bF (d.e0 f (off/16+i)).fl=bF (d.fl.set f (hY (d.fl.getD f aX) (dZ (d.fl.getD f aX).E (off/16+i) (0,0)))):=rfl;have am:=aNY kd.blocks (show off/16+i<8 by omega);have ay:=kd.blocks;obtain⟨e0,e1,e2,e3,R,ac⟩:=Df.cells kd.E;obtain⟨g0,g1,g2,g3,N,K⟩:=Df.cells (f:=hY (d.fl.getD f aX) (dZ (d.fl.getD f aX).E (off/16+i) (0,0))) O
    have K:can (dZ (d.fl.getD f aX).E (off/16+i) (0,0))=[.int .i64 (hgt (dZ (d.fl.getD f aX).E (off/16+i) (0,0)):Int),.lst g0 g1 g2,.int .i64 g3,.int .i64 (oG (dZ (d.fl.getD f aX).E (off/16+i) (0,0)) 0 (4^hgt (dZ (d.fl.getD f aX).E (off/16+i) (0,0))):Nat)]:=K;rw [R] at ai G;rw [ac,K] at af;rw [K] at G;rw [<-G,hx,N] at W;rw [hq,<-G,hx,N] at F
    have z:vT c f off C (i+1)=⟨(d.e0 f (off/16+i)).fl.set f (fbl (hY (d.fl.getD f aX) (dZ (d.fl.getD f aX).E (off/16+i) (0,0))) (aNX (d.fl.getD f aX).blocks (off/16+i))),d.fr,d.zo,d.gr,d.ls,d.ck,d.pt⟩:=by rw [z];unfold Dc.bl;rw [hx];rfl
    have H:=D.sm;have g1:=H.fl;have g2:=H.fr;have g3:=H.gr;have g4:=H.ls;have g5:=H.ck;refine Wx ?_;refine Le (i+1) (hv:=?_);simp only [z,Dc.c,F];exact Vr [_,_]
  |false=>
   rw [hw] at b1 b2 z;rw [zcf] at z;obtain⟨j,u,J,hz⟩:=aYI al hw;rw [<-ao] at J;have ag:=D.f33s B J;obtain⟨q1,q2,q3,q4,q5⟩:=cY D B J;have hu:=D.use j u q1 q2;have a0:=qW q1 q2;rw [J] at z;dsimp only at z;have Z:=aU1 (cH (off/16+i) off C).2;unfold kX at hz;have aw:=bGL u.p hu.pg (cH (off/16+i) off C).1 (zB (cH (off/16+i) off C).2) (by rw [Z];exact ae.1) (by rw [Z];exact hz)
   have aq:=vJ hu.pg (off:=(cH (off/16+i) off C).1) (s:=zB (cH (off/16+i) off C).2) (by rw [Z];exact ae.1);have av:=D.p155 (u':=sS u (uM u.p (cH (off/16+i) off C).1 (zB (cH (off/16+i) off C).2))) q1 q2 rfl aq hu.rd hu.wr;refine Wx ?_;rw [mkT (by omega) (by omega)];refine Wx ?_;refine Le (i+1) (hv:=?_);simp only [z];exact Vr [_,_]
 obtain rfl:i=cnt off C:=by omega
 exact Wz
def qD(c:Dc)(f off n:Int):Bool:=bif decide (0<=f/\f< (c.fl.length:Int)) then nF off n else false
theorem kU {c:Dc} {f off n:Int} (h:qD c f off n=true):∃a b k:Nat,f=a/\off=b/\n=k/\a<c.fl.length/\b+k<=128:=by
 unfold qD at h
 by_cases e:0<=f/\f< (c.fl.length:Int)
 ·rw [zdt e,zct] at h;obtain⟨b,k,rfl,rfl,h2⟩:=aPM h;exact⟨f.toNat,b,k,by omega,rfl,rfl,by omega,h2⟩
 ·rw [zdf e] at h;cases h
def aVF(c:Dc)(f off n:Nat):Dc×Int:=bif (gP c f off (gT c f off n) (cnt off (gT c f off n))).2.2 then(vT c f off (gT c f off n) (cnt off (gT c f off n)),0) else(c,7)
def aD0(c:Dc)(f off n:Int):Dc×Int:=bif qD c f off n then aVF c f.toNat off.toNat n.toNat else(c,2)
theorem bRW(c:Dc)(h:Ok c)(f off n:Int):aM Tryz.prog 63 [] [.agg c.c,.int .i64 f,.int .i64 off,.int .i64 n] (.tup [.agg (aD0 c f off n).1.c,.int .i64 (aD0 c f off n).2]) []:=by
 have e:=aXZ c f;have B:=aBA off n;generalize j:aD0 c f off n=q;unfold aD0 at j
 cases C:qD c f off n with
 |false=>
  rw [C,zcf] at j;subst j;unfold qD at C
  cases E:decide (0<=f/\f< (c.fl.length:Int)) with
  |false=> rw [E] at e;refine aG (ob0:= []) [] Tryz.func63 rfl rfl rfl rfl ?_;exact Wz
  |true=> rw [E,zct] at C;rw [E] at e;rw [C] at B;refine aG (ob0:= []) [] Tryz.func63 rfl rfl rfl rfl ?_;exact Wz
 |true=>
  rw [C,zct] at j;obtain⟨f,off,n,rfl,rfl,rfl,G,D⟩:=kU C;rw [zdt (by omega)] at e;rw [aC3 D] at B;simp only [zD] at j;have F:=bJW c h f off n G D;have z:=bG5 c h f off n G D;unfold aVF at j;unfold aX1 at F;generalize gP c f off (gT c f off n) (cnt off (gT c f off n))=x at *;obtain⟨w,t,m⟩:=x;dsimp only at *
  cases m with
  |true=> have z:=z rfl;subst j;refine aG (ob0:= []) [] Tryz.func63 rfl rfl rfl rfl ?_;exact Wz
  |false=> subst j;refine aG (ob0:= []) [] Tryz.func63 rfl rfl rfl rfl ?_;exact Wz
theorem bDR {c:Dc} (h:Ok c) {f off n:Nat} (e:f<c.fl.length)(m:off+n<=128):Ok (aVF c f off n).1:=by
 unfold aVF;have j:gT c f off n<=n:=by unfold gT;omega
 cases(gP c f off (gT c f off n) (cnt off (gT c f off n))).2.2 with
 |true=>exact(sJ h e (by omega) _ (zC _)).1
 |false=>exact h
theorem bDS {c:Dc} (h:Ok c)(f off n:Int):Ok (aD0 c f off n).1:=by
 unfold aD0
 cases m:qD c f off n with
 |false=>exact h
 |true=> obtain⟨f,off,n,rfl,rfl,rfl,j,e⟩:=kU m;exact bDR h j e
def aW5(c:Dc)(f z:Nat):Dc×Int:=bif (dG c f (z:Int)).2==0 then
    (bif (gP c f z (gT c f z (128-z)) (cnt z (gT c f z (128-z)))).2.2 then((vT (dG c f (z:Int)).1 f z (gT (dG c f (z:Int)).1 f z (128-z)) (cnt z (gT (dG c f (z:Int)).1 f z (128-z)))).sz f z,0) else(c,7))
 else(c,(dG c f (z:Int)).2)
def uJ(c:Dc)(f z:Int):Dc×Int:=bif qD c f z 0 then aW5 c f.toNat z.toNat else(c,2)
theorem bEG {c:Dc} (h:Ok c) {f z:Nat} (m:f<c.fl.length)(B:z<=128)(hm:(gP c f z (gT c f z (128-z)) (cnt z (gT c f z (128-z)))).2.2=true):
 (gP (dG c f (z:Int)).1 f z (gT (dG c f (z:Int)).1 f z (128-z)) (cnt z (gT (dG c f (z:Int)).1 f z (128-z)))).2.2=true:=by
 by_cases e:z<=(c.fl.getD f aX).size
 ·have :dG c f (z:Int)=(c,0):=by unfold dG oX;rw [zdt (by omega)];rfl
  rw [this];exact hm
 ·have j:((dG c f (z:Int)).1.fl.getD f aX).size=(c.fl.getD f aX).size:=by
   unfold dG;split
   ·rfl
   ·split
    ·rfl
    ·cases(mK false _ _==0)
     ·rfl
     ·exact aOC _ _ _ _
  have :gT (dG c f (z:Int)).1 f z (128-z)=0:=by unfold gT;rw [j];omega
  rw [this];rfl
theorem bJS(c:Dc)(h:Ok c)(f z:Int):aM Tryz.prog 31 [] [.agg c.c,.int .i64 f,.int .i64 z] (.tup [.agg (uJ c f z).1.c,.int .i64 (uJ c f z).2]) []:=by
 have C:=aXZ c f;generalize j:uJ c f z=q;unfold uJ at j
 cases H:qD c f z 0 with
 |false=>
  rw [H,zcf] at j;subst j;unfold qD at H
  cases K:decide (0<=f/\f< (c.fl.length:Int)) with
  |false=> rw [K] at C;refine aG (ob0:= []) [] Tryz.func31 rfl rfl rfl rfl ?_;exact Wz
  |true=>
   rw [K,zct] at H;rw [K] at C;have :=of_decide_eq_false H
   by_cases h0:z<0
   ·refine aG (ob0:= []) [] Tryz.func31 rfl rfl rfl rfl ?_;exact Wz
   ·have h1:128<z:=by omega
    refine aG (ob0:= []) [] Tryz.func31 rfl rfl rfl rfl ?_;exact Wz
 |true=>
  rw [H,zct] at j;obtain⟨f,z,n,rfl,rfl,-,F,hb⟩:=kU H;rw [zdt (by omega)] at C;simp only [zD] at j;have hz:z<=128:=by omega
  have W:=bG4 c h f (z:Int) F;obtain⟨Z,R,o3,o4⟩:=vG h (z:Int) F;have Q:=bJW c h f z (128-z) F (by omega);have O:=bEG h F hz;have D:=λhm=>bG5 (dG c f (z:Int)).1 Z f z (128-z) (by rw [R];exact F) (by omega) hm;have aa:gT (dG c f (z:Int)).1 f z (128-z)<=128-z:=by unfold gT;omega
  have hw:=sJ Z (f:=f) (off:=z) (n:=gT (dG c f (z:Int)).1 f z (128-z)) (by rw [R];exact F) (by omega) _ (zC _);unfold aW5 at j;unfold aX1 at Q;generalize gP c f z (gT c f z (128-z)) (cnt z (gT c f z (128-z)))=x at *;generalize vT (dG c f (z:Int)).1 f z (gT (dG c f (z:Int)).1 f z (128-z)) (cnt z (gT (dG c f (z:Int)).1 f z (128-z)))=e at *;generalize dG c f (z:Int)=y at *;obtain⟨d,g⟩:=y;obtain⟨w,t,m⟩:=x;dsimp only at *
  by_cases g0:g=0
  ·subst g0;rw [beq_self_eq_true,zct] at j
   cases m with
   |true=>
    have D:=D (O rfl);obtain⟨T,w2,w3,w4⟩:=hw;have G:f<e.fl.length:=by rw [w2,R];exact F
    have ab:=aO4 e T.sm;have N:=vS G;have Y:=T.file f G;have J:=bH9 (n:=z) G Y.E;obtain⟨k0,k1,k2,k3,M,-⟩:=Df.cells Y.E;rw [M] at N J;subst j;unfold Dc.sz;simp only [Dc.c,zct];rw [<-J];have B:=T.sm;have h1:=B.fl;have h2:=B.fr;have h3:=B.gr;have h4:=B.ls;have h5:=B.ck;refine aG (ob0:= []) [] Tryz.func31 rfl rfl rfl rfl ?_;exact Wz
   |false=> subst j;refine aG (ob0:= []) [] Tryz.func31 rfl rfl rfl rfl ?_;exact Wz
  ·rw [zbn.2 g0,zcf] at j;subst j;refine aG (ob0:= []) [] Tryz.func31 rfl rfl rfl rfl ?_;exact Wz
theorem bEI {c:Dc} (h:Ok c) {f z:Nat} (e:f<c.fl.length)(C:z<=128):Ok (aW5 c f z).1:=by
 obtain⟨D,m,E,F⟩:=vG h (z:Int) e;have B:gT (dG c f (z:Int)).1 f z (128-z)<=128-z:=by unfold gT;omega
 have j:=sJ D (f:=f) (off:=z) (n:=gT (dG c f (z:Int)).1 f z (128-z)) (by rw [m];exact e) (by omega) _ (zC _);unfold aW5
 cases((dG c f (z:Int)).2==0) with
 |false=>exact h
 |true=>
  rw [zct]
  cases(gP c f z (gT c f z (128-z)) (cnt z (gT c f z (128-z)))).2.2 with
  |false=>exact h
  |true=>exact j.1.sz (by rw [j.2.1,m];exact e) C
theorem bEJ {c:Dc} (h:Ok c)(f z:Int):Ok (uJ c f z).1:=by
 unfold uJ
 cases j:qD c f z 0 with
 |false=>exact h
 |true=> obtain⟨f,z,n,rfl,rfl,-,e,m⟩:=kU j;exact bEI h e (by omega)
end Go.Proofs.YtmhapcbjjpadnaaGreat
