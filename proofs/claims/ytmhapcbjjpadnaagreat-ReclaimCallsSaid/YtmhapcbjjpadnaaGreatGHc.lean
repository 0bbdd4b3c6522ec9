/- Caches. -/
import Derived.Test.YtmhapcbjjpadnaaGreatGXc
import Derived.Test.YtmhapcbjjpadnaaGreatK8c
set_option linter.all false
set_option maxHeartbeats 8000000
set_option maxRecDepth 40000
open Int renaming toNat_natCast→zD
open List renaming length_set→zA
open Nat renaming le_refl→zC
namespace Go.Proofs.YtmhapcbjjpadnaaGreat
open Go Go.Sk Go.RowKit
theorem bAN {L:List Df} {f b:Nat} (h:f<L.length)(m:bI (L.getD f aZ).E):aX (L.set f (fbl (L.getD f aZ) b))=(aX L).set f (aS 15 (L.getD f aZ).c 7 [.int .i64 (b:Int)]):=by
 rw [aX,aX,List.map_set];obtain⟨k0,k1,k2,k3,e,j⟩:=Df.cells m
 congr 1
 unfold Df.c fbl;dsimp only;rw [j];rfl
theorem aOQ {x k:Nat} (j:x<256)(f:k<8):gC .andNot .i64 (x:Int) ((2^k:Nat):Int)=((aOP x k:Nat):Int):=by
 have e:∀x:Fin 256,∀k:Fin 8,gC .andNot .i64 (x.val:Int) ((2^k.val:Nat):Int)=((aOP x.val k.val:Nat):Int):=by decide +kernel
 exact e ⟨x,j⟩ ⟨k,f⟩
theorem bGR(c:Dc)(h:Ok c)(f off n:Nat)(hf:f<c.fl.length)(hb:off+n<=128)(hm:(gY c f off (iA c f off n) (cnt off (iA c f off n))).2.2=true):aM Tryz.prog 124 [] [.agg c.c,.int .i64 (f:Int),.int .i64 (off:Int),.int .i64 (n:Int)] (.agg (aAB c f off (iA c f off n) (cnt off (iA c f off n))).c) []:=by
 have aj:=aAA hf;have hs:=(h.file f hf).size;obtain⟨k0,k1,k2,k3,ah,-⟩:=Df.cells (h.file f hf).E;rw [ah] at aj;have a3:max (min (n:Int) (((c.fl.getD f aZ).size:Int)- (off:Int))) 0=((iA c f off n:Nat):Int):=by unfold iA;omega
 have a1:iA c f off n<=n/\(iA c f off n=0\/off+iA c f off n<=(c.fl.getD f aZ).size):=by unfold iA;omega
 have ap:iA c f off (iA c f off n)=iA c f off n:=by unfold iA;omega
 have aa:=bKN c h f off (iA c f off n) hf (by omega);rw [ap] at aa;have a4:=aTQ off (iA c f off n) (by omega);have az:=rQ (off:=off) (n:=iA c f off n) (by omega);have ak:=aL3 c f off (iA c f off n) (cnt off (iA c f off n)) (by omega);have M:=aNJ c f off (iA c f off n) (cnt off (iA c f off n));have ad:=aNK hm;generalize iA c f off n=C at *;have ab:off+C<=128:=by omega
 unfold aXZ at aa;generalize hQ:gY c f off C (cnt off C)=Q at *;obtain⟨w,t,m⟩:=Q;dsimp only at ak M hm aa;subst hm;refine aE (ob0:= []) [] Tryz.func124 rfl rfl rfl rfl ?_;refine Wx ?_;refine Lp (λi:Nat=>i<=cnt off C) (λi=> [(13,.int .i64 (i:Int))]) (λi=> [(0,.box (aAB c f off C i).c)]) (λi=>cnt off C-i) 0 (Nat.zero_le _) ?_ ?_
 ·exact Vr [_,_]
 intro i hi;refine Wx ?_;refine gE (λb=>?_) (λb=>?_)
 ·have b:i<cnt off C:=by omega
  have hg:=aFW (off/16) (cnt off C) i b;have ar:=aLS ab b;have ae:=sJ b;have ax:2^(off/16+i)<2^8:=Nat.pow_lt_pow_right (by omega) (by omega);obtain⟨D,o2,o3,o4⟩:=sP h hf ab i hi;have al:=ad i b;have z:aAB c f off C (i+1)=aFF (aAB c f off C i) f off C (off/16+i):=rfl;unfold aFF at z;rw [aZ6 o3] at z;obtain⟨b1,b2⟩:=M (off/16+i);rw [zdt (show off/16<=off/16+i/\off/16+i<off/16+cnt off C by omega),Bool.true_and] at b1 b2;rw [<-bCA] at b1 b2;have ao:=o4 i (zC i)
  generalize aAB c f off C i=d at *;have B:f<d.fl.length:=by rw [o2];exact hf
  have a2:=D.nr
  cases hw:isW c f off C (off/16+i) with
  |true=>
   rw [hw] at b1 b2 z;rw [zct] at z
   cases J:jP d f (off/16+i) with
   |some x=>
    obtain⟨j,u⟩:=x;have ag:=D.f33s B J;obtain⟨q1,q2,q3,q4,q5⟩:=dH D B J;rw [J] at z;dsimp only at z;have au:=bGU d j u 0 D.sm (D.good q1 q2) (D.use j u q1 q2).ten D.gr D.smZ (D.smL _) D.pt D.ptl;have o5:Ok (d.gone j u 0):=D.gone q1 q2 (Int.le_refl 0) (by omega);have Y:(d.gone j u 0).fl.length=d.fl.length:=zA ..;generalize d.gone j u 0=e at *;have T:f<e.fl.length:=by rw [Y];exact B
    have W:=aAA T;have kf:=o5.file f T;have F:=bAN (b:=aOP (e.fl.getD f aZ).blocks (off/16+i)) T kf.E;have am:=aOQ kf.blocks (show off/16+i<8 by omega);obtain⟨e0,e1,e2,e3,R,-⟩:=Df.cells kf.E;rw [R] at W F;refine Wx ?_;refine Le (i+1) (hv:=?_);simp only [z,Dc.bl,Dc.c,F];exact Vr [_,_]
   |none=>
    have ag:=D.f33n B J;rw [J] at z;dsimp only at z;have a5:=aIV d D.sm;have kd:=D.file f B;have ai:=aAA B;have O:bI (eH (d.fl.getD f aZ).E (off/16+i) (0,0)):=kd.E.set (Nat.zero_lt_succ _) (λ_=>rfl);have af:=aZS kd.E kd.sup (off/16+i) (by omega) 0;have G:=aC4 d.fl f _ B kd.E O;rw [iD d.fl f B] at G;have Y:(d.e0 f (off/16+i)).fl.length=d.fl.length:=zA ..
    have hx:(d.e0 f (off/16+i)).fl.getD f aZ=iG (d.fl.getD f aZ) (eH (d.fl.getD f aZ).E (off/16+i) (0,0)):=aH _ _ _ _ B;have W:(aX (d.fl.set f (iG (d.fl.getD f aZ) (eH (d.fl.getD f aZ).E (off/16+i) (0,0))))).getD f []=((d.e0 f (off/16+i)).fl.getD f aZ).c:=iD _ f (by rw [zA];exact B);have F:=bAN (L:=(d.e0 f (off/16+i)).fl) (f:=f) (b:=aOP (d.fl.getD f aZ).blocks (off/16+i)) (by rw [Y];exact B) (by rw [hx];exact O)
    have hq:aX (d.e0 f (off/16+i)).fl=aX (d.fl.set f (iG (d.fl.getD f aZ) (eH (d.fl.getD f aZ).E (off/16+i) (0,0)))):=rfl;have am:=aOQ kd.blocks (show off/16+i<8 by omega);have ay:=kd.blocks;obtain⟨e0,e1,e2,e3,R,ac⟩:=Df.cells kd.E;obtain⟨g0,g1,g2,g3,N,K⟩:=Df.cells (f:=iG (d.fl.getD f aZ) (eH (d.fl.getD f aZ).E (off/16+i) (0,0))) O
    have K:can (eH (d.fl.getD f aZ).E (off/16+i) (0,0))=[.int .i64 (hgt (eH (d.fl.getD f aZ).E (off/16+i) (0,0)):Int),.lst g0 g1 g2,.int .i64 g3,.int .i64 (oS (eH (d.fl.getD f aZ).E (off/16+i) (0,0)) 0 (4^hgt (eH (d.fl.getD f aZ).E (off/16+i) (0,0))):Nat)]:=K;rw [R] at ai G;rw [ac,K] at af;rw [K] at G;rw [<-G,hx,N] at W;rw [hq,<-G,hx,N] at F
    have z:aAB c f off C (i+1)=⟨(d.e0 f (off/16+i)).fl.set f (fbl (iG (d.fl.getD f aZ) (eH (d.fl.getD f aZ).E (off/16+i) (0,0))) (aOP (d.fl.getD f aZ).blocks (off/16+i))),d.fr,d.zo,d.gr,d.ls,d.ck,d.pt⟩:=by rw [z];unfold Dc.bl;rw [hx];rfl
    have H:=D.sm;have g1:=H.fl;have g2:=H.fr;have g3:=H.gr;have g4:=H.ls;have g5:=H.ck;refine Wx ?_;refine Le (i+1) (hv:=?_);simp only [z,Dc.c,F];exact Vr [_,_]
  |false=>
   rw [hw] at b1 b2 z;rw [zcf] at z;obtain⟨j,u,J,hz⟩:=aZC al hw;rw [<-ao] at J;have ag:=D.f33s B J;obtain⟨q1,q2,q3,q4,q5⟩:=dH D B J;have hu:=D.use j u q1 q2;have a0:=qA q1 q2;rw [J] at z;dsimp only at z;have Z:=aV0 (cM (off/16+i) off C).2;unfold lI at hz;have aw:=bH8 u.p hu.pg (cM (off/16+i) off C).1 (zB (cM (off/16+i) off C).2) (by rw [Z];exact ae.1) (by rw [Z];exact hz)
   have aq:=aA1 hu.pg (off:=(cM (off/16+i) off C).1) (s:=zB (cM (off/16+i) off C).2) (by rw [Z];exact ae.1);have av:=D.p155 (u':=sY u (vB u.p (cM (off/16+i) off C).1 (zB (cM (off/16+i) off C).2))) q1 q2 rfl aq hu.rd hu.wr;refine Wx ?_;rw [mkT (by omega) (by omega)];refine Wx ?_;refine Le (i+1) (hv:=?_);simp only [z];exact Vr [_,_]
 obtain rfl:i=cnt off C:=by omega
 exact Wz
def qN(c:Dc)(f off n:Int):Bool:=bif decide (0<=f/\f< (c.fl.length:Int)) then nU off n else false
theorem lE {c:Dc} {f off n:Int} (h:qN c f off n=true):∃a b k:Nat,f=a/\off=b/\n=k/\a<c.fl.length/\b+k<=128:=by
 unfold qN at h
 by_cases e:0<=f/\f< (c.fl.length:Int)
 ·rw [zdt e,zct] at h;obtain⟨b,k,rfl,rfl,h2⟩:=aQG h;exact⟨f.toNat,b,k,by omega,rfl,rfl,by omega,h2⟩
 ·rw [zdf e] at h;cases h
def aWD(c:Dc)(f off n:Nat):Dc×Int:=bif (gY c f off (iA c f off n) (cnt off (iA c f off n))).2.2 then(aAB c f off (iA c f off n) (cnt off (iA c f off n)),0) else(c,7)
def aDM(c:Dc)(f off n:Int):Dc×Int:=bif qN c f off n then aWD c f.toNat off.toNat n.toNat else(c,2)
theorem bTA(c:Dc)(h:Ok c)(f off n:Int):aM Tryz.prog 63 [] [.agg c.c,.int .i64 f,.int .i64 off,.int .i64 n] (.tup [.agg (aDM c f off n).1.c,.int .i64 (aDM c f off n).2]) []:=by
 have e:=aYT c f;have B:=aBV off n;generalize j:aDM c f off n=q;unfold aDM at j
 cases C:qN c f off n with
 |false=>
  rw [C,zcf] at j;subst j;unfold qN at C
  cases E:decide (0<=f/\f< (c.fl.length:Int)) with
  |false=> rw [E] at e;refine aE (ob0:= []) [] Tryz.func63 rfl rfl rfl rfl ?_;exact Wz
  |true=> rw [E,zct] at C;rw [E] at e;rw [C] at B;refine aE (ob0:= []) [] Tryz.func63 rfl rfl rfl rfl ?_;exact Wz
 |true=>
  rw [C,zct] at j;obtain⟨f,off,n,rfl,rfl,rfl,G,D⟩:=lE C;rw [zdt (by omega)] at e;rw [aCS D] at B;simp only [zD] at j;have F:=bKN c h f off n G D;have z:=bGR c h f off n G D;unfold aWD at j;unfold aXZ at F;generalize gY c f off (iA c f off n) (cnt off (iA c f off n))=x at *;obtain⟨w,t,m⟩:=x;dsimp only at *
  cases m with
  |true=> have z:=z rfl;subst j;refine aE (ob0:= []) [] Tryz.func63 rfl rfl rfl rfl ?_;exact Wz
  |false=> subst j;refine aE (ob0:= []) [] Tryz.func63 rfl rfl rfl rfl ?_;exact Wz
theorem bE3 {c:Dc} (h:Ok c) {f off n:Nat} (e:f<c.fl.length)(m:off+n<=128):Ok (aWD c f off n).1:=by
 unfold aWD;have j:iA c f off n<=n:=by unfold iA;omega
 cases(gY c f off (iA c f off n) (cnt off (iA c f off n))).2.2 with
 |true=>exact(sP h e (by omega) _ (zC _)).1
 |false=>exact h
theorem bE4 {c:Dc} (h:Ok c)(f off n:Int):Ok (aDM c f off n).1:=by
 unfold aDM
 cases m:qN c f off n with
 |false=>exact h
 |true=> obtain⟨f,off,n,rfl,rfl,rfl,j,e⟩:=lE m;exact bE3 h j e
def aX5(c:Dc)(f z:Nat):Dc×Int:=bif (dL c f (z:Int)).2==0 then
    (bif (gY c f z (iA c f z (128-z)) (cnt z (iA c f z (128-z)))).2.2 then((aAB (dL c f (z:Int)).1 f z (iA (dL c f (z:Int)).1 f z (128-z)) (cnt z (iA (dL c f (z:Int)).1 f z (128-z)))).sz f z,0) else(c,7))
 else(c,(dL c f (z:Int)).2)
def uY(c:Dc)(f z:Int):Dc×Int:=bif qN c f z 0 then aX5 c f.toNat z.toNat else(c,2)
theorem bEY {c:Dc} (h:Ok c) {f z:Nat} (m:f<c.fl.length)(B:z<=128)(hm:(gY c f z (iA c f z (128-z)) (cnt z (iA c f z (128-z)))).2.2=true):
 (gY (dL c f (z:Int)).1 f z (iA (dL c f (z:Int)).1 f z (128-z)) (cnt z (iA (dL c f (z:Int)).1 f z (128-z)))).2.2=true:=by
 by_cases e:z<=(c.fl.getD f aZ).size
 ·have :dL c f (z:Int)=(c,0):=by unfold dL pM;rw [zdt (by omega)];rfl
  rw [this];exact hm
 ·have j:((dL c f (z:Int)).1.fl.getD f aZ).size=(c.fl.getD f aZ).size:=by
   unfold dL;split
   ·rfl
   ·split
    ·rfl
    ·cases(mW false _ _==0)
     ·rfl
     ·exact aP6 _ _ _ _
  have :iA (dL c f (z:Int)).1 f z (128-z)=0:=by unfold iA;rw [j];omega
  rw [this];rfl
theorem bKJ(c:Dc)(h:Ok c)(f z:Int):aM Tryz.prog 31 [] [.agg c.c,.int .i64 f,.int .i64 z] (.tup [.agg (uY c f z).1.c,.int .i64 (uY c f z).2]) []:=by
 have C:=aYT c f;generalize j:uY c f z=q;unfold uY at j
 cases H:qN c f z 0 with
 |false=>
  rw [H,zcf] at j;subst j;unfold qN at H
  cases K:decide (0<=f/\f< (c.fl.length:Int)) with
  |false=> rw [K] at C;refine aE (ob0:= []) [] Tryz.func31 rfl rfl rfl rfl ?_;exact Wz
  |true=>
   rw [K,zct] at H;rw [K] at C;have :=of_decide_eq_false H
   by_cases h0:z<0
   ·refine aE (ob0:= []) [] Tryz.func31 rfl rfl rfl rfl ?_;exact Wz
   ·have h1:128<z:=by omega
    refine aE (ob0:= []) [] Tryz.func31 rfl rfl rfl rfl ?_;exact Wz
 |true=>
  rw [H,zct] at j;obtain⟨f,z,n,rfl,rfl,-,F,hb⟩:=lE H;rw [zdt (by omega)] at C;simp only [zD] at j;have hz:z<=128:=by omega
  have W:=bGQ c h f (z:Int) F;obtain⟨Z,R,o3,o4⟩:=vY h (z:Int) F;have Q:=bKN c h f z (128-z) F (by omega);have O:=bEY h F hz;have D:=λhm=>bGR (dL c f (z:Int)).1 Z f z (128-z) (by rw [R];exact F) (by omega) hm;have aa:iA (dL c f (z:Int)).1 f z (128-z)<=128-z:=by unfold iA;omega
  have hw:=sP Z (f:=f) (off:=z) (n:=iA (dL c f (z:Int)).1 f z (128-z)) (by rw [R];exact F) (by omega) _ (zC _);unfold aX5 at j;unfold aXZ at Q;generalize gY c f z (iA c f z (128-z)) (cnt z (iA c f z (128-z)))=x at *;generalize aAB (dL c f (z:Int)).1 f z (iA (dL c f (z:Int)).1 f z (128-z)) (cnt z (iA (dL c f (z:Int)).1 f z (128-z)))=e at *;generalize dL c f (z:Int)=y at *;obtain⟨d,g⟩:=y;obtain⟨w,t,m⟩:=x;dsimp only at *
  by_cases g0:g=0
  ·subst g0;rw [beq_self_eq_true,zct] at j
   cases m with
   |true=>
    have D:=D (O rfl);obtain⟨T,w2,w3,w4⟩:=hw;have G:f<e.fl.length:=by rw [w2,R];exact F
    have ab:=aIV e T.sm;have N:=aAA G;have Y:=T.file f G;have J:=bHW (n:=z) G Y.E;obtain⟨k0,k1,k2,k3,M,-⟩:=Df.cells Y.E;rw [M] at N J;subst j;unfold Dc.sz;simp only [Dc.c,zct];rw [<-J];have B:=T.sm;have h1:=B.fl;have h2:=B.fr;have h3:=B.gr;have h4:=B.ls;have h5:=B.ck;refine aE (ob0:= []) [] Tryz.func31 rfl rfl rfl rfl ?_;exact Wz
   |false=> subst j;refine aE (ob0:= []) [] Tryz.func31 rfl rfl rfl rfl ?_;exact Wz
  ·rw [zbn.2 g0,zcf] at j;subst j;refine aE (ob0:= []) [] Tryz.func31 rfl rfl rfl rfl ?_;exact Wz
theorem bF0 {c:Dc} (h:Ok c) {f z:Nat} (e:f<c.fl.length)(C:z<=128):Ok (aX5 c f z).1:=by
 obtain⟨D,m,E,F⟩:=vY h (z:Int) e;have B:iA (dL c f (z:Int)).1 f z (128-z)<=128-z:=by unfold iA;omega
 have j:=sP D (f:=f) (off:=z) (n:=iA (dL c f (z:Int)).1 f z (128-z)) (by rw [m];exact e) (by omega) _ (zC _);unfold aX5
 cases((dL c f (z:Int)).2==0) with
 |false=>exact h
 |true=>
  rw [zct]
  cases(gY c f z (iA c f z (128-z)) (cnt z (iA c f z (128-z)))).2.2 with
  |false=>exact h
  |true=>exact j.1.sz (by rw [j.2.1,m];exact e) C
theorem bF1 {c:Dc} (h:Ok c)(f z:Int):Ok (uY c f z).1:=by
 unfold uY
 cases j:qN c f z 0 with
 |false=>exact h
 |true=> obtain⟨f,z,n,rfl,rfl,-,e,m⟩:=lE j;exact bF0 h e (by omega)
end Go.Proofs.YtmhapcbjjpadnaaGreat
