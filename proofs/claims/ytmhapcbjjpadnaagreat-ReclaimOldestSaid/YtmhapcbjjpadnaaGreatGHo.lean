/- Caches. -/
import Derived.Test.YtmhapcbjjpadnaaGreatGXo
import Derived.Test.YtmhapcbjjpadnaaGreatK8o
set_option linter.all false
set_option maxHeartbeats 8000000
set_option maxRecDepth 40000
open List renaming length_set→zA
open Nat renaming le_refl→zC
namespace Go.Proofs.YtmhapcbjjpadnaaGreat
open Go Go.Sk Go.RowKit
theorem bF7 {L:List Df} {f b:Nat} (h:f<L.length)(m:bK (L.getD f bC).E):bU (L.set f (fbl (L.getD f bC) b))=(bU L).set f (aS 15 (L.getD f bC).c 7 [.int .i64 (b:Int)]):=by
 rw [bU,bU,List.map_set];obtain⟨k0,k1,k2,k3,e,j⟩:=Df.cells m
 congr 1
 unfold Df.c fbl;dsimp only;rw [j];rfl
theorem aMM {x k:Nat} (j:x<256)(f:k<8):gW .andNot .i64 (x:Int) ((2^k:Nat):Int)=((aML x k:Nat):Int):=by
 have e:∀x:Fin 256,∀k:Fin 8,gW .andNot .i64 (x.val:Int) ((2^k.val:Nat):Int)=((aML x.val k.val:Nat):Int):=by decide +kernel
 exact e ⟨x,j⟩ ⟨k,f⟩
theorem bLJ(c:Dc)(h:Ok c)(f off n:Nat)(hf:f<c.fl.length)(hb:off+n<=128)(hm:(iA c f off (fV c f off n) (cnt off (fV c f off n))).2.2=true):aN Tryz.prog 124 [] [.agg c.c,.int .i64 (f:Int),.int .i64 (off:Int),.int .i64 (n:Int)] (.agg (vZ c f off (fV c f off n) (cnt off (fV c f off n))).c) []:=by
 have aj:=aGI hf;have hs:=(h.file f hf).size;obtain⟨k0,k1,k2,k3,ah,-⟩:=Df.cells (h.file f hf).E;rw [ah] at aj;have a3:max (min (n:Int) (((c.fl.getD f bC).size:Int)- (off:Int))) 0=((fV c f off n:Nat):Int):=by unfold fV;omega
 have a1:fV c f off n<=n/\(fV c f off n=0\/off+fV c f off n<=(c.fl.getD f bC).size):=by unfold fV;omega
 have ap:fV c f off (fV c f off n)=fV c f off n:=by unfold fV;omega
 have aa:=bNO c h f off (fV c f off n) hf (by omega);rw [ap] at aa;have a4:=aMS off (fV c f off n) (by omega);have az:=sH (off:=off) (n:=fV c f off n) (by omega);have ak:=aJ6 c f off (fV c f off n) (cnt off (fV c f off n)) (by omega);have M:=aLE c f off (fV c f off n) (cnt off (fV c f off n));have ad:=aLF hm;generalize fV c f off n=C at *;have ab:off+C<=128:=by omega
 unfold bA4 at aa;generalize hQ:iA c f off C (cnt off C)=Q at *;obtain⟨w,t,m⟩:=Q;dsimp only at ak M hm aa;subst hm;refine aQ (ob0:= []) [] Tryz.func124 rfl rfl rfl rfl ?_;refine Wx ?_;refine Lp (λi:Nat=>i<=cnt off C) (λi=> [(13,.int .i64 (i:Int))]) (λi=> [(0,.box (vZ c f off C i).c)]) (λi=>cnt off C-i) 0 (Nat.zero_le _) ?_ ?_
 ·exact Vr [_,_]
 intro i hi;refine Wx ?_;refine mD (λb=>?_) (λb=>?_)
 ·have b:i<cnt off C:=by omega
  have hg:=aAM (off/16) (cnt off C) i b;have ar:=aFZ ab b;have ae:=oJ b;have ax:2^(off/16+i)<2^8:=Nat.pow_lt_pow_right (by omega) (by omega);obtain⟨D,o2,o3,o4⟩:=aB1 h hf ab i hi;have al:=ad i b;have z:vZ c f off C (i+1)=aHE (vZ c f off C i) f off C (off/16+i):=rfl;unfold aHE at z;rw [aWK o3] at z;obtain⟨b1,b2⟩:=M (off/16+i);rw [zdt (show off/16<=off/16+i/\off/16+i<off/16+cnt off C by omega),Bool.true_and] at b1 b2;rw [<-aZV] at b1 b2;have ao:=o4 i (zC i)
  generalize vZ c f off C i=d at *;have B:f<d.fl.length:=by rw [o2];exact hf
  have a2:=D.nr
  cases hw:isW c f off C (off/16+i) with
  |true=>
   rw [hw] at b1 b2 z;rw [zct] at z
   cases J:iR d f (off/16+i) with
   |some x=>
    obtain⟨j,u⟩:=x;have ag:=D.f33s B J;obtain⟨q1,q2,q3,q4,q5⟩:=fM D B J;rw [J] at z;dsimp only at z;have au:=bLS d j u 0 D.sm (D.good q1 q2) (D.use j u q1 q2).ten D.gr D.smZ (D.smL _) D.pt D.ptl;have o5:Ok (d.gone j u 0):=D.gone q1 q2 (Int.le_refl 0) (by omega);have Y:(d.gone j u 0).fl.length=d.fl.length:=zA ..;generalize d.gone j u 0=e at *;have T:f<e.fl.length:=by rw [Y];exact B
    have W:=aGI T;have kf:=o5.file f T;have F:=bF7 (b:=aML (e.fl.getD f bC).blocks (off/16+i)) T kf.E;have am:=aMM kf.blocks (show off/16+i<8 by omega);obtain⟨e0,e1,e2,e3,R,-⟩:=Df.cells kf.E;rw [R] at W F;refine Wx ?_;refine Le (i+1) (hv:=?_);simp only [z,Dc.bl,Dc.c,F];exact Vr [_,_]
   |none=>
    have ag:=D.f33n B J;rw [J] at z;dsimp only at z;have a5:=aP1 d D.sm;have kd:=D.file f B;have ai:=aGI B;have O:bK (dX (d.fl.getD f bC).E (off/16+i) (0,0)):=kd.E.set (Nat.zero_lt_succ _) (λ_=>rfl);have af:=aX8 kd.E kd.sup (off/16+i) (by omega) 0;have G:=aAP d.fl f _ B kd.E O;rw [gQ d.fl f B] at G;have Y:(d.e0 f (off/16+i)).fl.length=d.fl.length:=zA ..
    have hx:(d.e0 f (off/16+i)).fl.getD f bC=gU (d.fl.getD f bC) (dX (d.fl.getD f bC).E (off/16+i) (0,0)):=aH _ _ _ _ B;have W:(bU (d.fl.set f (gU (d.fl.getD f bC) (dX (d.fl.getD f bC).E (off/16+i) (0,0))))).getD f []=((d.e0 f (off/16+i)).fl.getD f bC).c:=gQ _ f (by rw [zA];exact B);have F:=bF7 (L:=(d.e0 f (off/16+i)).fl) (f:=f) (b:=aML (d.fl.getD f bC).blocks (off/16+i)) (by rw [Y];exact B) (by rw [hx];exact O)
    have hq:bU (d.e0 f (off/16+i)).fl=bU (d.fl.set f (gU (d.fl.getD f bC) (dX (d.fl.getD f bC).E (off/16+i) (0,0)))):=rfl;have am:=aMM kd.blocks (show off/16+i<8 by omega);have ay:=kd.blocks;obtain⟨e0,e1,e2,e3,R,ac⟩:=Df.cells kd.E;obtain⟨g0,g1,g2,g3,N,K⟩:=Df.cells (f:=gU (d.fl.getD f bC) (dX (d.fl.getD f bC).E (off/16+i) (0,0))) O
    have K:can (dX (d.fl.getD f bC).E (off/16+i) (0,0))=[.int .i64 (hgt (dX (d.fl.getD f bC).E (off/16+i) (0,0)):Int),.lst g0 g1 g2,.int .i64 g3,.int .i64 (nS (dX (d.fl.getD f bC).E (off/16+i) (0,0)) 0 (4^hgt (dX (d.fl.getD f bC).E (off/16+i) (0,0))):Nat)]:=K;rw [R] at ai G;rw [ac,K] at af;rw [K] at G;rw [<-G,hx,N] at W;rw [hq,<-G,hx,N] at F
    have z:vZ c f off C (i+1)=⟨(d.e0 f (off/16+i)).fl.set f (fbl (gU (d.fl.getD f bC) (dX (d.fl.getD f bC).E (off/16+i) (0,0))) (aML (d.fl.getD f bC).blocks (off/16+i))),d.fr,d.zo,d.gr,d.ls,d.ck,d.pt⟩:=by rw [z];unfold Dc.bl;rw [hx];rfl
    have H:=D.sm;have g1:=H.fl;have g2:=H.fr;have g3:=H.gr;have g4:=H.ls;have g5:=H.ck;refine Wx ?_;refine Le (i+1) (hv:=?_);simp only [z,Dc.c,F];exact Vr [_,_]
  |false=>
   rw [hw] at b1 b2 z;rw [zcf] at z;obtain⟨j,u,J,hz⟩:=aWR al hw;rw [<-ao] at J;have ag:=D.f33s B J;obtain⟨q1,q2,q3,q4,q5⟩:=fM D B J;have hu:=D.use j u q1 q2;have a0:=aGJ q1 q2;rw [J] at z;dsimp only at z;have Z:=aSI (bR (off/16+i) off C).2;unfold kO at hz;have aw:=bEM u.p hu.pg (bR (off/16+i) off C).1 (zB (bR (off/16+i) off C).2) (by rw [Z];exact ae.1) (by rw [Z];exact hz)
   have aq:=uM hu.pg (off:=(bR (off/16+i) off C).1) (s:=zB (bR (off/16+i) off C).2) (by rw [Z];exact ae.1);have av:=D.p155 (u':=tO u (tQ u.p (bR (off/16+i) off C).1 (zB (bR (off/16+i) off C).2))) q1 q2 rfl aq hu.rd hu.wr;refine Wx ?_;rw [mkT (by omega) (by omega)];refine Wx ?_;refine Le (i+1) (hv:=?_);simp only [z];exact Vr [_,_]
 obtain rfl:i=cnt off C:=by omega
 exact Wz
def vJ(c:Dc)(f off n:Int):Bool:=bif decide (0<=f/\f< (c.fl.length:Int)) then vF off n else false
theorem sR {c:Dc} {f off n:Int} (h:vJ c f off n=true):∃a b k:Nat,f=a/\off=b/\n=k/\a<c.fl.length/\b+k<=128:=by
 unfold vJ at h
 by_cases e:0<=f/\f< (c.fl.length:Int)
 ·rw [zdt e,zct] at h;obtain⟨b,k,rfl,rfl,h2⟩:=bFV h;exact⟨f.toNat,b,k,by omega,rfl,rfl,by omega,h2⟩
 ·rw [zdf e] at h;cases h
def bBO(c:Dc)(f off n:Nat):Dc×Int:=bif (iA c f off (fV c f off n) (cnt off (fV c f off n))).2.2 then(vZ c f off (fV c f off n) (cnt off (fV c f off n)),0) else(c,7)
def aXY(c:Dc)(f off n:Int):Dc×Int:=bif vJ c f off n then bBO c f.toNat off.toNat n.toNat else(c,2)
theorem bBP {c:Dc} (h:Ok c) {f off n:Nat} (e:f<c.fl.length)(m:off+n<=128):Ok (bBO c f off n).1:=by
 unfold bBO;have j:fV c f off n<=n:=by unfold fV;omega
 cases(iA c f off (fV c f off n) (cnt off (fV c f off n))).2.2 with
 |true=>exact(aB1 h e (by omega) _ (zC _)).1
 |false=>exact h
theorem bBQ {c:Dc} (h:Ok c)(f off n:Int):Ok (aXY c f off n).1:=by
 unfold aXY
 cases m:vJ c f off n with
 |false=>exact h
 |true=> obtain⟨f,off,n,rfl,rfl,rfl,j,e⟩:=sR m;exact bBP h j e
def aYY(c:Dc)(f z:Nat):Dc×Int:=bif (eJ c f (z:Int)).2==0 then
    (bif (iA c f z (fV c f z (128-z)) (cnt z (fV c f z (128-z)))).2.2 then((vZ (eJ c f (z:Int)).1 f z (fV (eJ c f (z:Int)).1 f z (128-z)) (cnt z (fV (eJ c f (z:Int)).1 f z (128-z)))).sz f z,0) else(c,7))
 else(c,(eJ c f (z:Int)).2)
def rW(c:Dc)(f z:Int):Dc×Int:=bif vJ c f z 0 then aYY c f.toNat z.toNat else(c,2)
theorem bCH {c:Dc} (h:Ok c) {f z:Nat} (m:f<c.fl.length)(B:z<=128)(hm:(iA c f z (fV c f z (128-z)) (cnt z (fV c f z (128-z)))).2.2=true):
 (iA (eJ c f (z:Int)).1 f z (fV (eJ c f (z:Int)).1 f z (128-z)) (cnt z (fV (eJ c f (z:Int)).1 f z (128-z)))).2.2=true:=by
 by_cases e:z<=(c.fl.getD f bC).size
 ·have :eJ c f (z:Int)=(c,0):=by unfold eJ aD1;rw [zdt (by omega)];rfl
  rw [this];exact hm
 ·have j:((eJ c f (z:Int)).1.fl.getD f bC).size=(c.fl.getD f bC).size:=by
   unfold eJ;split
   ·rfl
   ·split
    ·rfl
    ·cases(sF false _ _==0)
     ·rfl
     ·exact aMZ _ _ _ _
  have :fV (eJ c f (z:Int)).1 f z (128-z)=0:=by unfold fV;rw [j];omega
  rw [this];rfl
theorem bN4(c:Dc)(h:Ok c)(f z:Int):aN Tryz.prog 31 [] [.agg c.c,.int .i64 f,.int .i64 z] (.tup [.agg (rW c f z).1.c,.int .i64 (rW c f z).2]) []:=by
 have C:=bGL c f;generalize j:rW c f z=q;unfold rW at j
 cases H:vJ c f z 0 with
 |false=>
  rw [H,zcf] at j;subst j;unfold vJ at H
  cases K:decide (0<=f/\f< (c.fl.length:Int)) with
  |false=> rw [K] at C;refine aQ (ob0:= []) [] Tryz.func31 rfl rfl rfl rfl ?_;exact Wz
  |true=>
   rw [K,zct] at H;rw [K] at C;have :=of_decide_eq_false H
   by_cases h0:z<0
   ·refine aQ (ob0:= []) [] Tryz.func31 rfl rfl rfl rfl ?_;exact Wz
   ·have h1:128<z:=by omega
    refine aQ (ob0:= []) [] Tryz.func31 rfl rfl rfl rfl ?_;exact Wz
 |true=>
  rw [H,zct] at j;obtain⟨f,z,n,rfl,rfl,-,F,hb⟩:=sR H;rw [zdt (by omega)] at C;simp only [Int.toNat_natCast] at j;have hz:z<=128:=by omega
  have W:=bE9 c h f (z:Int) F;obtain⟨Z,R,o3,o4⟩:=aE7 h (z:Int) F;have Q:=bNO c h f z (128-z) F (by omega);have O:=bCH h F hz;have D:=λhm=>bLJ (eJ c f (z:Int)).1 Z f z (128-z) (by rw [R];exact F) (by omega) hm;have aa:fV (eJ c f (z:Int)).1 f z (128-z)<=128-z:=by unfold fV;omega
  have hw:=aB1 Z (f:=f) (off:=z) (n:=fV (eJ c f (z:Int)).1 f z (128-z)) (by rw [R];exact F) (by omega) _ (zC _);unfold aYY at j;unfold bA4 at Q;generalize iA c f z (fV c f z (128-z)) (cnt z (fV c f z (128-z)))=x at *;generalize vZ (eJ c f (z:Int)).1 f z (fV (eJ c f (z:Int)).1 f z (128-z)) (cnt z (fV (eJ c f (z:Int)).1 f z (128-z)))=e at *;generalize eJ c f (z:Int)=y at *;obtain⟨d,g⟩:=y;obtain⟨w,t,m⟩:=x;dsimp only at *
  by_cases g0:g=0
  ·subst g0;rw [beq_self_eq_true,zct] at j
   cases m with
   |true=>
    have D:=D (O rfl);obtain⟨T,w2,w3,w4⟩:=hw;have G:f<e.fl.length:=by rw [w2,R];exact F
    have ab:=aP1 e T.sm;have N:=aGI G;have Y:=T.file f G;have J:=bF8 (n:=z) G Y.E;obtain⟨k0,k1,k2,k3,M,-⟩:=Df.cells Y.E;rw [M] at N J;subst j;unfold Dc.sz;simp only [Dc.c,zct];rw [<-J];have B:=T.sm;have h1:=B.fl;have h2:=B.fr;have h3:=B.gr;have h4:=B.ls;have h5:=B.ck;refine aQ (ob0:= []) [] Tryz.func31 rfl rfl rfl rfl ?_;exact Wz
   |false=> subst j;refine aQ (ob0:= []) [] Tryz.func31 rfl rfl rfl rfl ?_;exact Wz
  ·rw [zbn.2 g0,zcf] at j;subst j;refine aQ (ob0:= []) [] Tryz.func31 rfl rfl rfl rfl ?_;exact Wz
theorem bCI {c:Dc} (h:Ok c) {f z:Nat} (e:f<c.fl.length)(C:z<=128):Ok (aYY c f z).1:=by
 obtain⟨D,m,E,F⟩:=aE7 h (z:Int) e;have B:fV (eJ c f (z:Int)).1 f z (128-z)<=128-z:=by unfold fV;omega
 have j:=aB1 D (f:=f) (off:=z) (n:=fV (eJ c f (z:Int)).1 f z (128-z)) (by rw [m];exact e) (by omega) _ (zC _);unfold aYY
 cases((eJ c f (z:Int)).2==0) with
 |false=>exact h
 |true=>
  rw [zct]
  cases(iA c f z (fV c f z (128-z)) (cnt z (fV c f z (128-z)))).2.2 with
  |false=>exact h
  |true=>exact j.1.sz (by rw [j.2.1,m];exact e) C
theorem aE9 {c:Dc} (h:Ok c)(f z:Int):Ok (rW c f z).1:=by
 unfold rW
 cases j:vJ c f z 0 with
 |false=>exact h
 |true=> obtain⟨f,z,n,rfl,rfl,-,e,m⟩:=sR j;exact bCI h e (by omega)
end Go.Proofs.YtmhapcbjjpadnaaGreat
