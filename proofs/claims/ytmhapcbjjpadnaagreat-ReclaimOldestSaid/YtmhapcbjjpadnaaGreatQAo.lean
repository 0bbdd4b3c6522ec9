/- Caches. -/
import Derived.Test.YtmhapcbjjpadnaaGreatHAo
import Derived.Test.YtmhapcbjjpadnaaGreatGMo
import Derived.Test.YtmhapcbjjpadnaaGreatKAo
import Derived.Test.YtmhapcbjjpadnaaGreatGNo
set_option linter.all false
set_option maxHeartbeats 8000000
set_option maxRecDepth 40000
open Nat renaming zero_le→zA
namespace Go.Proofs.YtmhapcbjjpadnaaGreat
open Go Go.Sk Go.RowKit
theorem bM3(l:List Pt)(f:Int):aN Tryz.prog 200 [] [.lst 5 false (aU l),.int .i64 f] (.fn 285 [.ptr 0 0 0,.ptr 1 0 0]) [.box [.lst 5 false (aU l)],.box [.int .i64 f]]:=by refine aQ (ob0:= []) [] Tryz.func200 rfl rfl rfl rfl ?_;exact Wo2
noncomputable def c95:Code:=Tryz.f95.body.getD .skip
noncomputable def aJ3:Code:=Tryz.f285.body.getD .skip
noncomputable def bJR:dR Tryz.prog Tryz.f95.ntmps [0,1,4,5,6,7,14] [] (cN [0] c95):=⟨_,rfl⟩
noncomputable def bJS:dR Tryz.prog Tryz.f95.ntmps [0,1,4,5,6,7,14] [] (cN [1,0] c95):=⟨_,rfl⟩
noncomputable def bJT:dR Tryz.prog Tryz.f95.ntmps [0,1,4,5,6,7,14] [] (cN [1,1,0] c95):=⟨_,rfl⟩
noncomputable def bJU:dR Tryz.prog Tryz.f95.ntmps [4,5,6,7,14] [] (cN [1,1,1,0,0] c95):=⟨_,rfl⟩
noncomputable def bJV:dR Tryz.prog Tryz.f95.ntmps [6,7,8,9] [] (cN [1,1,1,0,1,0,0] c95):=⟨_,rfl⟩
noncomputable def bJW:dR Tryz.prog Tryz.f95.ntmps [6,7] [] (cN [1,1,1,0,1,0,1] c95):=⟨_,rfl⟩
noncomputable def bJX:dR Tryz.prog Tryz.f95.ntmps [4,5] [] (cN [1,1,1,1] c95):=⟨_,rfl⟩
noncomputable def bDC:dR Tryz.prog Tryz.f285.ntmps [0,1,2] [] (cN [0] aJ3):=⟨_,rfl⟩
noncomputable def bDD:dR Tryz.prog Tryz.f285.ntmps [0,1,2,9,10,11] [] (cN [1,0] aJ3):=⟨_,rfl⟩
noncomputable def bDE:dR Tryz.prog Tryz.f285.ntmps [0,1,2,9,10,11,12] [] (cN [1,1,0,0,0] aJ3):=⟨_,rfl⟩
noncomputable def bDF:dR Tryz.prog Tryz.f285.ntmps [0,1,2,9,10,11] [] (cN [1,1,0,0,1,0] aJ3):=⟨_,rfl⟩
noncomputable def bDG:dR Tryz.prog Tryz.f285.ntmps [0,1,2,4,5,9,10,11] [] (cN [1,1,0,0,1,1,0,0,0] aJ3):=⟨_,rfl⟩
noncomputable def aEI:aUZ Tryz.prog Tryz.f285.ntmps 8 (cN [1,1,0,0,1,1,0,0,1,0] aJ3):=⟨_,_,_,_,_,_,rfl⟩
noncomputable def bDH:dR Tryz.prog Tryz.f285.ntmps [0,1,2,9,10,11] [] (cN [1,1,0,0,1,1,0,0,1,1] aJ3):=⟨_,rfl⟩
noncomputable def bDI:dR Tryz.prog Tryz.f285.ntmps [0,1,2,9,10,11] [] (cN [1,1,0,0,1,1,1] aJ3):=⟨_,rfl⟩
section
variable {Γ:Type}
noncomputable def bK0(l n0:Nat)(Rd:Rnd Γ):rZ Γ:=
 eK (bY Tryz.prog n0 bDC.rc) (eK (bY Tryz.prog n0 bDD.rc) (iT 0 (aI7 n0 (eK (bY Tryz.prog n0 bDE.rc) (eK (bY Tryz.prog n0 bDF.rc) (eK (iT 1 (eK (bY Tryz.prog n0 bDG.rc)
  (eK (aCB Tryz.prog l Rd aEI.pre aEI.d aEI.g aEI.x aEI.xs aEI.suf []) (bY Tryz.prog n0 bDH.rc)))) (bY Tryz.prog n0 bDI.rc)))))))
theorem bKF(C:Cy Tryz.prog Γ)(l:Nat)(e:Rnd Γ)(f:kG C l e):aI C Tryz.f285.ntmps aJ3 (bK0 l C.n0 e):=
 aI.seq (aI.bas bDC (by rfl)) (aI.seq (aI.bas bDD (by rfl)) (aI.block (aI.loop (aI.seq (aI.bas bDE (by rfl)) (aI.seq (aI.bas bDF (by rfl)) (aI.seq (aI.block (aI.seq (aI.bas bDG (by rfl))
  (aI.seq (aI.yldR aEI [] f (by rfl) (by rfl)) (aI.bas bDH (by rfl))))) (aI.bas bDI (by rfl))))))))
noncomputable def S95(n0:Nat):rZ Unit:=
 eK (bY Tryz.prog n0 bJR.rc) (eK (bY Tryz.prog n0 bJS.rc) (eK (bY Tryz.prog n0 bJT.rc) (eK (eK (bY Tryz.prog n0 bJU.rc) (iT 0 (aGV n0 (aGB n0 (.t 14) 285 Tryz.f285.ntmps [15,16] (λm=>bY Tryz.prog m bJV.rc) (λm=>bY Tryz.prog m bJW.rc) bK0))))
  (bY Tryz.prog n0 bJX.rc))))
theorem bP5(C:Cy Tryz.prog Unit)(h:C.rd=none):aI C Tryz.f95.ntmps c95 (S95 C.n0):=
 aI.seq (aI.bas bJR (by rfl)) (aI.seq (aI.bas bJS (by rfl)) (aI.seq (aI.bas bJT (by rfl)) (aI.seq (aI.seq (aI.bas bJU (by rfl)) (aI.block (aI.view (aI.range h rfl (ps:= #[15,16]) (by decide) Tryz.func285 rfl rfl rfl (λC2 _=>aI.bas bJV (by rfl)) (λC2 _=>aI.bas bJW (by rfl)) (λj l e _ f=>bKF j l e f)))))
  (aI.bas bJX (by rfl)))))
end
theorem bPX(l:List Pt)(f:Int)(F:lK l=true)(G:l.length<=100000):aN Tryz.prog 95 [] [.lst 5 false (aU l),.int .i64 f] (.tup [.lst 5 false (aU (l.map (kF f))),.bool (yB l f l.length)]) []:=by
 have j:(aU l).length=l.length:=by simp [aU]
 have z:=aMN (aU l) false (by rw [j];omega);have B:=bEN l G;rw [F] at B;rw [j] at z;have E:=bM3 l f;refine fnE Tryz.func95 rfl rfl rfl bP5 ?_;refine Wy ?_;refine⟨⟨[(6,⟨[],true,.ptr 1 0 0⟩),(7,⟨[],true,.ptr 2 0 0⟩),(14,⟨[],true,.fn 285 [.ptr 3 0 0,.ptr 4 0 0]⟩)],[(0,.row 5 (aU l)),(1,.box [.sl 0 0 l.length]),(2,.box [.bool false]),(3,.box [.lst 5 false (aU l)]),(4,.box [.int .i64 f])],5⟩,Vr [some 0,_,_,_,_],?_⟩;refine⟨_,5,rfl,by decide,⟨zA _,Nat.le_refl _⟩,rfl,λy=>?_⟩
 refine Wy ?_
 refine⟨Nat,λi=>i<=l.length,λi=>⟨[(0,⟨[],true,.val (.func (.yield y) #[] #[])⟩),(1,⟨[],true,.ptr 3 0 0⟩),(2,⟨[],true,.ptr 4 0 0⟩),(9,⟨[],true,.lst 5 false (aU l)⟩),(10,⟨[],true,.int .i64 (l.length:Int)⟩),(11,⟨[],true,.int .i64 (i:Int)⟩)],
  [(0,.row 5 (aU (nT (kF f) l i))),(1,.box [.sl 0 0 l.length]),(2,.box [.bool (yB l f i)]),(3,.box [.lst 5 false (aU l)]),(4,.box [.int .i64 f])],5⟩,λ_=>((),none),λi=>l.length-i,⟨0,zA _,?_,rfl⟩,?_⟩
 ·simp only [aI8];exact Vr [some 0,some 1,some 2,some 3,some 4]
 intro i M;refine Wy ?_;refine mD (λb=>?_) (λb=>?_)
 ·have b:i<l.length:=by omega
  have hg:=kC l i b;have C:=kC (nT (kF f) l i) i (by rw [sY];exact b);rw [aFQ _ _ _ _ b] at C;have D:=aBR (kF f) l i p0 b;have H:=aTM (kF f) l i p0 b;have J:(nT (kF f) l i).length=l.length:=sY _ _ _;have m:kF f (l.getD i p0)=bif (l.getD i p0).frame==f then⟨(l.getD i p0).proc,(l.getD i p0).page,(l.getD i p0).frame,(l.getD i p0).wr,false⟩ else l.getD i p0:=rfl
  have e:yB l f (i+1)=bif (l.getD i p0).frame==f then(bif yB l f i then true else(l.getD i p0).acc) else yB l f i:=rfl
  generalize l.getD i p0=x at *;generalize yB l f i=K at *
  by_cases c:x.frame=f
  ·rw [zbe.2 c,zct] at m e
   cases K with
   |true=> rw [zct] at e;refine Wy ?_;refine⟨i+1,b,?_,rfl,by show l.length- (i+1)<l.length-i;omega⟩;simp only [D,m,e,<-aC1];exact Vr [some 0,some 1,some 2,some 3,some 4]
   |false=> rw [zcf] at e;refine Wy ?_;refine⟨i+1,b,?_,rfl,by show l.length- (i+1)<l.length-i;omega⟩;simp only [D,m,e,<-aC1];exact Vr [some 0,some 1,some 2,some 3,some 4]
  ·rw [zbn.2 c,zcf] at m e;refine Wy ?_;refine⟨i+1,b,?_,rfl,by show l.length- (i+1)<l.length-i;omega⟩;simp only [H m,e];exact Vr [some 0,some 1,some 2,some 3,some 4]
 obtain rfl:i=l.length:=by omega
 rw [aMD];refine Wy ?_;exact tT
def gY(c:Dc):Nat->Dc
 |0=>c.x
 |k+1=>match c.fr.getD k none with
  |some u=>bif yB (gY c k).pt ((k+1:Nat):Int) (gY c k).pt.length then((gY c k).pts ((gY c k).pt.map (kF ((k+1:Nat):Int)))).acc k u.ten else(gY c k).pts ((gY c k).pt.map (kF ((k+1:Nat):Int)))
  |none=>(gY c k).pts ((gY c k).pt.map (kF ((k+1:Nat):Int)))
theorem aEK {c:Dc} (h:Ok c):∀k,Ok (gY c k)
 |0=>h.x
 |k+1=>by
  have f:=aEK h k;have e:=f.pts (bIO f.pt ((k+1:Nat):Int));rw [gY];split
  ·cases yB (gY c k).pt ((k+1:Nat):Int) (gY c k).pt.length with
   |true=>exact e.acc _ _
   |false=>exact e
  ·exact e
theorem vA(c:Dc):∀k,gY c k=⟨c.fl,c.fr,c.zo.map noZ,c.gr,(gY c k).ls,c.ck,(gY c k).pt⟩/\(gY c k).ls.length=c.ls.length
 |0=>⟨rfl,rfl⟩
 |k+1=>by
  obtain⟨e,f⟩:=vA c k;rw [gY];split
  ·cases yB (gY c k).pt ((k+1:Nat):Int) (gY c k).pt.length with
   |true=>
    refine⟨?_,?_⟩
    ·rw [zct,e];rfl
    ·show(List.set _ _ _).length=_;rw [List.length_set];exact f
   |false=>exact⟨by rw [zcf,e];rfl,f⟩
  ·exact⟨by rw [e];rfl,f⟩
noncomputable def R19:Rsv Tryz.prog Tryz.f19 [] 1:=⟨_,_,rfl,rfl⟩
theorem bM0(c:Dc)(h:Ok c):aN Tryz.prog 19 [] [.agg c.c] (.agg (gY c c.fr.length).c) []:=by
 have C:=bBF c h;have E:=h.nr;unfold Dc.b Dc.x at C;dsimp only at C;refine fnZ R19 Tryz.func19 ?_;refine Wy ?_;refine Lp (λi:Nat=>i<=c.fr.length) (λi=> [(4,.int .i64 ((i+1:Nat):Int))]) (λi=> [(2,.box [.sl 3 0 c.fl.length,.sl 4 0 c.fr.length,.lst 6 false (aJ (c.zo.map noZ)),.lst 3 false (aR c.gr),.sl 5 0 c.ls.length,.sl 6 0 c.ck.length,.lst 5 false (aU (gY c i).pt)]),(5,.row 3 (bG (gY c i).ls))]) (λi=>c.fr.length-i) 0 (zA _) ?_ ?_
 ·exact Vr [_,_,_,some 3,some 4,some 5,some 6]
 intro i O;refine Wy ?_;obtain⟨e1,J⟩:=vA c i;refine mD (λb=>?_) (λb=>?_)
 ·have b:i<c.fr.length:=by omega
  have H:=aEK h i;have G:=H.pt;have F:=H.ptl;have M:=bPX (gY c i).pt ((i+1:Nat):Int) G F;have f:=bBH c ((i+1:Nat):Int) h.sm
  have e:gY c (i+1)=match c.fr.getD i none with
   |some u=>bif yB (gY c i).pt ((i+1:Nat):Int) (gY c i).pt.length then((gY c i).pts ((gY c i).pt.map (kF ((i+1:Nat):Int)))).acc i u.ten else(gY c i).pts ((gY c i).pt.map (kF ((i+1:Nat):Int)))
   |none=>(gY c i).pts ((gY c i).pt.map (kF ((i+1:Nat):Int))):=rfl
  have B:nP c ((i+1:Nat):Int)=(c.fr.getD i none).isSome:=by unfold nP;rw [zdt (show(1:Int)<=((i+1:Nat):Int) by omega),zdt (show((i+1:Nat):Int)<=(c.fr.length:Int) by omega),show(((i+1:Nat):Int)-1).toNat=i by omega];rfl
  rw [B] at f
  cases D:c.fr.getD i none with
  |none=>
   rw [D] at e f;have f:aN Tryz.prog 96 [] [.agg c.c,.int .i64 ((i+1:Nat):Int)] (.bool false) []:=f;dsimp only at e;have m:((gY c i).pts ((gY c i).pt.map (kF ((i+1:Nat):Int)))).ls=(gY c i).ls:=rfl;have z:((gY c i).pts ((gY c i).pt.map (kF ((i+1:Nat):Int)))).pt=((gY c i).pt.map (kF ((i+1:Nat):Int))):=rfl;generalize(gY c i).pts ((gY c i).pt.map (kF ((i+1:Nat):Int)))=A at *;generalize yB (gY c i).pt ((i+1:Nat):Int) (gY c i).pt.length=y at *
   generalize((gY c i).pt.map (kF ((i+1:Nat):Int)))=P at *
   cases y with
   |true=> refine Wy ?_;refine Le (i+1) (hv:=?_);simp only [e,m,z];exact Vr [some 0,some 1,some 2,some 3,some 4,some 5,some 6]
   |false=> refine Wy ?_;refine Le (i+1) (hv:=?_);simp only [e,m,z];exact Vr [some 0,some 1,some 2,some 3,some 4,some 5,some 6]
  |some u=>
   rw [D] at e f;have f:aN Tryz.prog 96 [] [.agg c.c,.int .i64 ((i+1:Nat):Int)] (.bool true) []:=f;have N:=h.use i u b D;dsimp only at e;have j:=bPY ((gY c i).pts ((gY c i).pt.map (kF ((i+1:Nat):Int)))) i u (by rw [e1];exact b) (by rw [e1];exact D) (by rw [e1];exact E) (by show u.ten< (gY c i).ls.length;rw [J,h.nl];exact N.ten) (H.smL _);have m:((gY c i).pts ((gY c i).pt.map (kF ((i+1:Nat):Int)))).ls=(gY c i).ls:=rfl
   have z:((gY c i).pts ((gY c i).pt.map (kF ((i+1:Nat):Int)))).pt=((gY c i).pt.map (kF ((i+1:Nat):Int))):=rfl;have K:(gY c i).pts ((gY c i).pt.map (kF ((i+1:Nat):Int)))=⟨c.fl,c.fr,c.zo.map noZ,c.gr,(gY c i).ls,c.ck,((gY c i).pt.map (kF ((i+1:Nat):Int)))⟩:=by rw [e1];rfl
   rw [K] at j e;generalize yB (gY c i).pt ((i+1:Nat):Int) (gY c i).pt.length=y at *;generalize((gY c i).pt.map (kF ((i+1:Nat):Int)))=P at *;unfold Dc.b Dc.acc at j;unfold Dc.acc at e;dsimp only at j e;rw [List.length_set,J] at j
   cases y with
   |true=> rw [zct] at e;refine Wy ?_;refine Le (i+1) (hv:=?_);simp only [e];exact Vr [some 0,some 1,some 2,some 3,some 4,some 5,some 6]
   |false=> rw [zcf] at e;refine Wy ?_;refine Le (i+1) (hv:=?_);simp only [e];exact Vr [some 0,some 1,some 2,some 3,some 4,some 5,some 6]
 obtain rfl:i=c.fr.length:=by omega
 rw [e1];unfold Dc.c;dsimp only;exact tT
theorem bHY(c:Dc)(h:Ok c)(t:Int):aN Tryz.prog 83 [] [.agg c.c,.int .i64 t] (.bool (decide (0<=t/\t< (c.gr.length:Int)))) []:=by
 have C:=h.ng;have B:=h.nl;have h2:=h.nk;have e1:(aR c.gr).length=c.gr.length:=by simp [aR]
 have m:(bG c.ls).length=c.ls.length:=bW _;have z:(aB c.ck).length=c.ck.length:=aA _
 by_cases f:0<=t
 ·by_cases j:t< (c.gr.length:Int)
  ·rw [zdt ⟨f,j⟩];refine aQ (ob0:= []) [] Tryz.func83 rfl rfl rfl rfl ?_;exact tT
  ·rw [zdf λe=>j e.2];refine aQ (ob0:= []) [] Tryz.func83 rfl rfl rfl rfl ?_;exact tT
 ·rw [zdf λe=>f e.1];refine aQ (ob0:= []) [] Tryz.func83 rfl rfl rfl rfl ?_;exact tT
theorem bEE(c:Dc)(h:Ok c)(m:Nat)(hm:m<c.fr.length):aN Tryz.prog 194 [] [.agg c.c,.int .i64 ((m+1:Nat):Int)] (.bool (jL (c.fr.getD m none))) []:=by
 have B:=h.nr;have f:nP c ((m+1:Nat):Int)=(c.fr.getD m none).isSome:=by unfold nP;rw [zdt (show(1:Int)<=((m+1:Nat):Int) by omega),zdt (show((m+1:Nat):Int)<=(c.fr.length:Int) by omega),show(((m+1:Nat):Int)-1).toNat=m by omega];rfl
 have e:=bBH c ((m+1:Nat):Int) h.sm;rw [f] at e;have hg:=gR c.fr m hm
 cases j:c.fr.getD m none with
 |none=> rw [j] at e hg;have hg:(aY c.fr).getD m []=fre.c:=hg;have e:aN Tryz.prog 96 [] [.agg c.c,.int .i64 ((m+1:Nat):Int)] (.bool false) []:=e;show aN Tryz.prog 194 [] [.agg c.c,.int .i64 ((m+1:Nat):Int)] (.bool false) [];refine aQ (ob0:= []) [] Tryz.func194 rfl rfl rfl rfl ?_;exact tT
 |some u=>
  rw [j] at e hg;have e:aN Tryz.prog 96 [] [.agg c.c,.int .i64 ((m+1:Nat):Int)] (.bool true) []:=e;have hg:(aY c.fr).getD m []=u.c:=hg;have z:=bEB u;show aN Tryz.prog 194 [] [.agg c.c,.int .i64 ((m+1:Nat):Int)] (.bool (bif iQ u then(u.p.d:Int)==0 else false)) [];generalize iQ u=y at *
  cases y with
  |true=> refine aQ (ob0:= []) [] Tryz.func194 rfl rfl rfl rfl ?_;exact tT
  |false=> refine aQ (ob0:= []) [] Tryz.func194 rfl rfl rfl rfl ?_;exact tT
noncomputable def bOW:Rsv Tryz.prog Tryz.f284 [] 1:=⟨_,_,rfl,rfl⟩
end Go.Proofs.YtmhapcbjjpadnaaGreat
