/- Caches. -/
import Derived.Test.YtmhapcbjjpadnaaGreatHAc
import Derived.Test.YtmhapcbjjpadnaaGreatGMc
import Derived.Test.YtmhapcbjjpadnaaGreatKAc
import Derived.Test.YtmhapcbjjpadnaaGreatGNc
set_option linter.all false
set_option maxHeartbeats 8000000
set_option maxRecDepth 40000
open Nat renaming zero_le→zA
namespace Go.Proofs.YtmhapcbjjpadnaaGreat
open Go Go.Sk Go.RowKit
theorem bP5(l:List Pt)(f:Int):aM Tryz.prog 200 [] [.lst 5 false (aN l),.int .i64 f] (.fn 285 [.ptr 0 0 0,.ptr 1 0 0]) [.box [.lst 5 false (aN l)],.box [.int .i64 f]]:=by refine aE (ob0:= []) [] Tryz.func200 rfl rfl rfl rfl ?_;exact Wo2
noncomputable def c95:Code:=Tryz.f95.body.getD .skip
noncomputable def aL0:Code:=Tryz.f285.body.getD .skip
noncomputable def bN0:cQ Tryz.prog Tryz.f95.ntmps [0,1,4,5,6,7,14] [] (cD [0] c95):=⟨_,rfl⟩
noncomputable def bN1:cQ Tryz.prog Tryz.f95.ntmps [0,1,4,5,6,7,14] [] (cD [1,0] c95):=⟨_,rfl⟩
noncomputable def bN2:cQ Tryz.prog Tryz.f95.ntmps [0,1,4,5,6,7,14] [] (cD [1,1,0] c95):=⟨_,rfl⟩
noncomputable def bN3:cQ Tryz.prog Tryz.f95.ntmps [4,5,6,7,14] [] (cD [1,1,1,0,0] c95):=⟨_,rfl⟩
noncomputable def bN4:cQ Tryz.prog Tryz.f95.ntmps [6,7,8,9] [] (cD [1,1,1,0,1,0,0] c95):=⟨_,rfl⟩
noncomputable def bN5:cQ Tryz.prog Tryz.f95.ntmps [6,7] [] (cD [1,1,1,0,1,0,1] c95):=⟨_,rfl⟩
noncomputable def bN6:cQ Tryz.prog Tryz.f95.ntmps [4,5] [] (cD [1,1,1,1] c95):=⟨_,rfl⟩
noncomputable def bFW:cQ Tryz.prog Tryz.f285.ntmps [0,1,2] [] (cD [0] aL0):=⟨_,rfl⟩
noncomputable def bFX:cQ Tryz.prog Tryz.f285.ntmps [0,1,2,9,10,11] [] (cD [1,0] aL0):=⟨_,rfl⟩
noncomputable def bFY:cQ Tryz.prog Tryz.f285.ntmps [0,1,2,9,10,11,12] [] (cD [1,1,0,0,0] aL0):=⟨_,rfl⟩
noncomputable def bFZ:cQ Tryz.prog Tryz.f285.ntmps [0,1,2,9,10,11] [] (cD [1,1,0,0,1,0] aL0):=⟨_,rfl⟩
noncomputable def bG0:cQ Tryz.prog Tryz.f285.ntmps [0,1,2,4,5,9,10,11] [] (cD [1,1,0,0,1,1,0,0,0] aL0):=⟨_,rfl⟩
noncomputable def aGB:aXI Tryz.prog Tryz.f285.ntmps 8 (cD [1,1,0,0,1,1,0,0,1,0] aL0):=⟨_,_,_,_,_,_,rfl⟩
noncomputable def bG1:cQ Tryz.prog Tryz.f285.ntmps [0,1,2,9,10,11] [] (cD [1,1,0,0,1,1,0,0,1,1] aL0):=⟨_,rfl⟩
noncomputable def bG2:cQ Tryz.prog Tryz.f285.ntmps [0,1,2,9,10,11] [] (cD [1,1,0,0,1,1,1] aL0):=⟨_,rfl⟩
section
variable {Γ:Type}
noncomputable def bNA(l n0:Nat)(Rd:Rnd Γ):sZ Γ:=
 dA (bH Tryz.prog n0 bFW.rc) (dA (bH Tryz.prog n0 bFX.rc) (fN 0 (aBN n0 (dA (bH Tryz.prog n0 bFY.rc) (dA (bH Tryz.prog n0 bFZ.rc) (dA (fN 1 (dA (bH Tryz.prog n0 bG0.rc)
  (dA (aE1 Tryz.prog l Rd aGB.pre aGB.d aGB.g aGB.x aGB.xs aGB.suf []) (bH Tryz.prog n0 bG1.rc)))) (bH Tryz.prog n0 bG2.rc)))))))
theorem bNN(C:Cy Tryz.prog Γ)(l:Nat)(e:Rnd Γ)(f:kV C l e):aJ C Tryz.f285.ntmps aL0 (bNA l C.n0 e):=
 aJ.seq (aJ.bas bFW (by rfl)) (aJ.seq (aJ.bas bFX (by rfl)) (aJ.block (aJ.loop (aJ.seq (aJ.bas bFY (by rfl)) (aJ.seq (aJ.bas bFZ (by rfl)) (aJ.seq (aJ.block (aJ.seq (aJ.bas bG0 (by rfl))
  (aJ.seq (aJ.yldR aGB [] f (by rfl) (by rfl)) (aJ.bas bG1 (by rfl))))) (aJ.bas bG2 (by rfl))))))))
noncomputable def S95(n0:Nat):sZ Unit:=
 dA (bH Tryz.prog n0 bN0.rc) (dA (bH Tryz.prog n0 bN1.rc) (dA (bH Tryz.prog n0 bN2.rc) (dA (dA (bH Tryz.prog n0 bN3.rc) (fN 0 (aEY n0 (aI3 n0 (.t 14) 285 Tryz.f285.ntmps [15,16] (λm=>bH Tryz.prog m bN4.rc) (λm=>bH Tryz.prog m bN5.rc) bNA))))
  (bH Tryz.prog n0 bN6.rc))))
theorem bSI(C:Cy Tryz.prog Unit)(h:C.rd=none):aJ C Tryz.f95.ntmps c95 (S95 C.n0):=
 aJ.seq (aJ.bas bN0 (by rfl)) (aJ.seq (aJ.bas bN1 (by rfl)) (aJ.seq (aJ.bas bN2 (by rfl)) (aJ.seq (aJ.seq (aJ.bas bN3 (by rfl)) (aJ.block (aJ.view (aJ.range h rfl (ps:= #[15,16]) (by decide) Tryz.func285 rfl rfl rfl (λC2 _=>aJ.bas bN4 (by rfl)) (λC2 _=>aJ.bas bN5 (by rfl)) (λj l e _ f=>bNN j l e f)))))
  (aJ.bas bN6 (by rfl)))))
end
theorem bTP(l:List Pt)(f:Int)(F:kU l=true)(G:l.length<=100000):aM Tryz.prog 95 [] [.lst 5 false (aN l),.int .i64 f] (.tup [.lst 5 false (aN (l.map (eP f))),.bool (yB l f l.length)]) []:=by
 have j:(aN l).length=l.length:=by simp [aN]
 have z:=aOT (aN l) false (by rw [j];omega);have B:=bH9 l G;rw [F] at B;rw [j] at z;have E:=bP5 l f;refine fnE Tryz.func95 rfl rfl rfl bSI ?_;refine Wy ?_;refine⟨⟨[(6,⟨[],true,.ptr 1 0 0⟩),(7,⟨[],true,.ptr 2 0 0⟩),(14,⟨[],true,.fn 285 [.ptr 3 0 0,.ptr 4 0 0]⟩)],[(0,.row 5 (aN l)),(1,.box [.sl 0 0 l.length]),(2,.box [.bool false]),(3,.box [.lst 5 false (aN l)]),(4,.box [.int .i64 f])],5⟩,Vr [some 0,_,_,_,_],?_⟩;refine⟨_,5,rfl,by decide,⟨zA _,Nat.le_refl _⟩,rfl,λy=>?_⟩
 refine Wy ?_
 refine⟨Nat,λi=>i<=l.length,λi=>⟨[(0,⟨[],true,.val (.func (.yield y) #[] #[])⟩),(1,⟨[],true,.ptr 3 0 0⟩),(2,⟨[],true,.ptr 4 0 0⟩),(9,⟨[],true,.lst 5 false (aN l)⟩),(10,⟨[],true,.int .i64 (l.length:Int)⟩),(11,⟨[],true,.int .i64 (i:Int)⟩)],
  [(0,.row 5 (aN (mO (eP f) l i))),(1,.box [.sl 0 0 l.length]),(2,.box [.bool (yB l f i)]),(3,.box [.lst 5 false (aN l)]),(4,.box [.int .i64 f])],5⟩,λ_=>((),none),λi=>l.length-i,⟨0,zA _,?_,rfl⟩,?_⟩
 ·simp only [vO];exact Vr [some 0,some 1,some 2,some 3,some 4]
 intro i M;refine Wy ?_;refine gE (λb=>?_) (λb=>?_)
 ·have b:i<l.length:=by omega
  have hg:=gH l i b;have C:=gH (mO (eP f) l i) i (by rw [oH];exact b);rw [uH _ _ _ _ b] at C;have D:=qV (eP f) l i p0 b;have H:=aDC (eP f) l i p0 b;have J:(mO (eP f) l i).length=l.length:=oH _ _ _;have m:eP f (l.getD i p0)=bif (l.getD i p0).frame==f then⟨(l.getD i p0).proc,(l.getD i p0).page,(l.getD i p0).frame,(l.getD i p0).wr,false⟩ else l.getD i p0:=rfl
  have e:yB l f (i+1)=bif (l.getD i p0).frame==f then(bif yB l f i then true else(l.getD i p0).acc) else yB l f i:=rfl
  generalize l.getD i p0=x at *;generalize yB l f i=K at *
  by_cases c:x.frame=f
  ·rw [zbe.2 c,zct] at m e
   cases K with
   |true=> rw [zct] at e;refine Wy ?_;refine⟨i+1,b,?_,rfl,by show l.length- (i+1)<l.length-i;omega⟩;simp only [D,m,e,<-nP];exact Vr [some 0,some 1,some 2,some 3,some 4]
   |false=> rw [zcf] at e;refine Wy ?_;refine⟨i+1,b,?_,rfl,by show l.length- (i+1)<l.length-i;omega⟩;simp only [D,m,e,<-nP];exact Vr [some 0,some 1,some 2,some 3,some 4]
  ·rw [zbn.2 c,zcf] at m e;refine Wy ?_;refine⟨i+1,b,?_,rfl,by show l.length- (i+1)<l.length-i;omega⟩;simp only [H m,e];exact Vr [some 0,some 1,some 2,some 3,some 4]
 obtain rfl:i=l.length:=by omega
 rw [aBO];refine Wy ?_;exact kK
theorem bBX {l:List Pt} {f:Int} :∀ {n:Nat},yB l f n=false->∀i,i<n->(l.getD i p0).frame=f->(l.getD i p0).acc=false
 |0,_,i,hi,_=>absurd hi (by omega)
 |n+1,h,i,hi,e=>by
  rw [yB] at h
  cases m:(l.getD n p0).frame==f with
  |true=>
   rw [m,zct] at h
   cases z:yB l f n with
   |true=>rw [z] at h;cases h
   |false=>
    rw [z,zcf] at h;rcases Nat.lt_or_ge i n with j |j
    ·exact bBX z i j e
    ·obtain rfl:i=n:=by omega
     exact h
  |false=>
   rw [m,zcf] at h;rcases Nat.lt_or_ge i n with j |j
   ·exact bBX h i j e
   ·obtain rfl:i=n:=by omega
    rw [zbe.2 e] at m;cases m
theorem bLG {l:List Pt} {f:Int} (h:yB l f l.length=false):l.map (eP f)=l:=by
 apply List.ext_getElem (by simp);intro i z h2;rw [List.getElem_map];have :=bBX h i h2;rw [List.getD_eq_getElem?_getD,List.getElem?_eq_getElem h2,Option.getD_some] at this;unfold eP
 cases j:l[i].frame==f with
 |true=>
  have :=this (zbe.1 j)
  cases m:l[i] with
  |mk a b c d e=>rw [m] at this;rw [zct];subst this;rfl
 |false=>rfl
def gW(c:Dc):Nat->Dc
 |0=>c.x
 |k+1=>match c.fr.getD k none with
  |some u=>bif yB (gW c k).pt ((k+1:Nat):Int) (gW c k).pt.length then((gW c k).pts ((gW c k).pt.map (eP ((k+1:Nat):Int)))).acc k u.ten else(gW c k).pts ((gW c k).pt.map (eP ((k+1:Nat):Int)))
  |none=>(gW c k).pts ((gW c k).pt.map (eP ((k+1:Nat):Int)))
theorem aKT {c:Dc} (h:Ok c):∀k,Ok (gW c k)
 |0=>h.x
 |k+1=>by
  have f:=aKT h k;have e:=f.pts (bBY f.pt ((k+1:Nat):Int));rw [gW];split
  ·cases yB (gW c k).pt ((k+1:Nat):Int) (gW c k).pt.length with
   |true=>exact e.acc _ _
   |false=>exact e
  ·exact e
theorem aCO(c:Dc):∀k,gW c k=⟨c.fl,c.fr,c.zo.map noZ,c.gr,(gW c k).ls,c.ck,(gW c k).pt⟩/\(gW c k).ls.length=c.ls.length
 |0=>⟨rfl,rfl⟩
 |k+1=>by
  obtain⟨e,f⟩:=aCO c k;rw [gW];split
  ·cases yB (gW c k).pt ((k+1:Nat):Int) (gW c k).pt.length with
   |true=>
    refine⟨?_,?_⟩
    ·rw [zct,e];rfl
    ·show(List.set _ _ _).length=_;rw [List.length_set];exact f
   |false=>exact⟨by rw [zcf,e];rfl,f⟩
  ·exact⟨by rw [e];rfl,f⟩
noncomputable def R19:Rsv Tryz.prog Tryz.f19 [] 1:=⟨_,_,rfl,rfl⟩
theorem bK1(c:Dc)(h:Ok c):aM Tryz.prog 19 [] [.agg c.c] (.agg (gW c c.fr.length).c) []:=by
 have C:=bDS c h;have E:=h.nr;unfold Dc.b Dc.x at C;dsimp only at C;refine fnZ R19 Tryz.func19 ?_;refine Wy ?_;refine Lp (λi:Nat=>i<=c.fr.length) (λi=> [(4,.int .i64 ((i+1:Nat):Int))]) (λi=> [(2,.box [.sl 3 0 c.fl.length,.sl 4 0 c.fr.length,.lst 6 false (aK (c.zo.map noZ)),.lst 3 false (aQ c.gr),.sl 5 0 c.ls.length,.sl 6 0 c.ck.length,.lst 5 false (aN (gW c i).pt)]),(5,.row 3 (aU (gW c i).ls))]) (λi=>c.fr.length-i) 0 (zA _) ?_ ?_
 ·exact Vr [_,_,_,some 3,some 4,some 5,some 6]
 intro i O;refine Wy ?_;obtain⟨e1,J⟩:=aCO c i;refine gE (λb=>?_) (λb=>?_)
 ·have b:i<c.fr.length:=by omega
  have H:=aKT h i;have G:=H.pt;have F:=H.ptl;have M:=bTP (gW c i).pt ((i+1:Nat):Int) G F;have f:=bDU c ((i+1:Nat):Int) h.sm
  have e:gW c (i+1)=match c.fr.getD i none with
   |some u=>bif yB (gW c i).pt ((i+1:Nat):Int) (gW c i).pt.length then((gW c i).pts ((gW c i).pt.map (eP ((i+1:Nat):Int)))).acc i u.ten else(gW c i).pts ((gW c i).pt.map (eP ((i+1:Nat):Int)))
   |none=>(gW c i).pts ((gW c i).pt.map (eP ((i+1:Nat):Int))):=rfl
  have B:fK c ((i+1:Nat):Int)=(c.fr.getD i none).isSome:=by unfold fK;rw [zdt (show(1:Int)<=((i+1:Nat):Int) by omega),zdt (show((i+1:Nat):Int)<=(c.fr.length:Int) by omega),show(((i+1:Nat):Int)-1).toNat=i by omega];rfl
  rw [B] at f
  cases D:c.fr.getD i none with
  |none=>
   rw [D] at e f;have f:aM Tryz.prog 96 [] [.agg c.c,.int .i64 ((i+1:Nat):Int)] (.bool false) []:=f;dsimp only at e;have m:((gW c i).pts ((gW c i).pt.map (eP ((i+1:Nat):Int)))).ls=(gW c i).ls:=rfl;have z:((gW c i).pts ((gW c i).pt.map (eP ((i+1:Nat):Int)))).pt=((gW c i).pt.map (eP ((i+1:Nat):Int))):=rfl;generalize(gW c i).pts ((gW c i).pt.map (eP ((i+1:Nat):Int)))=A at *;generalize yB (gW c i).pt ((i+1:Nat):Int) (gW c i).pt.length=y at *
   generalize((gW c i).pt.map (eP ((i+1:Nat):Int)))=P at *
   cases y with
   |true=> refine Wy ?_;refine Le (i+1) (hv:=?_);simp only [e,m,z];exact Vr [some 0,some 1,some 2,some 3,some 4,some 5,some 6]
   |false=> refine Wy ?_;refine Le (i+1) (hv:=?_);simp only [e,m,z];exact Vr [some 0,some 1,some 2,some 3,some 4,some 5,some 6]
  |some u=>
   rw [D] at e f;have f:aM Tryz.prog 96 [] [.agg c.c,.int .i64 ((i+1:Nat):Int)] (.bool true) []:=f;have N:=h.use i u b D;dsimp only at e;have j:=bTQ ((gW c i).pts ((gW c i).pt.map (eP ((i+1:Nat):Int)))) i u (by rw [e1];exact b) (by rw [e1];exact D) (by rw [e1];exact E) (by show u.ten< (gW c i).ls.length;rw [J,h.nl];exact N.ten) (H.smL _);have m:((gW c i).pts ((gW c i).pt.map (eP ((i+1:Nat):Int)))).ls=(gW c i).ls:=rfl
   have z:((gW c i).pts ((gW c i).pt.map (eP ((i+1:Nat):Int)))).pt=((gW c i).pt.map (eP ((i+1:Nat):Int))):=rfl;have K:(gW c i).pts ((gW c i).pt.map (eP ((i+1:Nat):Int)))=⟨c.fl,c.fr,c.zo.map noZ,c.gr,(gW c i).ls,c.ck,((gW c i).pt.map (eP ((i+1:Nat):Int)))⟩:=by rw [e1];rfl
   rw [K] at j e;generalize yB (gW c i).pt ((i+1:Nat):Int) (gW c i).pt.length=y at *;generalize((gW c i).pt.map (eP ((i+1:Nat):Int)))=P at *;unfold Dc.b Dc.acc at j;unfold Dc.acc at e;dsimp only at j e;rw [List.length_set,J] at j
   cases y with
   |true=> rw [zct] at e;refine Wy ?_;refine Le (i+1) (hv:=?_);simp only [e];exact Vr [some 0,some 1,some 2,some 3,some 4,some 5,some 6]
   |false=> rw [zcf] at e;refine Wy ?_;refine Le (i+1) (hv:=?_);simp only [e];exact Vr [some 0,some 1,some 2,some 3,some 4,some 5,some 6]
 obtain rfl:i=c.fr.length:=by omega
 rw [e1];unfold Dc.c;dsimp only;exact kK
theorem bKO(c:Dc)(h:Ok c)(t:Int):aM Tryz.prog 83 [] [.agg c.c,.int .i64 t] (.bool (decide (0<=t/\t< (c.gr.length:Int)))) []:=by
 have C:=h.ng;have B:=h.nl;have h2:=h.nk;have e1:(aQ c.gr).length=c.gr.length:=by simp [aQ]
 have m:(aU c.ls).length=c.ls.length:=bW _;have z:(aB c.ck).length=c.ck.length:=aA _
 by_cases f:0<=t
 ·by_cases j:t< (c.gr.length:Int)
  ·rw [zdt ⟨f,j⟩];refine aE (ob0:= []) [] Tryz.func83 rfl rfl rfl rfl ?_;exact kK
  ·rw [zdf λe=>j e.2];refine aE (ob0:= []) [] Tryz.func83 rfl rfl rfl rfl ?_;exact kK
 ·rw [zdf λe=>f e.1];refine aE (ob0:= []) [] Tryz.func83 rfl rfl rfl rfl ?_;exact kK
theorem bGZ(c:Dc)(h:Ok c)(m:Nat)(hm:m<c.fr.length):aM Tryz.prog 194 [] [.agg c.c,.int .i64 ((m+1:Nat):Int)] (.bool (lN (c.fr.getD m none))) []:=by
 have B:=h.nr;have f:fK c ((m+1:Nat):Int)=(c.fr.getD m none).isSome:=by unfold fK;rw [zdt (show(1:Int)<=((m+1:Nat):Int) by omega),zdt (show((m+1:Nat):Int)<=(c.fr.length:Int) by omega),show(((m+1:Nat):Int)-1).toNat=m by omega];rfl
 have e:=bDU c ((m+1:Nat):Int) h.sm;rw [f] at e;have hg:=cC c.fr m hm
 cases j:c.fr.getD m none with
 |none=> rw [j] at e hg;have hg:(aO c.fr).getD m []=fre.c:=hg;have e:aM Tryz.prog 96 [] [.agg c.c,.int .i64 ((m+1:Nat):Int)] (.bool false) []:=e;show aM Tryz.prog 194 [] [.agg c.c,.int .i64 ((m+1:Nat):Int)] (.bool false) [];refine aE (ob0:= []) [] Tryz.func194 rfl rfl rfl rfl ?_;exact kK
 |some u=>
  rw [j] at e hg;have e:aM Tryz.prog 96 [] [.agg c.c,.int .i64 ((m+1:Nat):Int)] (.bool true) []:=e;have hg:(aO c.fr).getD m []=u.c:=hg;have z:=bGT u;show aM Tryz.prog 194 [] [.agg c.c,.int .i64 ((m+1:Nat):Int)] (.bool (bif iJ u then(u.p.d:Int)==0 else false)) [];generalize iJ u=y at *
  cases y with
  |true=> refine aE (ob0:= []) [] Tryz.func194 rfl rfl rfl rfl ?_;exact kK
  |false=> refine aE (ob0:= []) [] Tryz.func194 rfl rfl rfl rfl ?_;exact kK
noncomputable def bSB:Rsv Tryz.prog Tryz.f284 [] 1:=⟨_,_,rfl,rfl⟩
end Go.Proofs.YtmhapcbjjpadnaaGreat
