/- Caches. -/
import Derived.Test.YtmhapcbjjpadnaaGreatQGc
import Derived.Test.YtmhapcbjjpadnaaGreatQFc
set_option linter.all false
set_option maxHeartbeats 32000000
set_option maxRecDepth 100000
open List renaming length_append→zA,take_of_length_le→zD
open Nat renaming zero_le→zC,le_refl→zE
namespace Go.Proofs.YtmhapcbjjpadnaaGreat
open Go Go.Sk Go.RowKit
def aL5(u:Us):Bool:=bif ((u.p.d:Int) != 0) then(bif ((u.holds:Int)==0) then((u.wr:Int)==0) else false) else false
def aNP(c:Dc)(x:Int):Bool:=match c.fr.getD (x-1).toNat none with |some u=>aL5 u |none=>false
def jC(c:Dc)(n:Int)(l out:List Int):Nat->List Int
 |0=>out
 |i+1=>bif decide (((jC c n l out i).length:Int)<n) then(bif aNP c (l.getD (l.length-1-i) 0) then jC c n l out i++ [l.getD (l.length-1-i) 0] else jC c n l out i) else jC c n l out i
def uG(c:Dc)(t:Int):List Int:=(c.ls.getD t.toNat l0).A++(c.ls.getD t.toNat l0).I
def eK(c:Dc)(n:Int)(O:List Int):Nat->List Int
 |0=> []
 |k+1=>jC c n (uG c (O.getD k 0)) (eK c n O k) (uG c (O.getD k 0)).length
theorem vK {c:Dc} {n:Int} {l out:List Int} {i:Nat} (h:¬((jC c n l out i).length:Int)<n):∀j,i<=j->jC c n l out j=jC c n l out i
 |0,f=>by
  obtain rfl:i=0:=by omega
  rfl
 |j+1,f=>by
  by_cases e:i=j+1
  ·rw [e]
  ·rw [jC,vK h j (by omega),zdf h,zcf]
theorem vL {c:Dc} {n:Int} {O:List Int} {i:Nat} (h:¬((eK c n O i).length:Int)<n):∀j,i<=j->eK c n O j=eK c n O i
 |0,f=>by
  obtain rfl:i=0:=by omega
  rfl
 |j+1,f=>by
  by_cases e:i=j+1
  ·rw [e]
  ·rw [eK,vL h j (by omega)];exact vK (i:=0) h _ (zC _)
theorem lG {c:Dc} {n:Int} {l out:List Int} :∀i,(jC c n l out i).length<=out.length+i
 |0=>zE _
 |i+1=>by
  have e:=lG (c:=c) (n:=n) (l:=l) (out:=out) i;rw [jC]
  cases decide (((jC c n l out i).length:Int)<n) with
  |false=>rw [zcf];omega
  |true=>
   rw [zct]
   cases aNP c (l.getD (l.length-1-i) 0) with
   |false=>rw [zcf];omega
   |true=>rw [zct,zA];simp;omega
theorem uM {c:Dc} (h:c.gr.length=1\/c.gr.length=2):(bM c).length=c.gr.length:=by
 unfold bM aIY;rcases h with h |h
 ·rw [h];rfl
 ·rw [h];cases decide (exT c 0<exT c 1)<;> rfl
theorem aP1 {c:Dc} (h:c.gr.length=1\/c.gr.length=2) {k:Nat} (e:k< (bM c).length):∃t:Nat,(bM c).getD k 0=(t:Int)/\t<c.gr.length:=by
 rw [uM h] at e;unfold bM aIY;rcases h with h |h
 ·rw [h] at e⊢;obtain rfl:k=0:=by omega
  exact⟨0,rfl,by omega⟩
 ·rw [h] at e⊢;have e:k=0\/k=1:=by omega
  rcases e with rfl |rfl <;> cases decide (exT c 0<exT c 1)
  ·exact⟨0,rfl,by omega⟩
  ·exact⟨1,rfl,by omega⟩
  ·exact⟨1,rfl,by omega⟩
  ·exact⟨0,rfl,by omega⟩
def aP0(k:Nat):List Int:=(List.range k).map Int.ofNat
theorem aWB(k:Nat):aB (aP0 (k+1))=aB (aP0 k)++ [[.int .i64 (k:Int)]]:=by unfold aP0 aB;rw [List.range_succ];simp
theorem aHW(k:Nat):(aP0 k).length=k:=by simp [aP0]
noncomputable def bS9:Rsv Tryz.prog Tryz.f106 [] 1:=⟨_,_,rfl,rfl⟩
theorem bJN(e:List (List V))(k:Nat):aM Tryz.prog 106 [.row 1 e] [.sl 0 0 k] (.fn 209 [.ptr 1 0 0]) [.row 1 e,.box [.sl 0 0 k]]:=by refine cX bS9 (ob0:= [_]) Tryz.func106 rfl rfl rfl ?_;exact Wo2
noncomputable def c23:Code:=Tryz.f23.body.getD .skip
noncomputable def bM3:cQ Tryz.prog Tryz.f23.ntmps [2,3,4] [] (cD [0] c23):=⟨_,rfl⟩
noncomputable def bM4:cQ Tryz.prog Tryz.f23.ntmps [2,3,4,5] [] (cD [1,0] c23):=⟨_,rfl⟩
noncomputable def bM5:cQ Tryz.prog Tryz.f23.ntmps [2,3,4,5] [] (cD [1,1,0] c23):=⟨_,rfl⟩
noncomputable def bM6:cQ Tryz.prog Tryz.f23.ntmps [2,3,4,5] [] (cD [1,1,1,0] c23):=⟨_,rfl⟩
noncomputable def bM7:cQ Tryz.prog Tryz.f23.ntmps [2,3,4,5,7] [] (cD [1,1,1,1,0] c23):=⟨_,rfl⟩
noncomputable def bM8:cQ Tryz.prog Tryz.f23.ntmps [2,3,4,7,30,31,32] [] (cD [1,1,1,1,1,0,0] c23):=⟨_,rfl⟩
noncomputable def bM9:cQ Tryz.prog Tryz.f23.ntmps [2,3,4,7,30,31,32,33] [] (cD [1,1,1,1,1,0,1,0,0,0] c23):=⟨_,rfl⟩
noncomputable def bMA:cQ Tryz.prog Tryz.f23.ntmps [2,3,4,7,30,31,32] [] (cD [1,1,1,1,1,0,1,0,0,1,0] c23):=⟨_,rfl⟩
noncomputable def bMB:cQ Tryz.prog Tryz.f23.ntmps [2,3,4,7,9,30,31,32] [] (cD [1,1,1,1,1,0,1,0,0,1,1,0,0,0] c23):=⟨_,rfl⟩
noncomputable def bMC:cQ Tryz.prog Tryz.f23.ntmps [2,3,4,7,10,30,31,32] [] (cD [1,1,1,1,1,0,1,0,0,1,1,0,0,1,0] c23):=⟨_,rfl⟩
noncomputable def bMD:cQ Tryz.prog Tryz.f23.ntmps [2,3,4,7,30,31,32,47] [] (cD [1,1,1,1,1,0,1,0,0,1,1,0,0,1,1,0] c23):=⟨_,rfl⟩
noncomputable def bME:cQ Tryz.prog Tryz.f23.ntmps [2,3,4,7,12] [] (cD [1,1,1,1,1,0,1,0,0,1,1,0,0,1,1,1,0,0] c23):=⟨_,rfl⟩
noncomputable def bMG:cQ Tryz.prog Tryz.f23.ntmps [2,3,4,7] [] (cD [1,1,1,1,1,0,1,0,0,1,1,0,0,1,1,1,0,1] c23):=⟨_,rfl⟩
noncomputable def bMF:cQ Tryz.prog Tryz.f23.ntmps [2,3,4,7,30,31,32] [] (cD [1,1,1,1,1,0,1,0,0,1,1,1] c23):=⟨_,rfl⟩
noncomputable def bMH:cQ Tryz.prog Tryz.f23.ntmps [4] [] (cD [1,1,1,1,1,1] c23):=⟨_,rfl⟩
noncomputable def S23(n0:Nat):sZ Unit:= dA (bH Tryz.prog n0 bM3.rc) (dA (bH Tryz.prog n0 bM4.rc) (dA (bH Tryz.prog n0 bM5.rc) (dA (bH Tryz.prog n0 bM6.rc) (dA (bH Tryz.prog n0 bM7.rc) (dA (dA (aEY n0 (bH Tryz.prog n0 bM8.rc)) (fN 2 (aBN n0 (dA (bH Tryz.prog n0 bM9.rc) (dA (bH Tryz.prog n0 bMA.rc) (dA (fN 3 (dA (bH Tryz.prog n0 bMB.rc) (dA (bH Tryz.prog n0 bMC.rc) (dA (bH Tryz.prog n0 bMD.rc) (fN 4 (aEY n0 (aI3 n0 (.t 47) 209 Tryz.f209.ntmps [48,49] (λm=>bH Tryz.prog m bME.rc) (λm=>bH Tryz.prog m bMG.rc) bIB))))))) (bH Tryz.prog n0 bMF.rc))))))) (bH Tryz.prog n0 bMH.rc))))))
theorem bSH(C:Cy Tryz.prog Unit)(h:C.rd=none):aJ C Tryz.f23.ntmps c23 (S23 C.n0):=
 aJ.sq (aJ.bas bM3 (by rfl)) (aJ.sq (aJ.bas bM4 (by rfl)) (aJ.sq (aJ.bas bM5 (by rfl)) (aJ.sq (aJ.bas bM6 (by rfl)) (aJ.sq (aJ.bas bM7 (by rfl)) (aJ.sq (aJ.sq (aJ.vw (aJ.bas bM8 (by rfl))) (aJ.bl (aJ.lp (aJ.sq (aJ.bas bM9 (by rfl)) (aJ.sq (aJ.bas bMA (by rfl)) (aJ.sq (aJ.bl (aJ.sq (aJ.bas bMB (by rfl)) (aJ.sq (aJ.bas bMC (by rfl)) (aJ.sq (aJ.bas bMD (by rfl)) (aJ.bl (aJ.vw (aJ.rg h rfl (ps:= #[48,49]) (by decide) Tryz.func209 rfl rfl rfl (λC2 _=>aJ.bas bME (by rfl)) (λC2 _=>aJ.bas bMG (by rfl)) (λj l e _ f=>bGA j l e f)))))))) (aJ.bas bMF (by rfl)))))))) (aJ.bas bMH (by rfl)))))))
theorem bPC(c:Dc)(h:Ok c)(h2:c.gr.length=1\/c.gr.length=2)(n:Int):aM Tryz.prog 23 [] [.agg c.c,.int .i64 n] (.lst 1 false (aB (eK c n (bM c) (bM c).length))) []:=by
 generalize hq:eK c n (bM c) (bM c).length=q;have ap:(aQ c.gr).length=c.gr.length:=by simp [aQ]
 have hol:=uM h2;have av:=h.nr;refine fnE Tryz.func23 rfl rfl rfl bSH ?_;refine Wy ?_;refine Lp (λi:Nat=>i<=c.gr.length) (λi=> [(16,.int .i64 (i:Int)),(5,.sl 3 0 (aP0 i).length)]) (λi=> [(3,.row 1 (aB (aP0 i)))]) (λi=>c.gr.length-i) 0 (zC _) ?_ ?_
 ·exact Vr [some 0,some 1,some 2,none]
 intro i hi
 by_cases b:i<c.gr.length
 ·have ak:=bKO c h (i:Int);rw [zdt (show 0<=(i:Int)/\(i:Int)< (c.gr.length:Int) by omega)] at ak;have hs:=aWB i;have H:=aHW i;have ag:=aHW (i+1);refine Wy ?_;refine Le (i+1) (hv:=?_);simp only [hs,ag];exact Vr [some 0,some 1,some 2,_]
 obtain rfl:i=c.gr.length:=by omega
 have G:=bOB c h.gr c.gr.length h2 rfl;rw [show(List.range c.gr.length).map Int.ofNat=aP0 c.gr.length from rfl] at G;have H:=aHW c.gr.length;rw [H];refine Wy ?_;have hr:(aB (bM c)).length=c.gr.length:=by rw [aA,hol]
 have ai:((aB (bM c)).drop 0).take c.gr.length=aB (bM c):=by rw [List.drop_zero];exact zD (by rw [hr];exact zE _)
 refine⟨⟨[(2,⟨[],true,.ptr 0 0 0⟩),(3,⟨[],true,.ptr 1 0 0⟩),(4,⟨[],true,.ptr 2 0 0⟩),(5,⟨[],true,.lst 1 false (aB (bM c))⟩),(7,⟨[],true,.ptr 3 0 0⟩)],[(0,.box c.c),(1,.box [.int .i64 n]),(2,.box [.lst 0 true []]),(3,.box [.lst 0 true []])],4⟩,Vr [some 0,some 1,some 2,some 20],?_⟩;clear G;refine Wy ?_
 refine⟨Nat,λk=>k<=(bM c).length/\(eK c n (bM c) k).length<=64*k,λk=>⟨[(2,⟨[],true,.ptr 0 0 0⟩),(3,⟨[],true,.ptr 1 0 0⟩),(4,⟨[],true,.ptr 2 0 0⟩),(7,⟨[],true,.ptr 3 0 0⟩),(30,⟨[],true,.lst 1 false (aB (bM c))⟩),(31,⟨[],true,.int .i64 ((bM c).length:Int)⟩),(32,⟨[],true,.int .i64 (k:Int)⟩)],[(0,.box c.c),(1,.box [.int .i64 n]),(2,.box [.lst 0 true []]),(3,.box [.sl 4 0 (eK c n (bM c) k).length]),(4,.row 1 (aB (eK c n (bM c) k)))],5⟩,λ_=>(),λk=>(bM c).length-k,⟨0,⟨zC _,zE _⟩,?_,rfl⟩,?_⟩
 ·exact Vr [some 0,some 1,some 2,some 3,none]
 rintro k ⟨hk,ar⟩;clear ai
 by_cases b:k< (bM c).length
 ·obtain⟨t,ht,aj⟩:=aP1 h2 b;have T:(aB (bM c)).getD k []=[.int .i64 ((bM c).getD k 0)]:=aC9 b;rw [ht] at T;have D:eK c n (bM c) (k+1)=jC c n (uG c ((bM c).getD k 0)) (eK c n (bM c) k) (uG c ((bM c).getD k 0)).length:=rfl;have Q:=λ(a:¬((eK c n (bM c) (k+1)).length:Int)<n)=>vL a (bM c).length b
  have H:t<c.ls.length:=by rw [h.nl];exact aj
  have B:=eC c.ls t H;have ae:∀x∈uG c t,∃m u,m<c.fr.length/\x=((m+1:Nat):Int)/\c.fr.getD m none=some u:=λx hx=>by obtain⟨m,u,a1,a2,a3,-⟩:=h.mem t x H (List.mem_append.1 hx);exact⟨m,u,a1,a2,a3⟩
  have J:=((bF _).1 (h.ls t H)).len;have z:uG c t=(c.ls.getD t l0).A++(c.ls.getD t l0).I:=rfl;rw [ht] at D;dsimp only;generalize Z:eK c n (bM c) (k+1)=o2 at *;generalize eK c n (bM c) k=e at *;generalize uG c t=l at *;generalize c.ls.getD t l0=la at *;obtain⟨A,I,R⟩:=la;dsimp only at z J;have B:(aU c.ls).getD t []=[.lst 1 false (aB A),.lst 1 false (aB I),.lst 1 false (aB R)]:=B;have au:l.length=A.length+I.length:=by rw [z,zA]
  rw [zA] at J;have K:(aB A).length=A.length:=aA _;have M:(aB I).length=I.length:=aA _;have Y:aB l=aB A++aB I:=by rw [z];simp [aB]
  have ad:=sV (aB A) false (by omega);have ac:=bJN (aB A++aB I) (A.length+I.length);refine Wy ?_;have aa:(aB A++aB I).length=A.length+I.length:=by rw [zA,K,M]
  have ab:((aB A++aB I).drop 0).take (A.length+I.length)=aB A++aB I:=by rw [List.drop_zero];exact zD (by rw [aa];exact zE _)
  refine⟨⟨[(2,⟨[],true,.ptr 0 0 0⟩),(3,⟨[],true,.ptr 1 0 0⟩),(4,⟨[],true,.ptr 2 0 0⟩),(7,⟨[],true,.ptr 3 0 0⟩),(30,⟨[],true,.lst 1 false (aB (bM c))⟩),(31,⟨[],true,.int .i64 ((bM c).length:Int)⟩),(32,⟨[],true,.int .i64 (k:Int)⟩),(47,⟨[],true,.fn 209 [.ptr 4 0 0]⟩)],[(0,.box c.c),(1,.box [.int .i64 n]),(2,.box [.lst 0 true []]),(3,.box [.sl 5 0 e.length]),(4,.box [.lst 1 false (aB l)]),(5,.row 1 (aB e))],6⟩,by rw [Y];exact Vr [some 0,some 1,some 2,some 3,some 15456,some 4],?_⟩
  clear ad ac B ab aa Y z K M T;refine⟨_,5,rfl,by decide,⟨zC _,by show 5<=6;decide⟩,rfl,λy=>?_⟩;have ao:(aB l).length=l.length:=aA _;refine Wy ?_
  refine⟨Nat,λi=>i<=l.length,λi=>⟨[(0,⟨[],true,.val (.func (.yield y) #[] #[])⟩),(1,⟨[],true,.ptr 4 0 0⟩),(3,⟨[],true,.int .i64 (((l.length-i:Nat):Int)-1)⟩)],[(0,.box c.c),(1,.box [.int .i64 n]),(2,.box [.lst 0 true []]),(3,.box [.sl 5 0 (jC c n l e i).length]),(4,.box [.lst 1 false (aB l)]),(5,.row 1 (aB (jC c n l e i)))],6⟩,λ_=>((),none),λi=>l.length-i,⟨0,zC _,?_,rfl⟩,?_⟩
  ·exact Vr [some 0,some 1,some 2,some 3,some 4,some 5]
  intro i hi
  by_cases b3:i<l.length
  ·have hs:=vK (c:=c) (n:=n) (l:=l) (out:=e) (i:=i);have f:jC c n l e (i+1)=bif decide (((jC c n l e i).length:Int)<n) then(bif aNP c (l.getD (l.length-1-i) 0) then jC c n l e i++ [l.getD (l.length-1-i) 0] else jC c n l e i) else jC c n l e i:=rfl
   have am:=lG (c:=c) (n:=n) (l:=l) (out:=e) i;have e3:(((l.length-i:Nat):Int)-1)=((l.length-1-i:Nat):Int):=by omega
   have e4:(((l.length- (i+1):Nat):Int)-1)=((l.length-1-i:Nat):Int)-1:=by omega
   have W:l.length-1-i<l.length:=by omega
   have af:(aB l).getD (l.length-1-i) []=[.int .i64 (l.getD (l.length-1-i) 0)]:=aC9 W;have E:l.getD (l.length-1-i) 0∈l:=by rw [List.getD_eq_getElem?_getD,List.getElem?_eq_getElem W];exact List.getElem_mem _
   obtain⟨m,u,m1,m2,m3⟩:=ae _ E;have aq:=qA m1 m3;have al:=bDU c ((m+1:Nat):Int) h.sm;rw [nJ m1 m3] at al;have N:aNP c (l.getD (l.length-1-i) 0)=aL5 u:=by unfold aNP;rw [m2,show(((m+1:Nat):Int)-1).toNat=m by omega,m3]
   rw [N] at f;rw [m2] at f af;dsimp only;rw [e3];generalize l.length-1-i=j at *;generalize aw:jC c n l e i=o at *;clear N E m2;have ax:(aB o).length=o.length:=aA _;have ah:aB (o++ [((m+1:Nat):Int)])=aB o++ [[.int .i64 ((m+1:Nat):Int)]]:=by simp [aB]
   by_cases c1:(o.length:Int)<n
   ·rw [zdt c1,zct] at f;have hB:(bif (bif (bif true then((u.p.d:Int) != 0) else false) then((u.holds:Int)==0) else false) then((u.wr:Int)==0) else false)=aL5 u:=by unfold aL5;cases((u.p.d:Int) != 0)<;> cases((u.holds:Int)==0)<;> cases((u.wr:Int)==0)<;> rfl
    cases O:aL5 u with
    |false=> rw [O] at hB f;rw [zcf] at f;refine Wy ?_;refine⟨i+1,b3,?_,rfl,by show l.length- (i+1)<l.length-i;omega⟩;simp only [f,e4];exact Vr [some 0,some 1,some 2,some 3,some 4,some 5]
    |true=> rw [O] at hB f;rw [zct] at f;refine Wy ?_;refine⟨i+1,b3,?_,rfl,by show l.length- (i+1)<l.length-i;omega⟩;simp only [f,e4,ah,zA];exact Vr [some 0,some 1,some 2,some 3,some 4,_]
   ·have C:=hs c1 l.length hi;rw [<-D] at C;have F:=Q (by rw [C];exact c1);rw [hq,C] at F;subst F;refine Wy ?_;exact Lz
  ·obtain rfl:i=l.length:=by omega
   dsimp only;rw [<-D];refine Wy ?_;refine⟨k+1,⟨b,by rw [Z,D];have :=lG (c:=c) (n:=n) (l:=l) (out:=e) l.length;omega⟩,?_,rfl,by show(bM c).length- (k+1)< (bM c).length-k;omega⟩;simp only [Z];exact Vr [some 0,some 1,some 2,some 3,some 5]
 ·obtain rfl:k=(bM c).length:=by omega
  dsimp only;rw [hq];refine Wy ?_;exact Lz
end Go.Proofs.YtmhapcbjjpadnaaGreat
